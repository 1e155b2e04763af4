/- Proved: LifeEvenCard_holds of this seat, for every input that its row lets in. Merged by a program of mine (merge.py) of my texts. -/
import Derived.Test.YtpbnjifefoniiaaGreatDoorQd
namespace Go.Proofs.YtpbnjifefoniiaaGreatDoor
open Go Go.SE
variable {w0 : World} {w : World} {l : List HP} {i : Nat} {F : Forest} {D : Nat} {fb : Nat} {g : Int}
abbrev newN (id p weight : Int) : NdG := ⟨⟨id, p, weight, 0, 0⟩, 0, 0⟩
abbrev bkN (bk : Int → Nat) (id : Int) (b : Nat) : Int → Nat := fun i => if i = id then b else bk i
theorem ndF_new {bk : Int → Nat} {xs : List NdG} {id p weight : Int} {b : Nat} (h : ∀ y ∈ xs, y.g.id ≠ id ∧ (y.g.parent < 0 ∨ y.g.parent ≠ id)) (hp : p < 0 ∨ p ≠ id) :
    ndF (bkN bk id b) (xs ++ [newN id p weight]) = ndF bk xs ++ [(b, [int id, ndP bk p, int weight, int 0, int 0, int 0, int 0])] := by
  rw [ndF, List.map_append]
  have hP : ∀ q : Int, (q < 0 ∨ q ≠ id) → ndP (bkN bk id b) q = ndP bk q := fun q hq => by
    unfold ndP bkN
    split
    · rfl
    · rw [if_neg (by omega)]
  congr 1
  · refine List.map_congr_left fun y hy => ?_
    obtain ⟨h1, h2⟩ := h y hy
    show (bkN bk id b y.g.id, ndC (bkN bk id b) y) = (bk y.g.id, ndC bk y)
    rw [ndC, hP _ h2]
    simp only [bkN, if_neg h1]
  · show [(bkN bk id b id, ndC (bkN bk id b) (newN id p weight))] = _
    rw [ndC]
    show [(bkN bk id b id, [int id, ndP (bkN bk id b) p, int weight, int 0, int 0, int 0, int 0])] = _
    rw [hP _ hp]; simp [bkN]
theorem FoI.more {x : FoX} (h : FoI F x) (hO : F.Ok D) (p weight : Int) (xs1 : List NdG) (bk' : Int → Nat) (h1 : xs1.map (·.g) = F.L) (hs : ∀ y ∈ xs1, y.sub = (F.kids y.g.id).length + (if p = y.g.id then 1 else 0)) (hp : p < 0 ∨ (F.get p).isSome = true) (hroom : F.L.length < F.room) (h0 : 0 ≤ F.last) :
    FoI (F.more p weight) ⟨x.tb, x.gm, bk', xs1 ++ [newN (F.last + 1) p weight], x.sl.set (x.sl.idxOf 0) (F.last + 1)⟩ := by
  have hids := h.ids
  have hlen : (tids x.sl).length = F.L.length := by rw [hids, List.length_map]
  have hle : ∀ v ∈ x.sl, v ≠ 0 → v < F.last + 1 := fun v hv hv0 => by
    have := tids_mem.2 ⟨hv, hv0⟩
    rw [hids] at this
    obtain ⟨y, hy, rfl⟩ := List.mem_map.1 this
    have := (hO.ids y hy).2; omega
  have hz : 0 ∈ x.sl := tids_room.2 (by rw [hlen, h.len]; exact hroom)
  refine ⟨?_, ?_, ?_, ?_⟩
  · show (xs1 ++ [newN (F.last + 1) p weight]).map (·.g) = F.L ++ [_]
    rw [List.map_append, h1]; rfl
  · show (x.sl.set _ _).length = F.room
    rw [List.length_set]; exact h.len
  · show tids (x.sl.set _ _) = (F.L ++ [_]).map Grp.id
    rw [tids_new hz (by omega) hle, hids, List.map_append]; rfl
  · intro y hy
    rw [Forest.kids_more]
    rcases List.mem_append.1 hy with h2 | h2
    · rw [hs y h2]
      have hyL : y.g ∈ F.L := by rw [← h1]; exact List.mem_map.2 ⟨y, h2, rfl⟩
      have hpos := (hO.ids y.g hyL).1
      by_cases e : p = y.g.id
      · rw [if_pos e, if_pos ⟨e, by omega⟩]; simp
      · rw [if_neg e, if_neg (fun h => e h.1)]; simp
    · have e : y = newN (F.last + 1) p weight := by simpa using h2
      subst e
      show (0 : Int) = ((F.kids (F.last + 1) ++ if p = F.last + 1 ∧ 0 < F.last + 1 then [F.last + 1] else []).length : Nat)
      have h4 : F.kids (F.last + 1) = [] := by
        rw [Forest.kids, List.filter_eq_nil_iff.2]; rfl
        intro z hz
        simp only [decide_eq_true_eq]
        rintro ⟨e, _⟩
        obtain ⟨q, hq⟩ := hO.parentIn (hO.getOf hz) (by omega)
        have h6 := (hO.ids q (kfind_mem hq)).2
        rw [kfind_key hq, e] at h6
        omega
      have h5 : ¬ (p = F.last + 1 ∧ 0 < F.last + 1) := by
        rintro ⟨e, _⟩
        rcases hp with h7 | h7
        · omega
        · obtain ⟨q, hq⟩ := Option.isSome_iff_exists.1 h7
          have h6 := (hO.ids q (kfind_mem hq)).2
          rw [kfind_key hq, e] at h6
          omega
      rw [h4, if_neg h5]; rfl
theorem ndM_bk {gm : Nat} {bk bk' : Int → Nat} {ids : List Int} (h : ∀ i ∈ ids, bk i = bk' i) : ndM gm bk ids = ndM gm bk' ids := by
  have e : ents (fun i : Int => i) (fun i => ptr (bk i)) ids = ents (fun i : Int => i) (fun i => ptr (bk' i)) ids := List.map_congr_left fun i hi => by simp only [h i hi]
  funext f
  simp only [mapL, e]
theorem fam_join {T b : Nat} {cs : List Value} {fs : List (Nat × List Value)} {p q r : HP} (h : S w0 (cells b T cs :: p :: q :: famO T fs :: r :: l) w) : S w0 (p :: q :: famO T (fs ++ [(b, cs)]) :: r :: l) w := by
  have h1 := S.perm (l' := cells b T cs :: famO T fs :: p :: q :: r :: l) h (List.Perm.cons _ (List.perm_append_comm (l₁ := [p, q]) (l₂ := [famO T fs]) |>.append_right (r :: l)))
  have h2 := h1.join2 (p := famO T (fs ++ [(b, cs)])) fun f hf => stars_perm ((List.perm_append_comm (l₁ := [(b, cs)]) (l₂ := fs)).map fun p : Nat × List Value => cells p.1 T p.2) (show stars (((b, cs) :: fs).map fun p : Nat × List Value => cells p.1 T p.2) f from hf)
  exact h2.perm ((List.perm_append_comm (l₁ := [famO T (fs ++ [(b, cs)])]) (l₂ := [p, q])).append_right (r :: l))
theorem fPut_no (tb gm : Nat) (bk : Int → Nat) (xs : List NdG) (sl : List Int) (pv : Value) (weight : Int) (hl : sl.length ≤ 100000) (h : 0 ∉ sl ∨ F.last = 2147483648) :
    Does cx F_tree_Forest_put [ptr fb, pv, int weight] (FrS fb tb gm bk xs w0 (tableO tb sl F.last :: l)) fun v w => v = .tuple #[int 0, int 6] ∧ FrS fb tb gm bk xs w0 (tableO tb sl F.last :: l) w := by
  refine fn_enter (n := N_tree_Forest_put) fn_tree_Forest_put rfl rfl rfl ?_
  refine wk ?_
  refine Fk1 (fun l => tAdd_no tb sl F.last hl h) real_table_Table_Add ?_
  refine wk ?_
  exact eq_rett rfl fun w hw => ⟨rfl, hw⟩
theorem fPut_root (tb gm : Nat) (bk : Int → Nat) (xs : List NdG) (sl : List Int) (weight : Int) (hl : sl.length ≤ 100000) (hI : FoI F ⟨tb, gm, bk, xs, sl⟩) (hO : F.Ok D) (hroom : F.L.length < F.room) (hlast : F.last < 2147483648) :
    Does cx F_tree_Forest_put [ptr fb, .pointer none, int weight] (FrS fb tb gm bk xs w0 (tableO tb sl F.last :: l)) fun v w => v = .tuple #[int (F.last + 1), int 0] ∧ S w0 (forestO fb (F.more (-1) weight) :: l) w := by
  have hz : 0 ∈ sl := tids_room.2 (by rw [hI.ids, List.length_map]; exact Nat.lt_of_lt_of_eq hroom hI.len.symm)
  have h0 : 0 ≤ F.last := by have := hO.last; omega
  have hxs : ∀ y ∈ xs, y.g.id ≤ F.last ∧ y.g.parent ≤ F.last := fun y hy => by
    have hyL : y.g ∈ F.L := by rw [← hI.gs]; exact List.mem_map.2 ⟨y, hy, rfl⟩
    refine ⟨(hO.ids y.g hyL).2, ?_⟩
    by_cases hp : y.g.parent < 0
    · omega
    · obtain ⟨q, hq⟩ := hO.parentIn (hO.getOf hyL) (by omega)
      have h6 := (hO.ids q (kfind_mem hq)).2
      rw [kfind_key hq] at h6; exact h6
  refine fn_enter (n := N_tree_Forest_put) fn_tree_Forest_put rfl rfl rfl ?_
  refine wk ?_
  refine F1 (fun l => tAdd_ok tb sl F.last hl hz ⟨h0, hlast⟩) real_table_Table_Add ?_
  refine wk ?_
  refine ec (oBuild (cs := [int (F.last + 1), .pointer none, int weight, int 0, int 0, int 0, int 0]) ?_)
  refine ec (oBox fun b => ?_)
  have hnew : F.last + 1 ∉ gids xs := fun h => by
    obtain ⟨y, hy, e⟩ := List.mem_map.1 h
    have := (hxs y hy).1; omega
  have hbk : ndM gm bk (gids xs) = ndM gm (bkN bk (F.last + 1) b) (gids xs) := ndM_bk fun i hi => by
    have : i ≠ F.last + 1 := fun e => hnew (e ▸ hi)
    simp [bkN, this]
  rw [hbk]
  refine el_cons rfl (eo_mapsetL (key := fun i : Int => i) (enc := fun i => ptr (bkN bk (F.last + 1) b i)) (L := gids xs) 2 (gids xs ++ [F.last + 1]) rfl rfl rfl rfl rfl rfl rfl rfl rfl rfl (fun kvs hk => ?_) ?_)
  · have h1 := kput_new (a' := F.last + 1) hk (kfind_id_none hnew)
    have e : ptr (bkN bk (F.last + 1) b (F.last + 1)) = ptr b := by simp [bkN]
    rw [e] at h1; exact h1
  refine wk ?_
  refine ec (oPnil ?_)
  refine wk ?_
  refine eq_rett rfl fun w hw => ⟨rfl, ?_⟩
  have hI2 := hI.more hO (-1) weight xs (bkN bk (F.last + 1) b) hI.gs (fun y hy => by
    have hyL : y.g ∈ F.L := by rw [← hI.gs]; exact List.mem_map.2 ⟨y, hy, rfl⟩
    have := (hO.ids y.g hyL).1
    rw [if_neg (by omega)]; simpa using hI.sub y hy) (.inl (by decide)) hroom h0
  refine shut_forest hI2 ?_
  rw [FrS, show gids (xs ++ [newN (F.last + 1) (-1) weight]) = gids xs ++ [F.last + 1] from by simp [gids], ndF_new (fun y hy => by have := hxs y hy; omega) (.inl (by decide))]
  exact fam_join (T := T_tree_node) hw
theorem fRoot (hO : F.Ok D) (hlast : F.last < 2147483648) : ∀ l, Does cx F_tree_Forest_Root [ptr fb] (S w0 (forestO fb F :: l)) fun v w => v = (if F.L.length < F.room then .tuple #[int (F.last + 1), int 0] else .tuple #[int 0, int 6]) ∧ S w0 (forestO fb (if F.L.length < F.room then F.more (-1) 1 else F) :: l) w := by
  intro l
  refine does_forest fun tb gm bk xs sl hI => ?_
  have hl : sl.length ≤ 100000 := by
    have h1 := hI.len
    have h2 := hO.room
    simp only at h1; omega
  refine fn_enter (n := N_tree_Forest_Root) fn_tree_Forest_Root rfl rfl rfl ?_
  refine wk ?_
  by_cases hr : F.L.length < F.room
  · rw [if_pos hr, if_pos hr]
    refine C1 (fPut_root tb gm bk xs sl 1 hl hI hO hr hlast) real_tree_Forest_put ?_
    refine wk ?_
    exact eq_rett rfl fun w hw => ⟨rfl, hw⟩
  · rw [if_neg hr, if_neg hr]
    have hz : 0 ∉ sl := fun h => by
      have h1 := tids_room.1 h
      rw [hI.ids, List.length_map] at h1
      exact hr (Nat.lt_of_lt_of_eq h1 hI.len)
    refine C1 (fPut_no tb gm bk xs sl (.pointer none) 1 hl (.inl hz)) real_tree_Forest_put ?_
    refine wk ?_
    exact eq_rett rfl fun w hw => ⟨rfl, shut_forest hI hw⟩
theorem fNew (n : Nat) (hn : 1 ≤ n ∧ n ≤ 64) : Does cx F_tree_New [int n] (S w0 l) fun v w => ∃ fb : Nat, v = .tuple #[ptr fb, int 0] ∧ True ∧ S w0 (forestO fb ⟨n, 0, []⟩ :: l) w := by
  refine fn_enter (n := N_tree_New) fn_tree_New rfl rfl rfl ?_
  refine wk ?_
  refine Cx1 (tNew n hn) real_table_New fun tb _ => ?_
  refine wk ?_
  refine ec (oMkmap .i64 fun gm => ?_)
  refine ec (oBuild (cs := [ptr tb, .map (some gm)]) ?_)
  refine ec (oBox fun fb => ?_)
  refine wk ?_
  refine eq_rett rfl fun w hw => ⟨fb, rfl, trivial, ?_⟩
  have hI : FoI ⟨n, 0, []⟩ ⟨tb, gm, fun _ => 0, [], List.replicate n 0⟩ := ⟨rfl, by simp, tids_rep n, by simp⟩
  refine shut_forest hI ?_
  have h1 : S w0 (frA fb tb gm :: ndM gm (fun _ => 0) (gids []) :: tableO tb (List.replicate n 0) 0 :: l) w := hw.imp (i := 1) rfl fun h hm => ⟨[], List.Perm.refl _, hm⟩
  have h2 : S w0 (famO T_tree_node (ndF (fun _ => 0) []) :: frA fb tb gm :: ndM gm (fun _ => 0) (gids []) :: tableO tb (List.replicate n 0) 0 :: l) w := S.fold (qs := []) h1 fun _ _ => trivial
  exact h2.perm ((List.perm_append_comm (l₁ := [famO T_tree_node (ndF (fun _ => 0) [])]) (l₂ := [frA fb tb gm, ndM gm (fun _ => 0) (gids [])])).append_right (tableO tb (List.replicate n 0) 0 :: l))
end Go.Proofs.YtpbnjifefoniiaaGreatDoor
namespace Go.Proofs.YtpbnjifefoniiaaGreatDoor
open Go Go.SE
variable {w0 : World} {w : World} {l : List HP} {i : Nat} {F : Forest} {D : Nat} {fb : Nat} {g : Int}
abbrev CM := Int × Int
abbrev cKey (p : CM) : Int := p.1
abbrev cEnc (p : CM) : Value := int p.2
def cval (L : List CM) (i : Int) : Int := ((kfind cKey L i).map (·.2)).getD 0
def cput (L : List CM) (a v : Int) : List CM := if (kfind cKey L a).isSome then kupd cKey L a (fun _ => (a, v)) else L ++ [(a, v)]
theorem kfind_upd {α : Type} {key : α → Int} {f : α → α} {a : Int} (hf : ∀ x, key x = a → key (f x) = a) (i : Int) (L : List α) : kfind key (kupd key L a f) i = (kfind key L i).map fun x => if key x = a then f x else x := by
  induction L with
  | nil => rfl
  | cons b L ih =>
    simp only [kfind, kupd, List.map_cons, List.find?_cons] at ih ⊢
    have e : key (if key b = a then f b else b) = key b := by
      split
      · rename_i h; rw [hf b h, h]
      · rfl
    rw [e]
    cases decide (key b = i) with
    | true => rfl
    | false => exact ih
theorem cput_perm {kvs : List (Int × Value)} {L : List CM} {a v : Int} (hp : kvs.Perm (ents cKey cEnc L)) : (kput kvs a (int v)).Perm (ents cKey cEnc (cput L a v)) := by
  unfold cput
  cases h : kfind cKey L a with
  | none => exact kput_new (a' := (a, v)) hp h
  | some p => exact kput_mem (a' := (a, v)) hp (fun _ => (a, v)) (by show (kfind cKey L a).isSome = true; rw [h]; rfl) fun _ _ _ => rfl
theorem cval_put (L : List CM) (a v i : Int) : cval (cput L a v) i = if i = a then v else cval L i := by
  unfold cput
  cases h : kfind cKey L a with
  | none =>
    simp only [Option.isSome_none, Bool.false_eq_true, if_false]
    unfold cval
    by_cases e : i = a
    · subst e
      rw [if_pos rfl]
      have : kfind cKey (L ++ [(i, v)]) i = some (i, v) := by
        simp only [kfind, List.find?_append]
        have h2 : List.find? (fun a => decide (cKey a = i)) L = none := h
        rw [h2]; simp
      rw [this]; rfl
    · rw [if_neg e]
      have : kfind cKey (L ++ [(a, v)]) i = kfind cKey L i := by
        simp only [kfind, List.find?_append]
        have h2 : List.find? (fun x => decide (cKey x = i)) [(a, v)] = none := by have : ¬ a = i := fun h => e h.symm; simp [cKey, this]
        rw [h2, Option.or_none]
      rw [this]
  | some p =>
    simp only [Option.isSome_some, if_true]
    unfold cval
    rw [kfind_upd (key := cKey) (a := a) (f := fun _ => (a, v)) (fun _ _ => rfl)]
    by_cases e : i = a
    · subst e
      rw [h, if_pos rfl]
      have : cKey p = i := kfind_key h
      simp [this]
    · rw [if_neg e]
      cases h2 : kfind cKey L i with
      | none => rfl
      | some q =>
        have : cKey q = i := kfind_key h2
        simp only [Option.map_some]
        rw [if_neg (by omega)]
def cntO (mm : Nat) (f : Int → Int) : HP := fun h => ∃ L : { L : List CM // ∀ i, cval L i = f i }, mapL mm cKey cEnc L.1 h
abbrev slA (sb fb mm gm n : Nat) (lv : Value) (rr : Option (Nat × Nat)) : HP := cells sb T_share_solver [ptr fb, lv, .map (some mm), sv rr n, .map (some gm)]
theorem told_parent (_hO : F.Ok D) {y : Grp} (hg : F.get g = some y) : F.told g = grC y (F.depth g) (F.root g) := by rw [Forest.told, hg]
theorem sCount (hO : F.Ok D) (sb mm gm n : Nat) (lv : Value) (rr : Option (Nat × Nat)) (f : Int → Int) (hb : ∀ i, 0 ≤ f i ∧ f i ≤ 100000) {y : Grp} (hg : F.get g = some y) :
    Does cx F_share_solver_count [ptr sb, int g] (S w0 (slA sb fb mm gm n lv rr :: forestO fb F :: cntO mm f :: l)) fun v w => v = .tuple #[] ∧ S w0 (slA sb fb mm gm n lv rr :: forestO fb F :: cntO mm (fun i => f i + if i ∈ F.path g then 1 else 0) :: l) w := by
  have hP := (hO.pathOf hg).1
  have hnd := hP.nodup
  refine fn_enter (n := N_share_solver_count) fn_share_solver_count rfl rfl rfl ?_
  refine wk ?_
  refine ej_loop2 (fun (pre rest : List Int) => F.path g = pre ++ rest ∧ (rest = [] ∨ ∃ q, 0 ≤ q ∧ Path F.L q rest)) (fun _ rest => [(0, ptr sb), (4, int (rest.headD (-1)))]) (fun pre _ => S w0 (slA sb fb mm gm n lv rr :: forestO fb F :: cntO mm (fun i => f i + if i ∈ pre then 1 else 0) :: l)) (fun _ rest => rest.length) [] (F.path g) ⟨rfl, .inr ⟨g, by have := getPos hO hg; omega, hP⟩⟩ ?_ (fun w hw => by simpa using hw) ?_
  · obtain ⟨r, hr⟩ := hP.ne
    rw [hr]
    exact le_of _ _ rfl
  rintro pre rest ⟨hs, hrest⟩
  rcases hrest with rfl | ⟨q, hq, hQ⟩
  · rw [List.append_nil] at hs
    refine wk ?_
    refine eq_end [] rvs_nil fun w hw => ⟨rfl, ?_⟩
    rw [hs]; exact hw
  · obtain ⟨rr', rfl⟩ := hQ.ne
    rw [show ((q :: rr').headD (-1)) = q from rfl]
    refine wk ?_
    refine ej_dec rfl (fun _ => ?_) (fun h => absurd hq h)
    refine ej_ex (fun w hw => hw.ex (i := 2) rfl (α := { L : List CM // ∀ i, cval L i = f i + if i ∈ pre then 1 else 0 }) (q := fun L => mapL mm cKey cEnc L.1) fun h hp => hp) fun L => ?_
    refine wk ?_
    refine Go.SE.Lk ?_
    have hqp : q ∉ pre := fun hm => by
      rw [hs] at hnd
      exact (List.nodup_append.1 hnd).2.2 q hm q (by simp) rfl
    have hfq := hb q
    have hval : lookL cKey cEnc L.1 q (int 0) false = int (f q) := by
      have h1 := L.2 q
      rw [if_neg hqp, Int.add_zero] at h1
      rw [lookL, if_neg (by decide), ← h1, cval]
      cases kfind cKey L.1 q <;> rfl
    refine el_val 15 rfl hval ?_
    refine wk ?_
    refine el_cons rfl (eo_mapsetL (key := cKey) (enc := cEnc) (L := L.1) 2 (cput L.1 q (f q + 1)) rfl rfl rfl rfl rfl rfl rfl rfl rfl rfl (fun kvs hk => cput_perm hk) ?_)
    refine wk ?_
    obtain ⟨u, hu⟩ := hQ.get
    refine Fk1 (fun l => fGroup hO q l) real_tree_Forest_Group ?_
    rw [told_parent hO hu, show F.there q = 0 from by rw [Forest.there, show F.get q = some u from hu]; rfl]
    refine wk ?_
    refine ec (oAlloc fun b9 => ?_)
    refine ec (oStA (vs := grC u (F.depth q) (F.root q)) 0 ?_)
    refine wk ?_
    have hnext : F.path g = (pre ++ [q]) ++ rr' ∧ u.parent = rr'.headD (-1) ∧ (rr' = [] ∨ ∃ q, 0 ≤ q ∧ Path F.L q rr') := by
      refine ⟨by rw [hs]; simp, ?_⟩
      cases hQ with
      | root h hp =>
        rw [hu] at h
        obtain rfl := Option.some.inj h
        exact ⟨(hO.roots u (kfind_mem hu)).1 hp, .inl rfl⟩
      | up h hp hl =>
        rw [hu] at h
        obtain rfl := Option.some.inj h
        obtain ⟨r2, rfl⟩ := hl.ne
        exact ⟨rfl, .inr ⟨_, hp, hl⟩⟩
    refine eq_back2 (pre ++ [q]) rr' ⟨hnext.1, hnext.2.2⟩ (by simp) ?_ fun w hw => ?_
    · rw [← hnext.2.1]
      exact le_of _ _ rfl
    · have h1 := hw.erase 0
      refine S.imp (i := 2) h1 rfl fun h hp => ⟨⟨cput L.1 q (f q + 1), fun i => ?_⟩, hp⟩
      rw [cval_put, L.2 i]
      by_cases e : i = q
      · subst e; simp
      · simp [e]
end Go.Proofs.YtpbnjifefoniiaaGreatDoor
namespace Go.Proofs.YtpbnjifefoniiaaGreatDoor
open Go Go.SE
section
variable {C : Cx} {n : Nat} {Q : Kont} {e : Env} {H : WP} {ops : Array Oper} {rest : List Oper} {o : Oper} {w0 w : World} {l hs : List HP} {f : Int → Int}
theorem er_cnt {b t kt et : Nat} {x y : Operand} {tl tk te : TI} {a : Int} (ho : o.op = .lookup t x y false)
    (hx : ev e x = some (.map (some b))) (hy : ev e y = some (.int .i64 a)) (ht : C.L.ti t = some tl) (hk : tl.kind = .map kt et) (htk : C.L.ti kt = some tk) (hkk : tk.kind = .int .i64) (hte : C.L.ti et = some te) (hz : te.zero = int 0)
    {I : WP} (hI : ∀ w, I w → ∃ (l : List HP) (i : Nat), S w0 l w ∧ l[i]? = some (cntO b f)) : ER C n o e I (int (f a)) := by
  refine ⟨fun ac w hf hw => ?_⟩
  obtain ⟨l, i, hS, hi⟩ := hI w hw
  obtain ⟨L, hS'⟩ := hS.ex hi (α := { L : List CM // ∀ i, cval L i = f i }) (q := fun L => mapL b cKey cEnc L.1) fun h hp => hp
  have hil := (List.getElem?_eq_some_iff.1 hi).1
  have h := (er_lookL (w0 := w0) (C := C) (n := n) (key := cKey) (enc := cEnc) (L := L.1) (i := i) ho hx hy ht hk htk hkk hte (I := fun w' => w' = w) fun w' e => ⟨_, e ▸ hS', by simp [hil]⟩).run ac w hf rfl
  have e1 : lookL cKey cEnc L.1 a te.zero false = int (f a) := by
    rw [lookL, if_neg (by decide), hz, ← L.2 a, cval]
    cases kfind cKey L.1 a <;> rfl
  rw [e1] at h; exact h
theorem LkC {i d b t kt et : Nat} {x y : Operand} {tl tk te : TI} {a : Int} (h : EL C n rest ops Q ((d, int (f a)) :: e) (S w0 l)) (hg : want ops e o = some true := by exact rfl) (ho : o.op = .lookup t x y false := by exact rfl) (hd : o.dst = some d := by exact rfl) (hn : Nat.ble n d = false := by exact rfl)
    (hx : ev e x = some (.map (some b)) := by exact rfl) (hy : ev e y = some (.int .i64 a) := by exact rfl) (ht : C.L.ti t = some tl := by exact rfl) (hk : tl.kind = .map kt et := by exact rfl) (htk : C.L.ti kt = some tk := by exact rfl) (hkk : tk.kind = .int .i64 := by exact rfl) (hte : C.L.ti et = some te := by exact rfl) (hz : te.zero = int 0 := by exact rfl)
    (hi : l[i]? = some (cntO b f) := by first | exact at0 | exact at1 | exact at2 | exact at3 | exact at4 | exact at5 | exact at6 | exact at7 | exact at8 | exact at9 | exact at10 | exact at11 | exact at12 | exact at13 | exact at14 | exact at15) : EL C n (o :: rest) ops Q e (S w0 l) :=
  el_cons hg (eo_er hd hn (er_cnt ho hx hy ht hk htk hkk hte hz fun _ hw => ⟨l, i, hw, hi⟩) h)
theorem rCnt {b t kt et : Nat} {x y : Operand} {tl tk te : TI} {a : Int} (j : Nat) (ho : o.op = .lookup t x y false := by exact rfl)
    (hx : ev e x = some (.map (some b)) := by exact rfl) (hy : ev e y = some (.int .i64 a) := by exact rfl) (ht : C.L.ti t = some tl := by exact rfl) (hk : tl.kind = .map kt et := by exact rfl) (htk : C.L.ti kt = some tk := by exact rfl) (hkk : tk.kind = .int .i64 := by exact rfl) (hte : C.L.ti et = some te := by exact rfl) (hz : te.zero = int 0 := by exact rfl)
    (hi : hs[j]? = some (cntO b f) := by exact rfl) : ER C n o e (Held w0 hs) (int (f a)) :=
  er_cnt ho hx hy ht hk htk hkk hte hz fun w ⟨l, h1, h2⟩ => by
    obtain ⟨i, q, h3, hq⟩ := h2.get hi
    have hil := (List.getElem?_eq_some_iff.1 h3).1
    exact ⟨l.set i (cntO b f), i, h1.imp h3 hq, List.getElem?_set_self hil⟩
end
variable {w0 : World} {w : World} {l : List HP} {i : Nat} {F : Forest} {D : Nat} {fb : Nat} {g : Int} {ls : List Leaf} {G : Hp}
abbrev lfC (x : Leaf) : List Value := [int x.group, int x.weight]
theorem lf2 (x : Leaf) : (lfC x).length = 2 := rfl
structure LvsV (w0 : World) (G : Hp) (v : Value) (ls : List Leaf) : Prop where
  is : ∃ a c, v = .slice a ls.length c ∧ Fv w0 G 2 a (rows lfC ls) ls.length c
theorem LvsV.up {G G' : Hp} {v : Value} (h : LvsV w0 G v ls) (hu : Up G G') : LvsV w0 G' v ls :=
  let ⟨a, c, h1, h2⟩ := h.is
  ⟨a, c, h1, h2.up hu⟩
theorem sCh1 (sb mm gm n cs : Nat) (lv : Value) (rr : Option (Nat × Nat)) (f : Int → Int) (c : Int) {i j k : Nat} (hi : l[i]? = some (cells cs T_P_share_solver [ptr sb])) (hj : l[j]? = some (slA sb fb mm gm n lv rr)) (hk : l[k]? = some (cntO mm f)) :
    Does cx F_share_solver_children_1 [int c, ptr cs] (S w0 l) fun v w => v = .bool (decide (f c = 0)) ∧ S w0 l w := by
  refine fn_enter (n := N_share_solver_children_1) fn_share_solver_children_1 rfl rfl rfl ?_
  refine wk ?_
  refine Ld (i := i) (hi := hi) ?_
  refine wk ?_
  refine Ld (i := j) (hi := hj) ?_
  refine wk ?_
  refine LkC (i := k) (hi := hk) ?_
  refine wk ?_
  exact eq_rett rfl fun w hw => ⟨rfl, hw⟩
theorem sChildren (hO : F.Ok D) (sb mm gm n : Nat) (lv : Value) (rr : Option (Nat × Nat)) (f : Int → Int) (hf : ∀ c ∈ F.kids g, f c = many F ls c) (hL : ls.length ≤ 64) (hlv : LvsV w0 G lv ls) (hk32 : (F.kids g).length ≤ 1000) :
    Does cx F_share_solver_children [ptr sb, int g] (S w0 (slA sb fb mm gm n lv rr :: forestO fb F :: cntO mm f :: frz G :: l)) fun v w => ∃ x : Option (Nat × Nat) × Option (Nat × Nat), v = .tuple #[sv x.1 (kidsL F ls g).length, sv x.2 (leavesAt ls g).length] ∧ True ∧
      S w0 (rowC x.2 T_int 1 (ints ((leavesAt ls g).map Int.ofNat)) (leavesAt ls g).length :: rowC x.1 T_int 1 (ints (kidsL F ls g)) (kidsL F ls g).length :: slA sb fb mm gm n lv rr :: forestO fb F :: cntO mm f :: frz G :: l) w := by
  refine fn_enter (n := N_share_solver_children) fn_share_solver_children rfl rfl rfl ?_
  refine wk ?_
  refine ec (oBox fun cs => ?_)
  refine wk ?_
  refine Fn1 (fKids hO g) real_tree_Forest_Children fun r1 _ => ?_
  refine wk ?_
  refine C1 (DeleteFunc_row (.func (.func F_share_solver_children_1) #[] #[ptr cs]) (fun x => decide (f x = 0)) T_int rfl (by omega) (fun q x hx => yld_of (first := []) (capt := [ptr cs]) real_share_solver_children_1 (Does.mono (sCh1 sb mm gm n cs lv rr f x (i := 1) (j := 2) (k := 4) rfl rfl rfl) (fun _ h => h) fun v w h => ⟨_, h.1, rfl, h.2⟩))) real_slices_DeleteFunc_int_int ?_
  have ek : (F.kids g).filter (fun x => !decide (f x = 0)) = kidsL F ls g := by
    refine List.filter_congr fun c hc => ?_
    rw [hf c hc, Bool.eq_iff_iff]
    simp; omega
  rw [ek]
  refine wk ?_
  obtain ⟨la, lc, rfl, hV⟩ := hlv.is
  refine wk ?_
  refine ej_row0 T_int 1 ?_
  let q : Nat → Bool := fun i => (ls[i]?).any fun l => decide (l.group = g)
  let pre : Nat → List Int := fun k => ((List.range k).filter q).map Int.ofNat
  have hpre : ∀ k, pre (k + 1) = pre k ++ if q k then [(k : Int)] else [] := fun k => by
    show ((List.range (k + 1)).filter q).map Int.ofNat = _
    rw [List.range_succ, List.filter_append, List.map_append]
    congr 1
    rw [List.filter_cons]
    cases q k <;> rfl
  have hplen : ∀ k, (pre k).length ≤ k := fun k => by
    show (((List.range k).filter q).map Int.ofNat).length ≤ k
    rw [List.length_map]
    exact Nat.le_trans (List.length_filter_le ..) (by simp)
  have hfin : pre ls.length = (leavesAt ls g).map Int.ofNat := rfl
  have hp0 : pre 0 = [] := rfl
  generalize pre = pre at hpre hplen hfin hp0
  refine ej_loop2 (fun (k : Nat) (_ : Option (Nat × Nat)) => k ≤ ls.length) (fun k r2 => [(1, int g), (4, sv r1 (kidsL F ls g).length), (5, sv r2 (pre k).length), (19, .slice la ls.length lc), (20, int ls.length), (21, int k)])
    (fun k r2 => S w0 (rowC r2 T_int 1 (ints (pre k)) (pre k).length :: rowC r1 T_int 1 (ints (kidsL F ls g)) (kidsL F ls g).length :: cells cs T_P_share_solver [ptr sb] :: slA sb fb mm gm n (.slice la ls.length lc) rr :: forestO fb F :: cntO mm f :: frz G :: l)) (fun k _ => ls.length - k) 0 none (Nat.zero_le _) (by rw [hp0]; exact le_of _ _ rfl) (fun w hw => by rw [hp0]; exact hw) ?_
  rintro k r2 hk
  have hpk := hplen k
  refine wk ?_
  refine ej_dec rfl (fun h => ?_) (fun h => ?_)
  · have h : k < ls.length := by omega
    obtain ⟨x, hx⟩ : ∃ x, ls[k]? = some x := ⟨_, List.getElem?_eq_getElem h⟩
    refine wk ?_
    refine Ixf hV ?_
    refine LdfA (k * 2) hV (cs := lfC x) (fun q hq => rows_get lfC 2 lf2 ls k q x hx hq) ?_
    refine wk ?_
    refine ec (oAlloc fun b9 => ?_)
    refine wk ?_
    have hqk : q k = decide (x.group = g) := by
      show (ls[k]?).any _ = _
      rw [hx]; rfl
    refine ej_dec rfl (fun h => ?_) (fun h => ?_)
    · have h : x.group = g := h
      have e := hpre k
      rw [if_pos (by rw [hqk]; simpa using h)] at e
      refine wk ?_
      refine App (cs := [int k]) (i := 1) (fun r' b7 => ?_) (hc := by exact rfl)
      refine wk ?_
      refine eq_back2 (k + 1) r' (by omega) (by omega) ?_ fun w hw => ?_
      · rw [e, List.length_append]
        exact le_of _ _ rfl
      · rw [e, ints, List.map_append, List.length_append]
        exact hw.erase 0
    · have h : ¬ x.group = g := h
      have e := hpre k
      rw [if_neg (by rw [hqk]; simpa using h), List.append_nil] at e
      refine wk ?_
      refine eq_back2 (k + 1) r2 (by omega) (by omega) ?_ fun w hw => ?_
      · rw [e]
        exact le_of _ _ rfl
      · rw [e]
        exact hw.erase 0
  · obtain rfl : k = ls.length := by omega
    rw [hfin]
    refine wk ?_
    refine eq_rett rfl fun w hw => ⟨(r1, r2), ?_, trivial, ?_⟩
    · rw [List.length_map]; rfl
    · rw [List.length_map] at hw
      exact S.erase (i := 2) hw
end Go.Proofs.YtpbnjifefoniiaaGreatDoor
namespace Go.Proofs.YtpbnjifefoniiaaGreatDoor
open Go Go.SE
variable {w0 : World} {w : World} {l : List HP} {i : Nat} {F : Forest} {D : Nat} {fb : Nat} {g : Int} {ls : List Leaf} {G : Hp}
abbrev aKey (p : Int × Value) : Int := p.1
abbrev aEnc (p : Int × Value) : Value := p.2
def anyM (gm : Nat) : HP := fun h => ∃ L : List (Int × Value), mapL gm aKey aEnc L h
def aput (L : List (Int × Value)) (a : Int) (v : Value) : List (Int × Value) := if (kfind aKey L a).isSome then kupd aKey L a (fun _ => (a, v)) else L ++ [(a, v)]
theorem aput_perm {kvs L : List (Int × Value)} {a : Int} {v : Value} (hp : kvs.Perm (ents aKey aEnc L)) : (kput kvs a v).Perm (ents aKey aEnc (aput L a v)) := by
  unfold aput
  cases h : kfind aKey L a with
  | none => exact kput_new (a' := (a, v)) hp h
  | some p => exact kput_mem (a' := (a, v)) hp (fun _ => (a, v)) (by show (kfind aKey L a).isSome = true; rw [h]; rfl) fun _ _ _ => rfl
def Shd (w0 : World) (F : Forest) (ls : List Leaf) (x0 : Rat) (q : Leaf → Bool) (G : Hp) (ps ps' : List (Value × Value)) : Prop :=
  ps'.length = ps.length ∧ ∀ (i : Nat) (lf : Leaf) (p : Value × Value), ls[i]? = some lf → ps'[i]? = some p → if q lf then RatV w0 G (.agg (pr p).toArray) (rateL F ls x0 i) ∧ Few 1000 (rateL F ls x0 i) else ps[i]? = some p
theorem rat_one {q : Value × Value} {x : Rat} (h : RatV w0 G (.agg (pr q).toArray) x) : (pr q).all SE.one = true := by
  obtain ⟨a, b, h1, ⟨_, _, ha, _⟩, ⟨_, _, hb, _⟩⟩ := h.is
  have h2 : pr q = [a, b] := by
    have := Value.agg.inj h1
    exact List.toArray_inj this
  rw [h2, ha, hb]; rfl
abbrev shX (sb fb mm gm n : Nat) (lv : Value) (rr : Option (Nat × Nat)) (F : Forest) (f : Int → Int) (G : Hp) (ps : List (Value × Value)) (l : List HP) : List HP :=
  slA sb fb mm gm n lv rr :: forestO fb F :: cntO mm f :: frz G :: rowC rr T_ratio_Ratio 2 (rows pr ps) n :: anyM gm :: l
structure ShH (F : Forest) (D : Nat) (ls : List Leaf) (f : Int → Int) (x0 : Rat) : Prop where
  ok : F.Ok D
  lvs : Lvs F ls
  many : ∀ c, f c = many F ls c
set_option maxHeartbeats 4000000 in
theorem sShare (sb mm gm n : Nat) (lv : Value) (rr : Option (Nat × Nat)) (f : Int → Int) (x0 : Rat) (hH : ShH F D ls f x0) (hn : n = ls.length) :
    ∀ (k : Nat) (g : Int) (y : Grp) (G : Hp) (v : Value) (ps : List (Value × Value)) (l : List HP), F.get g = some y → 8 < F.depth g + k → LvsV w0 G lv ls → RatV w0 G v (rateG F ls x0 g) → Few (4 * F.depth g) (rateG F ls x0 g) → 0 ≤ rateG F ls x0 g → rateG F ls x0 g ≤ (many F ls g : Rat) → ps.length = n →
      Does cx F_share_solver_share [ptr sb, int g, v] (S w0 (shX sb fb mm gm n lv rr F f G ps l)) fun u w => ∃ x : Hp × List (Value × Value), u = int 0 ∧ (Up G x.1 ∧ Shd w0 F ls x0 (fun lf => F.below lf.group g) x.1 ps x.2) ∧ S w0 (shX sb fb mm gm n lv rr F f x.1 x.2 l) w := by
  intro k
  induction k with
  | zero =>
    intro g y G v ps l hg hd
    have := (hH.ok.pathOf hg).2
    rw [Forest.depth] at hd; omega
  | succ k ih =>
    intro g y G v ps l hg hd hlv hv hfew h0 hle hps
    subst hn
    have hO := hH.ok
    have hgpos := getPos hO hg
    have hlen := hH.lvs.len
    have hkids : (F.kids g).length ≤ 32 := by
      have h1 := hO.fans y (kfind_mem hg)
      rw [kfind_key hg, Forest.fan, hg] at h1
      have h2 := hO.mem y (kfind_mem hg)
      simp only [Option.map_some, Option.getD_some] at h1; omega
    obtain ⟨p1, p2, rfl, hp1, hp2⟩ := hv.is
    refine fn_enter (n := N_share_solver_share) fn_share_solver_share rfl rfl rfl ?_
    refine wk ?_
    refine ec (oBox fun tb => ?_)
    refine wk ?_
    refine ej_ex (fun w hw => hw.ex (i := 6) rfl (α := List (Int × Value)) (q := fun L => mapL gm aKey aEnc L) fun h hp => hp) fun LM => ?_
    have hI : ∀ q w, S w0 (cells tb T_ratio_Ratio [p1, p2] :: slA sb fb mm gm ls.length lv rr :: forestO fb F :: cntO mm f :: frz G :: rowC rr T_ratio_Ratio 2 (rows pr ps) ls.length :: q :: l) w → Held w0 [cells tb T_ratio_Ratio [p1, p2], slA sb fb mm gm ls.length lv rr] w := fun q => held2 (i := 0) (j := 1) rfl rfl
    have hI0 := hI (mapL gm aKey aEnc LM)
    refine ej_held [cells tb T_ratio_Ratio [p1, p2], slA sb fb mm gm ls.length lv rr] ?_
    refine tk 0 ?_
    refine tk 1 ?_
    refine tk 2 ?_
    refine tv 3 rfl (rLd 1) ?_
    refine tk 4 ?_
    refine tv 5 rfl (rLdW 0) ?_
    refine wv 6 rfl (eo_mapsetL (key := aKey) (enc := aEnc) (L := LM) 6 (aput LM g (.agg [p1, p2].toArray)) rfl rfl rfl rfl rfl rfl rfl rfl rfl rfl (fun kvs hk => aput_perm hk) ⟨hI _, ?_⟩)
    refine wd ?_
    refine wk ?_
    refine el_imp (fun w hw => S.perm (l' := slA sb fb mm gm ls.length lv rr :: forestO fb F :: cntO mm f :: frz G :: cells tb T_ratio_Ratio [p1, p2] :: rowC rr T_ratio_Ratio 2 (rows pr ps) ls.length :: anyM gm :: l) (S.imp (i := 6) (q := anyM gm) hw rfl fun h hm => ⟨_, hm⟩) ((List.perm_append_comm (l₁ := [cells tb T_ratio_Ratio [p1, p2]]) (l₂ := [slA sb fb mm gm ls.length lv rr, forestO fb F, cntO mm f, frz G])).append_right _)) ?_
    refine Cx1 (sChildren (g := g) (ls := ls) hO sb mm gm ls.length lv rr f (fun c _ => hH.many c) hlen hlv (by omega)) real_share_solver_children ?_
    rintro ⟨r1, r2⟩ _
    have hgl : (kidsL F ls g).length ≤ 32 := Nat.le_trans (List.length_filter_le ..) hkids
    have hll : (leavesAt ls g).length ≤ 64 := Nat.le_trans (List.length_filter_le ..) (by simpa using hlen)
    have hgs : ∀ c ∈ kidsL F ls g, c ∈ F.kids g ∧ 0 < many F ls c := fun c hc => by
      have := List.mem_filter.1 hc
      exact ⟨this.1, by simpa using this.2⟩
    have hch : chs F ls g = (kidsL F ls g).map (fun c => (wtG F c, many F ls c)) ++ (leavesAt ls g).map (fun i => (wtL ls i, 1)) := rfl
    have hlv2 : ∀ i ∈ leavesAt ls g, ∃ lf, ls[i]? = some lf ∧ lf.group = g := fun i hi => by
      have := (List.mem_filter.1 hi).2
      cases h3 : ls[i]? with
      | none => rw [h3] at this; simp at this
      | some lf => rw [h3] at this; exact ⟨lf, rfl, by simpa using this⟩
    have hnl : ∀ (j : Nat) (lf : Leaf), ls[j]? = some lf → (j ∈ leavesAt ls g ↔ lf.group = g) := fun j lf hj => by
      have := (List.getElem?_eq_some_iff.1 hj).1
      rw [leavesAt, List.mem_filter, List.mem_range, hj]
      simp [this]
    have hbel : ∀ lf ∈ ls, F.below lf.group g = (decide (lf.group = g) || (kidsL F ls g).any fun c => F.below lf.group c) := fun lf hl => below_split hO hg hl (let ⟨y, h1, _⟩ := hH.lvs.there lf hl; ⟨y, h1⟩)
    generalize kidsL F ls g = gs at hgl hgs hch hbel
    generalize leavesAt ls g = nl at hll hlv2 hch hnl
    refine wk ?_
    refine ej_row0 T_int 1 ?_
    refine ej_row0 T_int 1 ?_
    refine ej_loop3 (fun (k : Nat) (_ _ : Option (Nat × Nat)) => k ≤ gs.length) (fun k rw rc => [(0, ptr sb), (1, int g), (5, ptr tb), (7, sv r1 gs.length), (8, sv r2 nl.length), (9, sv rw ((gs.take k).map fun c => (wtG F c : Int)).length), (10, sv rc ((gs.take k).map fun c => (many F ls c : Int)).length), (36, sv r1 gs.length), (37, int gs.length), (38, int k)])
      (fun k rw rc => S w0 (rowC rc T_int 1 (ints ((gs.take k).map fun c => (many F ls c : Int))) ((gs.take k).map fun c => (many F ls c : Int)).length :: rowC rw T_int 1 (ints ((gs.take k).map fun c => (wtG F c : Int))) ((gs.take k).map fun c => (wtG F c : Int)).length :: rowC r2 T_int 1 (ints (nl.map Int.ofNat)) nl.length :: rowC r1 T_int 1 (ints gs) gs.length :: slA sb fb mm gm ls.length lv rr :: forestO fb F :: cntO mm f :: frz G :: cells tb T_ratio_Ratio [p1, p2] :: rowC rr T_ratio_Ratio 2 (rows pr ps) ls.length :: anyM gm :: l)) (fun k _ _ => gs.length - k) 0 none none (Nat.zero_le _) (le_of _ _ rfl) (fun w hw => hw) ?_
    rintro k rw rc hk
    have hkw : ((gs.take k).map fun c => (wtG F c : Int)).length ≤ 32 := by simp; omega
    have hkc : ((gs.take k).map fun c => (many F ls c : Int)).length ≤ 32 := by simp; omega
    refine wk ?_
    refine ej_dec rfl (fun h => ?_) (fun h => ?_)
    · have h : k < gs.length := by omega
      obtain ⟨c, hc⟩ : ∃ c, gs[k]? = some c := ⟨_, List.getElem?_eq_getElem h⟩
      obtain ⟨hck, hcm⟩ := hgs c (List.mem_of_getElem? hc)
      obtain ⟨u, hu, hup⟩ := (kids_mem hO (by omega)).1 hck
      have hwt := hO.wt u (kfind_mem hu)
      refine wk ?_
      refine Ixr ?_
      refine Ldr k (ints_get hc) ?_
      refine wk ?_
      refine Fk1 (fun l => fGroup hO c l) real_tree_Forest_Group ?_
      rw [told_parent hO hu, show F.there c = 0 from by rw [Forest.there, hu]; rfl]
      refine wk ?_
      refine ec (oAlloc fun b9 => ?_)
      refine wk ?_
      have hJ : ∀ q1 q2 w, S w0 (cells b9 T_tree_Group (grC u (F.depth c) (F.root c)) :: q2 :: q1 :: rowC r2 T_int 1 (ints (nl.map Int.ofNat)) nl.length :: rowC r1 T_int 1 (ints gs) gs.length :: slA sb fb mm gm ls.length lv rr :: forestO fb F :: cntO mm f :: frz G :: cells tb T_ratio_Ratio [p1, p2] :: rowC rr T_ratio_Ratio 2 (rows pr ps) ls.length :: anyM gm :: l) w → Held w0 [cells b9 T_tree_Group (grC u (F.depth c) (F.root c)), slA sb fb mm gm ls.length lv rr, cntO mm f] w := fun q1 q2 => held3 (i := 0) (j := 5) (k := 7) rfl rfl rfl
      have hJ0 := hJ (rowC rw T_int 1 (ints ((gs.take k).map fun c => (wtG F c : Int))) ((gs.take k).map fun c => (wtG F c : Int)).length) (rowC rc T_int 1 (ints ((gs.take k).map fun c => (many F ls c : Int))) ((gs.take k).map fun c => (many F ls c : Int)).length)
      refine ej_held [cells b9 T_tree_Group (grC u (F.depth c) (F.root c)), slA sb fb mm gm ls.length lv rr, cntO mm f] ?_
      refine tk 0 ?_
      refine tk 1 ?_
      refine tv 2 rfl (rLd 0) ?_
      refine tk 5 ?_
      refine tk 6 ?_
      refine tk 7 ?_
      refine tk 8 ?_
      refine tv 9 rfl (rLd 1) ?_
      refine tk 10 ?_
      refine tv 11 rfl (rCnt 2) ?_
      refine wapp2 3 4 12 13 2 1 rfl rfl rfl rfl (cs1 := [int u.weight]) (cs2 := [int (f c)]) (fun rw' rc' b1 b2 => ?_) hJ rfl rfl rfl (Nat.le_trans hkw (by decide)) (Nat.le_trans hkc (by decide))
      have hJ1 := hJ (rowC rw' T_int 1 (ints ((gs.take k).map fun c => (wtG F c : Int)) ++ [int u.weight]) (((gs.take k).map fun c => (wtG F c : Int)).length + 1)) (rowC rc' T_int 1 (ints ((gs.take k).map fun c => (many F ls c : Int)) ++ [int (f c)]) (((gs.take k).map fun c => (many F ls c : Int)).length + 1))
      refine tk 14 ?_
      refine tk 15 ?_
      refine wd ?_
      refine wk ?_
      have e1 : (gs.take (k + 1)).map (fun c => (wtG F c : Int)) = (gs.take k).map (fun c => (wtG F c : Int)) ++ [u.weight] := by
        rw [List.take_add_one, hc, List.map_append]
        congr 1
        show [(wtG F c : Int)] = [u.weight]
        rw [wtG, hu]
        simp only [Option.map_some, Option.getD_some]
        rw [Int.toNat_of_nonneg (by omega)]
      have e2 : (gs.take (k + 1)).map (fun c => (many F ls c : Int)) = (gs.take k).map (fun c => (many F ls c : Int)) ++ [f c] := by
        rw [List.take_add_one, hc, List.map_append, hH.many c]; rfl
      refine eq_back3 (k + 1) rw' rc' (by omega) (by omega) ?_ fun w hw => ?_
      · rw [e1, e2, List.length_append, List.length_append]
        exact le_of _ _ rfl
      · rw [e1, e2, List.length_append, List.length_append, ints, ints, List.map_append, List.map_append]
        exact hw.erase 0
    · obtain rfl : k = gs.length := by omega
      rw [List.take_length]
      refine wk ?_
      obtain ⟨la, lc, rfl, hV⟩ := hlv.is
      have hw0 : (gs.map fun c => (wtG F c : Int)).length = gs.length := List.length_map ..
      have hc0 : (gs.map fun c => (many F ls c : Int)).length = gs.length := List.length_map ..
      refine ej_loop3 (fun (k : Nat) (_ _ : Option (Nat × Nat)) => k ≤ nl.length) (fun k rw rc => [(0, ptr sb), (1, int g), (5, ptr tb), (7, sv r1 gs.length), (8, sv r2 nl.length), (9, sv rw ((gs.map fun c => (wtG F c : Int)) ++ (nl.take k).map fun i => (wtL ls i : Int)).length), (10, sv rc ((gs.map fun c => (many F ls c : Int)) ++ (nl.take k).map fun _ => (1 : Int)).length), (66, sv r2 nl.length), (67, int nl.length), (68, int k)])
        (fun k rw rc => S w0 (rowC rc T_int 1 (ints ((gs.map fun c => (many F ls c : Int)) ++ (nl.take k).map fun _ => (1 : Int))) ((gs.map fun c => (many F ls c : Int)) ++ (nl.take k).map fun _ => (1 : Int)).length :: rowC rw T_int 1 (ints ((gs.map fun c => (wtG F c : Int)) ++ (nl.take k).map fun i => (wtL ls i : Int))) ((gs.map fun c => (wtG F c : Int)) ++ (nl.take k).map fun i => (wtL ls i : Int)).length :: rowC r2 T_int 1 (ints (nl.map Int.ofNat)) nl.length :: rowC r1 T_int 1 (ints gs) gs.length :: slA sb fb mm gm ls.length (.slice la ls.length lc) rr :: forestO fb F :: cntO mm f :: frz G :: cells tb T_ratio_Ratio [p1, p2] :: rowC rr T_ratio_Ratio 2 (rows pr ps) ls.length :: anyM gm :: l)) (fun k _ _ => nl.length - k) 0 rw rc (Nat.zero_le _) (by simp only [List.take_zero, List.map_nil, List.append_nil]; exact le_of _ _ rfl) (fun w hw => by simpa only [List.take_zero, List.map_nil, List.append_nil] using hw) ?_
      clear hkw hkc
      rintro k rw rc hk
      have hkw : ((gs.map fun c => (wtG F c : Int)) ++ (nl.take k).map fun i => (wtL ls i : Int)).length ≤ 1000 := by simp; omega
      have hkc : ((gs.map fun c => (many F ls c : Int)) ++ (nl.take k).map fun _ => (1 : Int)).length ≤ 1000 := by simp; omega
      refine wk ?_
      refine ej_dec rfl (fun h => ?_) (fun h => ?_)
      · have h : k < nl.length := by omega
        obtain ⟨i, hi⟩ : ∃ i, nl[k]? = some i := ⟨_, List.getElem?_eq_getElem h⟩
        obtain ⟨lf, hlf, hlg⟩ := hlv2 i (List.mem_of_getElem? hi)
        have hiN := (List.getElem?_eq_some_iff.1 hlf).1
        have hlw := hH.lvs.wt lf (List.mem_of_getElem? hlf)
        have hiv : (ints (nl.map Int.ofNat))[k]? = some (int i) := by simp [hi]
        have e1 : (nl.take (k + 1)).map (fun i => (wtL ls i : Int)) = (nl.take k).map (fun i => (wtL ls i : Int)) ++ [lf.weight] := by
          rw [List.take_add_one, hi, List.map_append]
          congr 1
          show [(wtL ls i : Int)] = [lf.weight]
          rw [wtL, hlf]
          simp only [Option.map_some, Option.getD_some]
          rw [Int.toNat_of_nonneg (by omega)]
        have e2 : (nl.take (k + 1)).map (fun _ => (1 : Int)) = (nl.take k).map (fun _ => (1 : Int)) ++ [1] := by
          rw [List.take_add_one, hi, List.map_append]; rfl
        refine wk ?_
        refine Ixr ?_
        refine Ldr k hiv ?_
        refine wk ?_
        refine Ixf hV ?_
        refine wk ?_
        refine el_val 79 (u := .pointer (some ⟨ob la, oo la + (i * 2 + 1), none⟩)) rfl (by show Value.pointer (some ⟨ob la, oo la + (i : Int).toNat * 2 + 1, none⟩) = _; rw [Int.toNat_natCast, Nat.add_assoc]) ?_
        refine Ldf (i * 2 + 1) hV (rows_get lfC 2 lf2 ls i 1 lf hlf (by decide)) ?_
        refine App (cs := [int lf.weight]) (i := 1) (fun rw' b1 => ?_) (hc := by exact rfl)
        refine wk ?_
        refine App (cs := [int 1]) (i := 0) (fun rc' b2 => ?_) (hc := by exact rfl)
        refine wk ?_
        refine eq_back3 (k + 1) rw' rc' (by omega) (by omega) ?_ fun w hw => ?_
        · rw [e1, e2, ← List.append_assoc, ← List.append_assoc]
          generalize ((gs.map fun c => (wtG F c : Int)) ++ (nl.take k).map fun i => (wtL ls i : Int)) = A
          generalize ((gs.map fun c => (many F ls c : Int)) ++ (nl.take k).map fun _ => (1 : Int)) = B
          rw [List.length_append, List.length_append]
          exact le_of _ _ rfl
        · rw [e1, e2, ← List.append_assoc, ← List.append_assoc]
          generalize ((gs.map fun c => (wtG F c : Int)) ++ (nl.take k).map fun i => (wtL ls i : Int)) = A at hw ⊢
          generalize ((gs.map fun c => (many F ls c : Int)) ++ (nl.take k).map fun _ => (1 : Int)) = B at hw ⊢
          rw [List.length_append, List.length_append, ints, ints, List.map_append, List.map_append]
          exact hw
      · obtain rfl : k = nl.length := by omega
        rw [List.take_length]
        have hcs1 : (chs F ls g).map (fun c => (c.1 : Int)) = (gs.map fun c => (wtG F c : Int)) ++ nl.map fun i => (wtL ls i : Int) := by
          rw [hch, List.map_append, List.map_map, List.map_map]; rfl
        have hcs2 : (chs F ls g).map (fun c => (c.2 : Int)) = (gs.map fun c => (many F ls c : Int)) ++ nl.map fun _ => (1 : Int) := by
          rw [hch, List.map_append, List.map_map, List.map_map]; rfl
        rw [← hcs1, ← hcs2]
        refine wk ?_
        refine el_frz 0 fun G1 hu1 hf1 => ?_
        refine el_frz 0 fun G2 hu2 hf2 => ?_
        have hwV : IntsV w0 G2 (sv rw ((chs F ls g).map fun c => (c.1 : Int)).length) ((chs F ls g).map fun c => (c.1 : Int)) := ints_row hf2 rfl
        have hcV : IntsV w0 G2 (sv rc ((chs F ls g).map fun c => (c.2 : Int)).length) ((chs F ls g).map fun c => (c.2 : Int)) := (ints_row hf1 rfl).up hu2
        have hdep := (hO.pathOf hg).2
        have hin : ∀ l ∈ ls, ∃ y, F.get l.group = some y := fun l hl => let ⟨y, h1, _⟩ := hH.lvs.there l hl; ⟨y, h1⟩
        refine G0 (fFill (rateG F ls x0 g) (chs F ls g) (.agg [p1, p2].toArray) _ _ (4 * F.depth g) ((hv.up hu1).up hu2) hwV hcV hfew (by rw [Forest.depth]; omega) (hH.lvs.ChB hO hg) (hH.lvs.fan hO hg) (by rw [cS_chs hO hg hin]; exact hle)) real_fill_Fill fun G3 rv hu3 hrv => ?_
        obtain ⟨L, hL, hR, hF⟩ := hrv
        obtain ⟨ra, rcp, qz, rfl, hRV, hql, hqr⟩ := hR.is
        rw [List.length_map] at hRV hql
        have hlvl : lvl (rateG F ls x0 g) (chs F ls g) = L := lvl_is hL
        have hcl : (chs F ls g).length = gs.length + nl.length := by rw [hch]; simp
        have hleaf : ∀ (k i : Nat), nl[k]? = some i → ∃ q, qz[gs.length + k]? = some q ∧ RatV w0 G3 (.agg (pr q).toArray) (rateL F ls x0 i) ∧ Few 1000 (rateL F ls x0 i) := fun k i hki => by
          obtain ⟨lf, hlf, hlg⟩ := hlv2 i (List.mem_of_getElem? hki)
          have h1 : (chs F ls g)[gs.length + k]? = some (wtL ls i, 1) := by
            rw [hch, List.getElem?_append_right (by simp), List.length_map, Nat.add_sub_cancel_left, List.getElem?_map, hki]; rfl
          have h2 : gs.length + k < qz.length := by rw [hql]; exact (List.getElem?_eq_some_iff.1 h1).1
          have e : rateL F ls x0 i = given L (wtL ls i, 1) := by rw [rateL_of hlf, hlg, hlvl]
          refine ⟨_, List.getElem?_eq_getElem h2, ?_⟩
          rw [e]
          exact ⟨hqr _ _ _ (List.getElem?_eq_getElem h2) (by rw [List.getElem?_map, h1]; rfl), (hF _ (List.mem_of_getElem? h1)).le (by rw [Forest.depth]; omega)⟩
        have hgrp : ∀ (k : Nat) (c : Int), gs[k]? = some c → ∃ q, qz[k]? = some q ∧ RatV w0 G3 (.agg (pr q).toArray) (rateG F ls x0 c) ∧ Few (4 * F.depth c) (rateG F ls x0 c) := fun k c hkc => by
          obtain ⟨hck, hcm⟩ := hgs c (List.mem_of_getElem? hkc)
          obtain ⟨u, hu, hup⟩ := (kids_mem hO (by omega)).1 hck
          have h1 : (chs F ls g)[k]? = some (wtG F c, many F ls c) := by
            rw [hch, List.getElem?_append_left (by rw [List.length_map]; exact (List.getElem?_eq_some_iff.1 hkc).1), List.getElem?_map, hkc]; rfl
          have h2 : k < qz.length := by rw [hql]; exact (List.getElem?_eq_some_iff.1 h1).1
          have e : rateG F ls x0 c = given L (wtG F c, many F ls c) := by rw [rateG_kid hO hg hck, hlvl]
          have ed : F.depth c = F.depth g + 1 := by
            rw [Forest.depth, Forest.depth, hO.pathUp hu (by omega), hup]; rfl
          refine ⟨_, List.getElem?_eq_getElem h2, ?_⟩
          rw [e]
          exact ⟨hqr _ _ _ (List.getElem?_eq_getElem h2) (by rw [List.getElem?_map, h1]; rfl), (hF _ (List.mem_of_getElem? h1)).le (by omega)⟩
        rw [show ((chs F ls g).map (given L)).length = (chs F ls g).length from List.length_map ..]
        refine wk ?_
        refine ej_loop2 (fun (k : Nat) (ps' : List (Value × Value)) => k ≤ nl.length ∧ ps'.length = ls.length ∧ ∀ (j : Nat) (p : Value × Value), ps'[j]? = some p → if j ∈ nl.take k then RatV w0 G3 (.agg (pr p).toArray) (rateL F ls x0 j) ∧ Few 1000 (rateL F ls x0 j) else ps[j]? = some p) (fun k _ => [(0, ptr sb), (1, int g), (7, sv r1 gs.length), (8, sv r2 nl.length), (17, .slice ra (chs F ls g).length rcp), (97, sv r2 nl.length), (98, int nl.length), (99, int k)])
          (fun _ ps' => S w0 (rowC r2 T_int 1 (ints (nl.map Int.ofNat)) nl.length :: rowC r1 T_int 1 (ints gs) gs.length :: slA sb fb mm gm ls.length (.slice la ls.length lc) rr :: forestO fb F :: cntO mm f :: frz G3 :: cells tb T_ratio_Ratio [p1, p2] :: rowC rr T_ratio_Ratio 2 (rows pr ps') ls.length :: anyM gm :: l)) (fun k _ => nl.length - k) 0 ps ⟨Nat.zero_le _, hps, fun j p hj => by simpa using hj⟩ (le_of _ _ rfl) (fun w hw => hw) ?_
        rintro k ps' ⟨hk, hpl, hpp⟩
        refine wk ?_
        refine ej_dec rfl (fun h => ?_) (fun h => ?_)
        · have h : k < nl.length := by omega
          obtain ⟨i, hi⟩ : ∃ i, nl[k]? = some i := ⟨_, List.getElem?_eq_getElem h⟩
          obtain ⟨lf, hlf, hlg⟩ := hlv2 i (List.mem_of_getElem? hi)
          have hiN := (List.getElem?_eq_some_iff.1 hlf).1
          have hiv : (ints (nl.map Int.ofNat))[k]? = some (int i) := by simp [hi]
          obtain ⟨q, hq, hqv⟩ := hleaf k i hi
          have hqN := (List.getElem?_eq_some_iff.1 hq).1
          refine ej_know (fun w hw => hw.row_some (i := 7) rfl (by omega)) fun hrs => ?_
          obtain ⟨⟨rb, rcc⟩, rfl⟩ := hrs
          refine wk ?_
          refine Ixr ?_
          refine Ldr k hiv ?_
          refine wk ?_
          have hI3 : ∀ w, S w0 (rowC r2 T_int 1 (ints (nl.map Int.ofNat)) nl.length :: rowC r1 T_int 1 (ints gs) gs.length :: slA sb fb mm gm ls.length (.slice la ls.length lc) (some (rb, rcc)) :: forestO fb F :: cntO mm f :: frz G3 :: cells tb T_ratio_Ratio [p1, p2] :: rowC (some (rb, rcc)) T_ratio_Ratio 2 (rows pr ps') ls.length :: anyM gm :: l) w → Held w0 [slA sb fb mm gm ls.length (.slice la ls.length lc) (some (rb, rcc)), frz G3] w := held2 (i := 2) (j := 5) rfl rfl
          refine ej_held [slA sb fb mm gm ls.length (.slice la ls.length lc) (some (rb, rcc)), frz G3] ?_
          refine tk 0 ?_
          refine tk 1 ?_
          refine tk 2 ?_
          refine tv 3 rfl (rLd 0) ?_
          refine tk 4 ?_
          refine tk 5 ?_
          refine tk 6 ?_
          refine tv 7 rfl rLenv ?_
          refine tk 8 ?_
          refine tv 9 rfl rArith ?_
          refine tv 10 rfl (rIxf hRV) ?_
          refine tv 11 rfl (rLdfA (i := 1) ((gs.length + k) * 2) hRV (cs := pr q) (fun z hz => rows_get pr 2 pr2 qz (gs.length + k) z q hq hz)) ?_
          refine tv 12 rfl rIxr ?_
          have hrl : (rows pr ps').length = ls.length * 2 := by rw [rows_length pr 2 pr2, hpl]
          refine wv 13 rfl (eo_strA 7 (cs := pr q) rfl rfl rfl rfl rfl rfl (rat_one hqv.1) rfl (by rw [hrl]; show (i : Int).toNat * 2 + 2 ≤ _; omega) (by rw [hrl]; omega) ⟨held2 (i := 2) (j := 5) rfl rfl, ?_⟩)
          refine wd ?_
          refine wk ?_
          have hset : splice (rows pr ps') ((i : Int).toNat * 2) (pr q) = rows pr (ps'.set i q) := by
            rw [Int.toNat_natCast]; exact rows_set pr 2 pr2 ps' i q (by omega)
          refine eq_back2 (k + 1) (ps'.set i q) ⟨by omega, by rw [List.length_set]; exact hpl, fun j p hj => ?_⟩ (by omega) (le_of _ _ rfl) fun w hw => ?_
          · rw [List.take_add_one, hi]
            by_cases e : j = i
            · subst e
              rw [List.getElem?_set_self (by omega)] at hj
              rw [if_pos (by simp), ← Option.some.inj hj]; exact hqv
            · rw [List.getElem?_set_ne (fun h => e h.symm)] at hj
              have := hpp j p hj
              by_cases hm : j ∈ nl.take k
              · rw [if_pos hm] at this
                rw [if_pos (List.mem_append_left _ hm)]; exact this
              · rw [if_neg hm] at this
                rw [if_neg (by simp; exact ⟨hm, e⟩)]; exact this
          · rw [← hset]; exact hw
        · obtain rfl : k = nl.length := by omega
          rw [List.take_length] at hpp
          refine wk ?_
          refine ej_imp' (fun w hw => S.perm (l' := shX sb fb mm gm ls.length (.slice la ls.length lc) rr F f G3 ps' (rowC r2 T_int 1 (ints (nl.map Int.ofNat)) nl.length :: rowC r1 T_int 1 (ints gs) gs.length :: cells tb T_ratio_Ratio [p1, p2] :: l)) hw
            (((List.perm_append_comm (l₁ := [rowC r2 T_int 1 (ints (nl.map Int.ofNat)) nl.length, rowC r1 T_int 1 (ints gs) gs.length]) (l₂ := [slA sb fb mm gm ls.length (.slice la ls.length lc) rr, forestO fb F, cntO mm f, frz G3])).append_right _).trans
              (List.Perm.append_left [slA sb fb mm gm ls.length (.slice la ls.length lc) rr, forestO fb F, cntO mm f, frz G3] ((List.perm_append_comm (l₁ := [rowC r2 T_int 1 (ints (nl.map Int.ofNat)) nl.length, rowC r1 T_int 1 (ints gs) gs.length, cells tb T_ratio_Ratio [p1, p2]]) (l₂ := [rowC rr T_ratio_Ratio 2 (rows pr ps') ls.length, anyM gm])).append_right l)))) ?_
          refine ej_loop3 (fun (k : Nat) (G' : Hp) (pz : List (Value × Value)) => k ≤ gs.length ∧ Up G3 G' ∧ Shd w0 F ls x0 (fun lf => decide (lf.group = g) || (gs.take k).any fun c => F.below lf.group c) G' ps pz) (fun k _ _ => [(0, ptr sb), (1, int g), (17, .slice ra (chs F ls g).length rcp), (118, sv r1 gs.length), (119, int gs.length), (120, int k)])
            (fun _ G' pz => S w0 (shX sb fb mm gm ls.length (.slice la ls.length lc) rr F f G' pz (rowC r2 T_int 1 (ints (nl.map Int.ofNat)) nl.length :: rowC r1 T_int 1 (ints gs) gs.length :: cells tb T_ratio_Ratio [p1, p2] :: l))) (fun k _ _ => gs.length - k) 0 G3 ps' ⟨Nat.zero_le _, Up.rfl, hpl.trans hps.symm, fun j lf p hlf hj => ?_⟩ (le_of _ _ rfl) (fun w hw => hw) ?_
          · have h1 := hpp j p hj
            have h2 := hnl j lf hlf
            simp only [List.take_zero, List.any_nil, Bool.or_false, decide_eq_true_eq]
            by_cases e : lf.group = g
            · rw [if_pos (h2.2 e)] at h1
              rw [if_pos e]; exact h1
            · rw [if_neg (fun h => e (h2.1 h))] at h1
              rw [if_neg e]; exact h1
          clear hpp hpl ps'
          rintro k G' pz ⟨hk, hU, hpz, hpp⟩
          refine wk ?_
          refine ej_dec rfl (fun h => ?_) (fun h => ?_)
          · have h : k < gs.length := by omega
            obtain ⟨c, hc⟩ : ∃ c, gs[k]? = some c := ⟨_, List.getElem?_eq_getElem h⟩
            obtain ⟨hck, hcm⟩ := hgs c (List.mem_of_getElem? hc)
            obtain ⟨u, hu, hup⟩ := (kids_mem hO (by omega)).1 hck
            obtain ⟨q, hq, hqv, hqF⟩ := hgrp k c hc
            have hqN := (List.getElem?_eq_some_iff.1 hq).1
            have hRV' := hRV.up hU
            have ed : F.depth c = F.depth g + 1 := by
              rw [Forest.depth, Forest.depth, hO.pathUp hu (by omega), hup]; rfl
            have hgl2 := rateG_kid_le (ls := ls) (x0 := x0) hO hg hck
            refine wk ?_
            refine Ixr ?_
            refine Ldr k (ints_get hc) ?_
            refine wk ?_
            refine Ixf hRV' ?_
            refine LdfA (k * 2) hRV' (cs := pr q) (fun z hz => rows_get pr 2 pr2 qz k z q hq hz) ?_
            refine Cx1 (ih c u G' (.agg (pr q).toArray) pz _ hu (by rw [ed]; omega) (((((hlv.up hu1).up hu2).up hu3).up hU)) (hqv.up hU) hqF hgl2.1 hgl2.2 (hpz.trans hps)) real_share_solver_share ?_
            rintro ⟨G4, pz2⟩ ⟨hU4, hpz2, hpp2⟩
            refine wk ?_
            refine eq_back3 (k + 1) G4 pz2 ⟨by omega, hU.trans hU4, hpz2.trans hpz, fun j lf p hlf hj => ?_⟩ (by omega) (le_of _ _ rfl) fun w hw => hw
            have h1 := hpp2 j lf p hlf hj
            have e1 : (gs.take (k + 1)).any (fun c => F.below lf.group c) = ((gs.take k).any (fun c => F.below lf.group c) || F.below lf.group c) := by
              rw [List.take_add_one, hc, List.any_append]; simp
            simp only [e1]
            by_cases hb : F.below lf.group c = true
            · rw [if_pos hb] at h1
              rw [if_pos (by simp [hb])]; exact h1
            · have hb : F.below lf.group c = false := by simpa using hb
              rw [if_neg (by simp [hb])] at h1
              have h2 := hpp j lf p hlf h1
              simp only [hb, Bool.or_false]
              by_cases hq2 : (decide (lf.group = g) || (gs.take k).any fun c => F.below lf.group c) = true
              · rw [if_pos hq2] at h2
                rw [if_pos hq2]; exact ⟨h2.1.up hU4, h2.2⟩
              · rw [if_neg hq2] at h2
                rw [if_neg hq2]; exact h2
          · obtain rfl : k = gs.length := by omega
            rw [List.take_length] at hpp
            refine wk ?_
            refine eq_rett rfl fun w hw => ⟨(G', pz), rfl, ⟨(((hu1.trans hu2).trans hu3).trans hU), hpz, fun j lf p hlf hj => ?_⟩, ((hw.erase 6).erase 6).erase 6⟩
            have h1 := hpp j lf p hlf hj
            simp only [← hbel lf (List.mem_of_getElem? hlf)] at h1
            exact h1
end Go.Proofs.YtpbnjifefoniiaaGreatDoor
namespace Go.Proofs.YtpbnjifefoniiaaGreatDoor
open Go Go.SE
variable {w0 : World} {w : World} {l : List HP} {i : Nat} {F : Forest} {D : Nat} {fb : Nat} {g : Int} {ls : List Leaf} {G : Hp}
theorem many_take {k : Nat} {lf : Leaf} (h : ls[k]? = some lf) (i : Int) : many F (ls.take (k + 1)) i = many F (ls.take k) i + if i ∈ F.path lf.group then 1 else 0 := by
  rw [List.take_add_one, h]
  simp only [many, List.filter_append, List.length_append]
  congr 1
  show ([lf].filter _).length = _
  rw [List.filter_cons]
  have : F.below lf.group i = decide (i ∈ F.path lf.group) := by
    rw [Forest.below, Bool.eq_iff_iff]; simp
  rw [this]
  by_cases e : i ∈ F.path lf.group <;> simp [e]
abbrev nil2 : Value × Value := (.slice none 0 0, .slice none 0 0)
theorem rows_rep2 {α : Type} (f : α → List Value) (x : α) : ∀ n, rows f (List.replicate n x) = rowZ n (f x)
  | 0 => rfl
  | n + 1 => by rw [List.replicate_succ', rows_snoc, rows_rep2 f x n, rowZ]
theorem rows_nil2 (n : Nat) : rows pr (List.replicate n nil2) = rowZ n [.slice none 0 0, .slice none 0 0] := rows_rep2 pr nil2 n
def rateX (online n : Nat) : Rat := ((min online n : Nat) : Rat)
noncomputable def ratesL (F : Forest) (ls : List Leaf) (online : Nat) : List Rat := (List.range ls.length).map fun i => rateL F ls (rateX online ls.length) i
set_option maxHeartbeats 4000000 in
theorem sSolve (hO : F.Ok D) (hL : Lvs F ls) {y : Grp} (hg : F.get g = some y) (hp : y.parent < 0) (hbel : ∀ lf ∈ ls, F.below lf.group g = true) (online : Nat) (hon : 1 ≤ online ∧ online ≤ 64) (lv : Value) (hlv : LvsV w0 G lv ls) :
    Does cx F_share_solve [ptr fb, int g, int online, lv] (S w0 (forestO fb F :: frz G :: l)) fun u w => ∃ x : Nat × Nat × Nat × Option (Nat × Nat) × Hp × List (Value × Value), u = .tuple #[ptr x.1, int 0] ∧
      (Up G x.2.2.2.2.1 ∧ x.2.2.2.2.2.length = ls.length ∧ ∀ (j : Nat) (p : Value × Value), x.2.2.2.2.2[j]? = some p → RatV w0 x.2.2.2.2.1 (.agg (pr p).toArray) (rateL F ls (rateX online ls.length) j) ∧ Few 1000 (rateL F ls (rateX online ls.length) j)) ∧
      S w0 (shX x.1 fb x.2.1 x.2.2.1 ls.length lv x.2.2.2.1 F (fun i => many F ls i) x.2.2.2.2.1 x.2.2.2.2.2 l) w := by
  have hpar : y.parent = -1 := (hO.roots y (kfind_mem hg)).1 hp
  have htold : F.told g = [int y.id, int (-1), int y.weight, int (F.depth g), int (F.root g), int y.members, int y.awake] := by rw [told_parent hO hg, grC, hpar]
  have hlen := hL.len
  refine fn_enter (n := N_share_solve) fn_share_solve rfl rfl rfl ?_
  refine wk ?_
  refine Fk1 (fun l => fGroup hO g l) real_tree_Forest_Group ?_
  rw [htold, show F.there g = 0 from by rw [Forest.there, hg]; rfl]
  refine wk ?_
  refine ec (oAlloc fun b9 => ?_)
  refine wk ?_
  refine el_gdec rfl rfl (fun h => absurd h (by omega)) (fun _ => ?_)
  refine wk ?_
  refine ej_dec rfl (fun h => absurd h (by omega)) (fun _ => ?_)
  obtain ⟨la, lc, rfl, hV⟩ := hlv.is
  refine wk ?_
  refine ej_dec rfl (fun h => absurd h (by omega)) (fun _ => ?_)
  refine wk ?_
  refine ec (oMkmap .i64 fun mm => ?_)
  refine wk ?_
  refine Mk fun gr => ?_
  refine ec (oMkmap .i64 fun gm => ?_)
  refine ec (oBuild (cs := [ptr fb, .slice la ls.length lc, .map (some mm), sv (some (gr, ls.length)) ls.length, .map (some gm)]) ?_)
  refine ec (oBox fun sb => ?_)
  refine wk ?_
  refine ej_imp' (H' := S w0 (shX sb fb mm gm ls.length (.slice la ls.length lc) (some (gr, ls.length)) F (fun _ => 0) G (List.replicate ls.length nil2) (cells b9 T_tree_Group [int y.id, int (-1), int y.weight, int (F.depth g), int (F.root g), int y.members, int y.awake] :: l))) (fun w hw => ?_) ?_
  · have hw : S w0 (slA sb fb mm gm ls.length (.slice la ls.length lc) (some (gr, ls.length)) :: mapO gm .i64 [] :: rowC (some (gr, ls.length)) T_ratio_Ratio 2 (rowZ ls.length [.slice none 0 0, .slice none 0 0]) ls.length :: mapO mm .i64 [] :: cells b9 T_tree_Group [int y.id, int (-1), int y.weight, int (F.depth g), int (F.root g), int y.members, int y.awake] :: forestO fb F :: frz G :: l) w := hw
    rw [← rows_nil2] at hw
    have hw := S.imp (i := 3) (q := cntO mm fun _ => 0) (S.imp (i := 1) (q := anyM gm) hw rfl fun h hm => ⟨[], [], List.Perm.refl _, hm⟩) rfl fun h hm => ⟨⟨[], fun i => rfl⟩, [], List.Perm.refl _, hm⟩
    exact S.perm hw (perm_ix 7 [0, 5, 3, 6, 2, 1, 4])
  have hin : ∀ lf ∈ ls, ∃ y, F.get lf.group = some y := fun lf hl => let ⟨y, h1, _⟩ := hL.there lf hl; ⟨y, h1⟩
  generalize hg9 : cells b9 T_tree_Group [int y.id, int (-1), int y.weight, int (F.depth g), int (F.root g), int y.members, int y.awake] = c9
  refine ej_loopP (fun k : Nat => k ≤ ls.length) (fun k => [(0, ptr fb), (1, int g), (2, int online), (3, .slice la ls.length lc), (12, ptr sb), (49, .slice la ls.length lc), (50, int ls.length), (51, int k)]) (fun k => S w0 (shX sb fb mm gm ls.length (.slice la ls.length lc) (some (gr, ls.length)) F (fun i => (many F (ls.take k) i : Int)) G (List.replicate ls.length nil2) (c9 :: l))) (fun k => ls.length - k) 0 (Nat.zero_le _) (le_of _ _ rfl) (fun w hw => hw) ?_
  intro k hk
  refine wk ?_
  refine ej_dec rfl (fun h => ?_) (fun h => ?_)
  · have h : k < ls.length := by omega
    obtain ⟨x, hx⟩ : ∃ x, ls[k]? = some x := ⟨_, List.getElem?_eq_getElem h⟩
    have hxm := List.mem_of_getElem? hx
    obtain ⟨z, hz⟩ := hin x hxm
    have hwt := hL.wt x hxm
    have hB := fun l => fBelowC (w0 := w0) (fb := fb) hO x.group g l
    simp only [hz, hg, Option.isSome_some, Bool.true_and, hbel x hxm] at hB
    refine wk ?_
    refine Ixf hV ?_
    refine LdfA (k * 2) hV (cs := lfC x) (fun q hq => rows_get lfC 2 lf2 ls k q x hx hq) ?_
    refine ec (oAlloc fun b7 => ?_)
    refine wk ?_
    refine Fk1 hB real_tree_Forest_Below ?_
    refine wk ?_
    refine el_gdec rfl rfl (fun h => absurd h (by omega)) (fun _ => ?_)
    refine wk ?_
    refine ej_dec rfl (fun h => absurd h (by omega)) (fun _ => ?_)
    refine wk ?_
    refine el_imp (fun w hw => hw.erase 0) ?_
    have hbn : ∀ i, 0 ≤ (many F (ls.take k) i : Int) ∧ (many F (ls.take k) i : Int) ≤ 100000 := fun i => by
      have := many_le F (ls.take k) i
      rw [List.length_take] at this; omega
    refine C1 (sCount hO sb mm gm ls.length (.slice la ls.length lc) (some (gr, ls.length)) (fun i => (many F (ls.take k) i : Int)) hbn hz) real_share_solver_count ?_
    refine wk ?_
    refine eq_backP (k + 1) (by omega) (by omega) (le_of _ _ rfl) fun w hw => ?_
    have e : (fun i => (many F (ls.take (k + 1)) i : Int)) = fun i => (many F (ls.take k) i : Int) + if i ∈ F.path x.group then 1 else 0 := by
      funext i
      rw [many_take hx]
      split <;> simp
    rw [e]; exact hw
  · obtain rfl : k = ls.length := by omega
    rw [List.take_length]
    refine wk ?_
    refine ej_dec rfl (fun h => ?_) (fun h => ?_)
    · have h0 : ls = [] := List.length_eq_zero_iff.1 (by omega)
      refine wk ?_
      refine eq_rett rfl fun w hw => ⟨(sb, mm, gm, some (gr, ls.length), G, List.replicate ls.length nil2), rfl, ⟨Up.rfl, by simp, fun j p hj => ?_⟩, hw.erase 6⟩
      rw [h0] at hj; simp at hj
    · have hn0 : 0 < ls.length := by omega
      have hmany : many F ls g = ls.length := by rw [many, List.filter_eq_self.2 fun lf hl => hbel lf hl]
      have hx0 : rateG F ls (rateX online ls.length) g = rateX online ls.length := rateG_root hO hg hp
      have hdep := hO.depthPos hg
      refine wk ?_
      refine el_cons rfl (eo_min rfl rfl rfl rfl rfl ?_)
      refine el_val 86 (u := int ((min online ls.length : Nat) : Int)) rfl (by show int (if (ls.length : Int) < (online : Int) then (ls.length : Int) else (online : Int)) = _; congr 1; split <;> omega) ?_
      refine G0 (rInt (min online ls.length) (by omega)) real_ratio_Int fun G2 v hu2 hv => ?_
      have hsh := sShare (w0 := w0) (fb := fb) (F := F) (D := D) (ls := ls) sb mm gm ls.length (.slice la ls.length lc) (some (gr, ls.length)) (fun i => (many F ls i : Int)) (rateX online ls.length) ⟨hO, hL, fun _ => rfl⟩ rfl 8 g y G2 v (List.replicate ls.length nil2) (c9 :: l) hg (by omega) (hlv.up hu2) (by rw [hx0]; exact hv) (by rw [hx0]; exact (few_nat (n := min online ls.length) (by omega)).le (by omega)) (by rw [hx0]; exact nat_nonneg _) (by
        rw [hx0, hmany, rateX]
        exact_mod_cast Nat.min_le_right online ls.length) (by simp)
      refine Cx1 hsh real_share_solver_share ?_
      rintro ⟨G3, ps3⟩ ⟨hu3, hl3, hr3⟩
      refine wk ?_
      refine eq_rett rfl fun w hw => ⟨(sb, mm, gm, some (gr, ls.length), G3, ps3), rfl, ⟨hu2.trans hu3, by rw [hl3]; simp, fun j p hj => ?_⟩, hw.erase 6⟩
      have hjl : j < ls.length := by
        have := (List.getElem?_eq_some_iff.1 hj).1
        rw [hl3] at this; simpa using this
      have h1 := hr3 j _ p (List.getElem?_eq_getElem hjl) hj
      simp only [hbel _ (List.getElem_mem hjl), if_true] at h1
      exact h1
theorem sRates (hO : F.Ok D) (hL : Lvs F ls) {y : Grp} (hg : F.get g = some y) (hp : y.parent < 0) (hbel : ∀ lf ∈ ls, F.below lf.group g = true) (online : Nat) (hon : 1 ≤ online ∧ online ≤ 64) (lv : Value) (hlv : LvsV w0 G lv ls) :
    ∀ l, Does cx F_share_Rates [ptr fb, int g, int online, lv] (S w0 (forestO fb F :: frz G :: l)) fun u w => ∃ x : Hp × Value, u = .tuple #[x.2, int 0] ∧ (Up G x.1 ∧ RatsV w0 x.1 x.2 (ratesL F ls online) ∧ ∀ r ∈ ratesL F ls online, r ≤ 1 ∧ Few 1000 r) ∧ S w0 (forestO fb F :: frz x.1 :: l) w := by
  intro l
  refine fn_enter (n := N_share_Rates) fn_share_Rates rfl rfl rfl ?_
  refine wk ?_
  refine Cx1 (sSolve hO hL hg hp hbel online hon lv hlv) real_share_solve ?_
  rintro ⟨sb, mm, gm, rr, G2, ps⟩ ⟨hu, hpl, hpp⟩
  simp only at hu hpl hpp
  refine wk ?_
  refine eq_frz 4 (fun G3 hu3 hf => ?_)
  refine eq_rett rfl fun w hw => ⟨(G3, _), rfl, ⟨hu.trans hu3, ?_, ?_⟩, ?_⟩
  · refine rats_row hf hpl (by simp [ratesL]) fun i p x hi hx => ?_
    have h1 := (hpp i p hi).1.up hu3
    have hil : i < ls.length := by rw [← hpl]; exact (List.getElem?_eq_some_iff.1 hi).1
    have e : x = rateL F ls (rateX online ls.length) i := by
      rw [ratesL, List.getElem?_map, List.getElem?_range hil] at hx
      exact (Option.some.inj hx).symm
    rw [e]; exact h1
  · intro r hr
    obtain ⟨i, hi, rfl⟩ := List.mem_map.1 hr
    have hil : i < ps.length := by rw [hpl]; simpa using hi
    exact ⟨(rateL_le i).2, (hpp i _ (List.getElem?_eq_getElem hil)).2⟩
  · have h1 := S.perm (l' := forestO fb F :: frz G3 :: slA sb fb mm gm ls.length lv rr :: cntO mm (fun i => many F ls i) :: anyM gm :: l) hw (perm_ix 5 [1, 3, 0, 2, 4])
    exact ((h1.erase 2).erase 2).erase 2
end Go.Proofs.YtpbnjifefoniiaaGreatDoor
namespace Go.Proofs.YtpbnjifefoniiaaGreatDoor
open Go Go.SE
variable {w0 : World} {w : World} {l : List HP} {i : Nat} {F : Hp}
theorem does_perm {f : FuncId} {args : List Value} {V : Value} {L hs l' : List HP} (h : Does cx f args (S w0 (hs ++ l')) fun v w => v = V ∧ S w0 (hs ++ l') w) (hp : L.Perm (hs ++ l')) : Does cx f args (S w0 L) fun v w => v = V ∧ S w0 L w :=
  h.mono (fun _ hw => hw.perm hp) fun _ _ ⟨h1, h2⟩ => ⟨h1, h2.perm hp.symm⟩
section
variable (b N : Nat) (lk : List Lk) (many : List Int) (r1 r2 : Option (Nat × Nat))
theorem gNodes (j : Nat) : Does cx F_ring_Rings_Nodes [ptr b, int j] (S w0 l) fun u w => ∃ p : Nat × Nat, u = .func (.func F_ring_Rings_Nodes_1) #[] #[ptr p.1, ptr p.2] ∧ True ∧ S w0 (cells p.2 T_int [int j] :: cells p.1 T_P_ring_Rings [ptr b] :: l) w := by
  refine fn_enter (n := N_ring_Rings_Nodes) fn_ring_Rings_Nodes rfl rfl rfl ?_
  refine wk ?_
  refine ec (oBox fun p2 => ?_)
  refine ec (oBox fun p3 => ?_)
  refine wk ?_
  exact eq_rett rfl fun w hw => ⟨(p2, p3), rfl, trivial, hw⟩
theorem nodes_iter (Ls : List (List Nat)) (hR : Rg N Ls lk) (j : Nat) (s : List Nat) (hj : Ls[j]? = some s) (hm : j < many.length) (hN : N ≤ 1000000) (hm2 : many.length ≤ 1000000) {σ : Type} {L : σ → List HP} {I Ix : List Nat → σ → Prop} (y : Value) (p2 p3 : Nat) (s0 : σ) (k2 k3 : Nat)
    (h2 : ∀ s, (L s)[k2]? = some (cells p2 T_P_ring_Rings [ptr b])) (h3 : ∀ s, (L s)[k3]? = some (cells p3 T_int [int j])) (hp : ∀ s, ∃ l', (L s).Perm ([rgA b N lk many r1 r2, rgB lk r1, rgC many r2] ++ l')) (h0 : I [] s0)
    (hy : ∀ pre (n : Nat) rest σ fr, s = pre ++ n :: rest → I pre σ → Yld cx y [int n] (S w0 (fr ++ L σ)) fun t w => ∃ σ', (if t then I (pre ++ [n]) σ' else Ix (pre ++ [n]) σ') ∧ S w0 (fr ++ L σ') w) :
    Does cx F_ring_Rings_Nodes_1 [y, ptr p2, ptr p3] (S w0 (L s0)) fun _ w => ∃ σ', (I s σ' ∨ ∃ pre, Ix pre σ') ∧ S w0 (L σ') w := by
  refine fn_enter (n := N_ring_Rings_Nodes_1) fn_ring_Rings_Nodes_1 rfl rfl rfl ?_
  have h20 := h2 s0
  have h30 := h3 s0
  refine wk ?_
  refine Ld (hi := h20) ?_
  refine Ld (hi := h30) ?_
  obtain ⟨l', hl'⟩ := hp s0
  refine C1 (does_perm (gFirst b N lk many r1 r2 j _ (hR.end_ hj) hm hN hm2) hl') real_ring_Rings_First ?_
  rw [tld_hd (fun n hn => hR.lt j s hj n hn)]
  refine wk ?_
  refine ej_loop3 (fun (pre rest : List Nat) (t : σ) => s = pre ++ rest ∧ I pre t) (fun _ rest _ => [(0, y), (1, ptr p2), (2, ptr p3), (4, int (hdI rest))]) (fun _ _ t => S w0 (L t)) (fun _ rest _ => rest.length) [] s s0 ⟨rfl, h0⟩ (le_of _ _ rfl) (fun w hw => hw) ?_
  rintro pre rest t ⟨hs, hI⟩
  cases rest with
  | nil =>
    rw [List.append_nil] at hs
    subst hs
    refine wk ?_
    exact eq_end [] rvs_nil fun w hw => ⟨t, .inl hI, hw⟩
  | cons n rest =>
    have hmid := hR.mid (n := n) (u := pre) (v := rest) (by rw [← hs]; exact hj)
    have hnN : n < N := hR.lt j s hj n (by rw [hs]; simp)
    rw [show hdI (n :: rest) = (n : Int) from rfl]
    refine wk ?_
    refine ec (eo_yield (hy pre n rest t [] hs hI) rfl rfl rfl rfl rfl rfl rfl fun tb => ?_)
    refine wk ?_
    refine ej_ex (fun w hw => hw) fun t' => ej_pre (fun w hw => hw) fun ht' => ?_
    cases tb with
    | true =>
      have h2t := h2 t'
      obtain ⟨l2, hl2⟩ := hp t'
      refine ej_imp' (H' := S w0 (L t')) (fun w hw => hw) ?_
      refine wk ?_
      refine Ld (hi := h2t) ?_
      refine wk ?_
      refine C1 (does_perm (gNext b N lk many r1 r2 n _ hmid hnN (by show (j : Int) ≠ -1; omega)) hl2) real_ring_Rings_Next ?_
      rw [tld_hd (fun m hm => hR.lt j s hj m (by rw [hs]; simp [hm]))]
      refine wk ?_
      exact eq_back3 (pre ++ [n]) rest t' ⟨by rw [hs]; simp, by simpa using ht'⟩ (by simp) (le_of _ _ rfl) fun w hw => hw
    | false =>
      refine wk ?_
      exact eq_rett rfl fun w hw => ⟨t', .inr ⟨_, by simpa using ht'⟩, hw⟩
end
end Go.Proofs.YtpbnjifefoniiaaGreatDoor
namespace Go.Proofs.YtpbnjifefoniiaaGreatDoor
open Go Go.SE
variable {w0 : World} {w : World} {l : List HP} {i : Nat} {F : Hp}
abbrev newA (b n m g1 g2 : Nat) : HP := cells b T_ring_Rings [sv (some (g1, n + m)) (n + m), int n, sv (some (g2, m)) m]
abbrev newC (m g2 : Nat) : HP := rowC (some (g2, m)) T_int 1 (rowZ m [int 0]) m
theorem rows_rep {α : Type} (f : α → List Value) (x : α) : ∀ n, rows f (List.replicate n x) = rowZ n (f x)
  | 0 => rfl
  | n + 1 => by rw [List.replicate_succ', rows_snoc, rows_rep f x n, rowZ]
def newL1 (t k : Nat) : List Lk := (List.range t).map fun i => if i < k then ((-1 : Int), i, i) else ((0 : Int), 0, 0)
def newL2 (n t k : Nat) : List Lk := (List.range t).map fun i => if n ≤ i ∧ i < n + k then (((i - n : Nat) : Int), i, i) else ((-1 : Int), i, i)
theorem newL1_zero (t : Nat) : rows lkC (newL1 t 0) = rowZ t [int 0, int 0, int 0] := by
  have : newL1 t 0 = List.replicate t ((0 : Int), 0, 0) := by
    refine List.ext_getElem (by simp [newL1]) fun i h1 h2 => by simp [newL1]
  rw [this, rows_rep]; rfl
theorem newL1_set {t k : Nat} (_h : k < t) : (newL1 t k).set k ((-1 : Int), k, k) = newL1 t (k + 1) := by
  refine List.ext_getElem (by simp [newL1]) fun i h1 h2 => ?_
  rw [List.getElem_set]
  simp only [newL1, List.getElem_map, List.getElem_range]
  by_cases h3 : k = i
  · subst h3; rw [if_pos rfl, if_pos (by omega)]
  · rw [if_neg h3]
    by_cases h4 : i < k
    · rw [if_pos h4, if_pos (by omega)]
    · rw [if_neg h4, if_neg (by omega)]
theorem newL1_full (n t : Nat) : newL1 t t = newL2 n t 0 := by
  refine List.ext_getElem (by simp [newL1, newL2]) fun i h1 h2 => ?_
  simp only [newL1, newL2, List.getElem_map, List.getElem_range]
  have : i < t := by simpa [newL1] using h1
  rw [if_pos this, if_neg (by omega)]
theorem newL2_get {n t k i : Nat} (h : i < t) : (newL2 n t k)[i]? = some (if n ≤ i ∧ i < n + k then (((i - n : Nat) : Int), i, i) else ((-1 : Int), i, i)) := by
  simp [newL2, h]
theorem newL2_set {n t k : Nat} (_h : n + k < t) : (newL2 n t k).set (n + k) ((k : Int), n + k, n + k) = newL2 n t (k + 1) := by
  refine List.ext_getElem (by simp [newL2]) fun i h1 h2 => ?_
  rw [List.getElem_set]
  simp only [newL2, List.getElem_map, List.getElem_range]
  by_cases h3 : n + k = i
  · subst h3; rw [if_pos rfl, if_pos (by omega), show n + k - n = k by omega]
  · rw [if_neg h3]
    by_cases h4 : n ≤ i ∧ i < n + k
    · rw [if_pos h4, if_pos (by omega)]
    · rw [if_neg h4, if_neg (by omega)]
set_option maxHeartbeats 1600000 in
theorem gNew (n m : Nat) (hn : 1 ≤ n ∧ n ≤ 64) (hm : 1 ≤ m ∧ m ≤ 64) : Does cx F_ring_New [int n, int m] (S w0 l) fun u w => ∃ x : Nat × Nat × Nat × List Lk, u = .tuple #[ptr x.1, int 0] ∧ x.2.2.2 = newL2 n (n + m) m ∧ S w0 (newA x.1 n m x.2.1 x.2.2.1 :: rowC (some (x.2.1, n + m)) T_ring_link 3 (rows lkC x.2.2.2) (n + m) :: newC m x.2.2.1 :: l) w := by
  refine fn_enter (n := N_ring_New) fn_ring_New rfl rfl rfl ?_
  refine wk ?_
  refine el_gdec rfl rfl (fun h => ?_) (fun h => ?_)
  · exact absurd (show (n : Int) < 1 from h) (by omega)
  refine wk ?_
  refine el_gdec rfl rfl (fun h => ?_) (fun h => ?_)
  · exact absurd (show 64 < (n : Int) from h) (by omega)
  refine wk ?_
  refine el_gdec rfl rfl (fun h => ?_) (fun h => ?_)
  · exact absurd (show (m : Int) < 1 from h) (by omega)
  refine wk ?_
  refine ej_dec rfl (fun h => absurd h (by omega)) (fun h => ?_)
  refine wk ?_
  refine ej_join (α := Nat × Nat × Nat) (fun _ => True) (fun p => [(0, int n), (1, int m), (6, ptr p.1)]) (fun p => S w0 (newA p.1 n m p.2.1 p.2.2 :: rowC (some (p.2.1, n + m)) T_ring_link 3 (rowZ (n + m) [int 0, int 0, int 0]) (n + m) :: newC m p.2.2 :: l)) (fun kk => ?_) ?_
  · have hI : ∀ l' w, S w0 l' w → Held w0 [] w := fun l' => held .nil
    have hI0 := hI l
    refine ej_held [] ?_
    refine tk 0 ?_
    refine tk 1 ?_
    refine tv 2 rfl rArith ?_
    refine tk 4 ?_
    refine tk 5 ?_
    refine eh_val 25 (u := int ((n + m : Nat) : Int)) rfl (by push_cast; rfl) ?_
    refine eh_ways [3, 6] (by kernel_rfl) rfl (.cons (hway rfl rfl (eo_make (m := n + m) rfl rfl rfl rfl rfl rfl rfl rfl rfl (by rw [maxLen_eq]; omega) (by show 24 * (n + m) ≤ _; omega) fun g1 => ⟨hI _, ?_⟩)) (.cons (hway rfl rfl (eo_make (m := m) rfl rfl rfl rfl rfl rfl rfl rfl rfl (by rw [maxLen_eq]; omega) (by show 8 * m ≤ _; omega) fun g2 => ⟨hI _, ?_⟩)) .nil))
    · refine wv 6 rfl (eo_make (m := m) rfl rfl rfl rfl rfl rfl rfl rfl rfl (by rw [maxLen_eq]; omega) (by show 8 * m ≤ _; omega) fun g2 => ⟨hI _, ?_⟩)
      refine tv 7 rfl (rBuild (cs := [sv (some (g1, n + m)) (n + m), int n, sv (some (g2, m)) m])) ?_ (hI := hI _)
      refine wv 8 rfl (eo_box rfl rfl rfl rfl fun b => ⟨hI _, ?_⟩)
      refine tk 9 ?_ (hI := hI _)
      refine wd ?_
      refine wk ?_
      exact meet (kk (b, g1, g2) trivial) (le_of _ _ rfl) fun w hw => hw.perm (List.Perm.cons _ (List.Perm.swap _ _ _))
    · refine wv 3 rfl (eo_make (m := n + m) rfl rfl rfl rfl rfl rfl rfl rfl rfl (by rw [maxLen_eq]; omega) (by show 24 * (n + m) ≤ _; omega) fun g1 => ⟨hI _, ?_⟩)
      refine tv 7 rfl (rBuild (cs := [sv (some (g1, n + m)) (n + m), int n, sv (some (g2, m)) m])) ?_ (hI := hI _)
      refine wv 8 rfl (eo_box rfl rfl rfl rfl fun b => ⟨hI _, ?_⟩)
      refine tk 9 ?_ (hI := hI _)
      refine wd ?_
      refine wk ?_
      exact meet (kk (b, g1, g2) trivial) (le_of _ _ rfl) fun w hw => hw
  · rintro ⟨b, g1, g2⟩ _
    simp only
    refine wk ?_
    refine ej_loopP (fun k : Nat => k ≤ n + m) (fun k => [(0, int n), (1, int m), (6, ptr b), (36, int ((n + m : Nat) : Int)), (37, int k)]) (fun k => S w0 (newA b n m g1 g2 :: rowC (some (g1, n + m)) T_ring_link 3 (rows lkC (newL1 (n + m) k)) (n + m) :: newC m g2 :: l)) (fun k => n + m - k) 0 (Nat.zero_le _) (le_of _ _ rfl) (fun w hw => by rw [newL1_zero]; exact hw) ?_
    intro k hk
    have hl1 : (newL1 (n + m) k).length = n + m := by simp [newL1]
    have hrl := rows_length lkC 3 lk3 (newL1 (n + m) k)
    refine wk ?_
    refine ej_dec rfl (fun h => ?_) (fun h => ?_)
    · have h : k < n + m := by omega
      refine wk ?_
      refine ec (oBuild (cs := lkC (-1, k, k)) ?_)
      refine Ixr ?_
      refine el_cons rfl (eo_strA 1 (cs := lkC (-1, k, k)) rfl rfl rfl rfl rfl rfl rfl rfl (by rw [hrl]; show (k : Int).toNat * 3 + 3 ≤ _; omega) (by rw [hrl]; omega) ?_)
      refine wk ?_
      refine eq_backP (k + 1) (by omega) (by omega) (le_of _ _ rfl) fun w hw => ?_
      have h1 : S w0 (newA b n m g1 g2 :: rowC (some (g1, n + m)) T_ring_link 3 (splice (rows lkC (newL1 (n + m) k)) ((k : Int).toNat * 3) (lkC (-1, k, k))) (n + m) :: newC m g2 :: l) w := hw
      rw [show (k : Int).toNat = k by omega, rows_set lkC 3 lk3 _ k _ (by omega), newL1_set h] at h1
      exact h1
    · obtain rfl : k = n + m := by omega
      rw [newL1_full n]
      refine wk ?_
      refine ej_loopP (fun k : Nat => k ≤ m) (fun k => [(0, int n), (6, ptr b), (50, int m), (51, int k)]) (fun k => S w0 (newA b n m g1 g2 :: rowC (some (g1, n + m)) T_ring_link 3 (rows lkC (newL2 n (n + m) k)) (n + m) :: newC m g2 :: l)) (fun k => m - k) 0 (Nat.zero_le _) (le_of _ _ rfl) (fun w hw => hw) ?_
      intro k hk
      have hl2 : (newL2 n (n + m) k).length = n + m := by simp [newL2]
      have hrl2 := rows_length lkC 3 lk3 (newL2 n (n + m) k)
      refine wk ?_
      refine ej_dec rfl (fun h => ?_) (fun h => ?_)
      · have h : k < m := by omega
        refine wk ?_
        refine Ixr ?_
        refine wk ?_
        refine Str ((n + k) * 3 + 0) ?_ (hl := by rw [hrl2]; omega)
        refine wk ?_
        refine eq_backP (k + 1) (by omega) (by omega) (le_of _ _ rfl) fun w hw => ?_
        have h1 : S w0 (newA b n m g1 g2 :: rowC (some (g1, n + m)) T_ring_link 3 ((rows lkC (newL2 n (n + m) k)).set ((n + k) * 3 + 0) (int k)) (n + m) :: newC m g2 :: l) w := hw
        rw [set_one (y := ((k : Int), n + k, n + k)) (newL2_get (show n + k < n + m by omega)) (by decide) (by rw [if_neg (by omega)]; rfl), newL2_set (by omega)] at h1
        exact h1
      · obtain rfl : k = m := by omega
        refine wk ?_
        exact eq_rett rfl fun w hw => ⟨(b, g1, g2, newL2 n (n + k) k), rfl, rfl, hw⟩
end Go.Proofs.YtpbnjifefoniiaaGreatDoor
namespace Go.Proofs.YtpbnjifefoniiaaGreatDoor
open Go Go.SE
variable {w0 : World} {w : World} {l : List HP} {i : Nat} {F : Hp}
abbrev lens (Ls : List (List Nat)) : List Int := Ls.map fun s => (s.length : Int)
theorem Rg.new (n m : Nat) : Rg n (List.replicate m []) (newL2 n (n + m) m) := by
  have hs : ∀ (j : Nat) s, (List.replicate m ([] : List Nat))[j]? = some s → s = [] ∧ j < m := fun j s h => by
    obtain ⟨h1, h2⟩ := List.getElem?_eq_some_iff.1 h
    simp at h1 h2
    exact ⟨h2, h1⟩
  refine ⟨by simp [newL2], ?_, ?_, ?_, ?_, ?_⟩
  · intro j s h x hx; rw [(hs j s h).1] at hx; cases hx
  · intro j s h; rw [(hs j s h).1]; exact List.nodup_nil
  · intro j j' s s' h _ x hx; rw [(hs j s h).1] at hx; cases hx
  · intro j s h i hi
    obtain ⟨rfl, hj⟩ := hs j s h
    obtain rfl : i = n + j := by simpa using hi
    rw [newL2_get (by omega), if_pos (by omega), show n + j - n = j by omega, nextC_head, prevC_head]; rfl
  · intro i hi _
    rw [newL2_get (by omega), if_neg (by omega)]
structure LnX where
  b : Nat
  lk : List Lk
  r1 : Option (Nat × Nat)
  r2 : Option (Nat × Nat)
  rt : Option (Nat × Nat)
abbrev lnQ (lb N : Nat) (Ls : List (List Nat)) (tg : List Int) (x : LnX) : List HP := [rgA x.b N x.lk (lens Ls) x.r1 x.r2, rgB x.lk x.r1, rgC (lens Ls) x.r2, lnA lb x.b tg x.rt, lnT tg x.rt]
def lanesO (lb N : Nat) (Ls : List (List Nat)) (tg : List Int) : HP := fun h => ∃ x : { x : LnX // Rg N Ls x.lk ∧ tg.length = N }, stars (lnQ lb N Ls tg x.1) h
theorem shut_lanes {lb N b : Nat} {Ls : List (List Nat)} {tg : List Int} {lk : List Lk} {r1 r2 rt : Option (Nat × Nat)} (hR : Rg N Ls lk) (ht : tg.length = N) (h : LnS lb b N lk (lens Ls) tg r1 r2 rt w0 l w) : S w0 (lanesO lb N Ls tg :: l) w :=
  S.fold (qs := lnQ lb N Ls tg ⟨b, lk, r1, r2, rt⟩) h fun _ hp => ⟨⟨⟨b, lk, r1, r2, rt⟩, hR, ht⟩, hp⟩
theorem nNew (n m : Nat) (hn : 1 ≤ n ∧ n ≤ 64) (hm : 1 ≤ m ∧ m ≤ 64) : Does cx F_lane_New [int m, int n] (S w0 l) fun u w => ∃ lb : Nat, u = .tuple #[ptr lb, int 0] ∧ True ∧ S w0 (lanesO lb n (List.replicate m []) (List.replicate n 0) :: l) w := by
  refine fn_enter (n := N_lane_New) fn_lane_New rfl rfl rfl ?_
  refine wk ?_
  refine Cx1 (gNew n m hn hm) real_ring_New ?_
  rintro ⟨b, g1, g2, lk⟩ hlk
  simp only at hlk
  subst hlk
  refine wk ?_
  refine Mk fun gt => ?_
  refine ec (oBuild (cs := [ptr b, sv (some (gt, n)) n]) ?_)
  refine ec (oBox fun lb => ?_)
  refine wk ?_
  refine eq_rett rfl fun w hw => ⟨lb, rfl, trivial, ?_⟩
  refine shut_lanes (b := b) (r1 := some (g1, n + m)) (r2 := some (g2, m)) (rt := some (gt, n)) (Rg.new n m) (by simp) ?_
  have hL : (newL2 n (n + m) m).length = n + m := by simp [newL2]
  have hl : lens (List.replicate m []) = List.replicate m 0 := by simp [lens]
  show S w0 _ _
  rw [rgA, rgB, rgC, lnA, lnT, hL, hl, List.length_replicate, List.length_replicate, ints_rep, ints_rep]
  refine S.perm (l := cells lb T_lane_Lanes [ptr b, sv (some (gt, n)) n] :: rowC (some (gt, n)) T_int 1 (rowZ n [int 0]) n :: newA b n m g1 g2 :: rowC (some (g1, n + m)) T_ring_link 3 (rows lkC (newL2 n (n + m) m)) (n + m) :: newC m g2 :: l) hw ?_
  exact (List.perm_append_comm (l₁ := [cells lb T_lane_Lanes [ptr b, sv (some (gt, n)) n], rowC (some (gt, n)) T_int 1 (rowZ n [int 0]) n]) (l₂ := [newA b n m g1 g2, rowC (some (g1, n + m)) T_ring_link 3 (rows lkC (newL2 n (n + m) m)) (n + m), newC m g2])).append_right l
end Go.Proofs.YtpbnjifefoniiaaGreatDoor
namespace Go.Proofs.YtpbnjifefoniiaaGreatDoor
open Go Go.SE
variable {w0 : World} {w : World} {l : List HP} {i : Nat} {F : Hp}
theorem lens_set {Ls : List (List Nat)} {j : Nat} {s : List Nat} : lens (Ls.set j s) = (lens Ls).set j (s.length : Int) := List.map_set ..
theorem lens_get {Ls : List (List Nat)} {j : Nat} {s : List Nat} (h : Ls[j]? = some s) : (lens Ls)[j]? = some (s.length : Int) := by simp [h]
theorem insL_len (tg : List Int) (tag : Int) (s : List Nat) (n : Nat) : (insL tg tag s n).length = s.length + 1 := by
  obtain ⟨v, hv⟩ := ahead_pre tg tag s
  have h2 : (ahead tg tag s).length ≤ s.length := by
    have := congrArg List.length hv
    rw [List.length_append] at this; omega
  rw [insL, List.length_append, List.length_cons, List.length_drop]; omega
theorem nPutO (lb N : Nat) (Ls : List (List Nat)) (tg : List Int) (j node : Nat) (s : List Nat) (tag : Int) (hj : Ls[j]? = some s) (hn : node < N) (hf : ∀ (j : Nat) s, Ls[j]? = some s → node ∉ s) (hN : N ≤ 1000) (hm : Ls.length ≤ 1000) (hs : s.length ≤ 1000) :
    Does cx F_lane_Lanes_Put [ptr lb, int j, int node, int tag] (S w0 (lanesO lb N Ls tg :: l)) fun v w => v = int 0 ∧ S w0 (lanesO lb N (Ls.set j (insL tg tag s node)) (tg.set node tag) :: l) w := by
  refine does_open (i := 0) (qs := fun x : { x : LnX // Rg N Ls x.lk ∧ tg.length = N } => lnQ lb N Ls tg x.1) rfl (fun _ hp => hp) ?_
  rintro ⟨⟨b, lk, r1, r2, rt⟩, hR, ht⟩
  have h := nPut (w0 := w0) (l := l) lb b N lk (lens Ls) tg r1 r2 rt Ls hR j node s tag (s.length : Int) hj hn hf (lens_get hj) ⟨by omega, by omega⟩ (by omega) (by rw [List.length_map]; omega) ht
  refine h.mono (fun _ h => h) ?_
  rintro v w ⟨lk', h1, h2, h3⟩
  refine ⟨h1, shut_lanes (b := b) (r1 := r1) (r2 := r2) (rt := rt) h2 (by rw [List.length_set]; exact ht) ?_⟩
  rw [lens_set, insL_len]
  exact h3
theorem gDropL (b N : Nat) (lk : List Lk) (r1 r2 : Option (Nat × Nat)) (Ls : List (List Nat)) (hR : Rg N Ls lk) (j n : Nat) (s : List Nat) (hj : Ls[j]? = some s) (hn : n ∈ s) (hs : s.length ≤ 1000) :
    Does cx F_ring_Rings_Drop [ptr b, int n] (RgS b N lk (lens Ls) r1 r2 w0 l) fun v w => ∃ lk', v = int 0 ∧ Rg N (Ls.set j (s.erase n)) lk' ∧ RgS b N lk' (lens (Ls.set j (s.erase n))) r1 r2 w0 l w := by
  obtain ⟨u, v, huv, hev, hu, _⟩ := erase_split hn (hR.nd j s hj)
  have hmid := hR.mid (n := n) (u := u) (v := v) (by rw [← huv]; exact hj)
  have hnN : n < N := hR.lt j s hj n hn
  have h := gDrop (w0 := w0) (l := l) b N lk (lens Ls) r1 r2 n j _ _ (s.length : Int) hmid hnN (hR.nx_lt hj (fun m hm => by rw [huv]; simp [hm])) (hR.pv_lt hj (fun m hm => by rw [huv]; simp [hm])) (lens_get hj) ⟨by omega, by omega⟩
  refine h.mono (fun _ h => h) ?_
  rintro x w ⟨h1, h2⟩
  refine ⟨dropL lk n (v.headD (N + j)) (u.getLastD (N + j)), h1, ?_, ?_⟩
  · have := hR.drop hj hn
    rw [huv, nextC_app (show N + j ≠ n by omega) hu, prevC_app (show N + j ≠ n by omega) hu, ← huv] at this
    exact this
  · have hl : ((s.erase n).length : Int) = (s.length : Int) - 1 := by
      rw [List.length_erase_of_mem hn]
      have := List.length_pos_of_mem hn
      omega
    rw [lens_set, hl]; exact h2
end Go.Proofs.YtpbnjifefoniiaaGreatDoor
namespace Go.Proofs.YtpbnjifefoniiaaGreatDoor
open Go Go.SE
variable {w0 : World} {w : World} {l : List HP} {i : Nat} {sb : Nat} {s : Sys} {D : Nat} {G : Hp}
structure SyX where
  tp : Nat
  fb : Nat
  tb : Nat
  rm : Nat
  lb : Nat
  tal : Nat
  br : Option (Nat × Nat)
  bk : Int → Nat
  bp : List Nat
variable {x : SyX}
abbrev syC (x : SyX) (s : Sys) : List Value := [int s.q, ptr x.tp, ptr x.fb, ptr x.tb, .map (some x.rm), sv x.br x.bp.length, ptr x.lb] ++ ints s.cur ++ [ptr x.tal]
abbrev sysA (sb : Nat) (x : SyX) (s : Sys) : HP := cells sb T_state_System (syC x s)
abbrev thC (t : Th) : List Value := [int t.slot, int t.group, int t.weight, u64 t.mask, .bool t.awake, .bool t.running, int t.core, int t.tag, int t.left, int 0]
abbrev thF (x : SyX) (s : Sys) : List (Nat × List Value) := s.ths.map fun t => (x.bk t.id, thC t)
abbrev recM (x : SyX) (s : Sys) : HP := mapL x.rm (fun i : Int => i) (fun i => ptr (x.bk i)) s.ids
abbrev recF (x : SyX) (s : Sys) : HP := famO T_state_record (thF x s)
abbrev bksR (x : SyX) : HP := rowC x.br T_P_round_Book 1 (x.bp.map fun b => ptr b) x.bp.length
abbrev bksL (x : SyX) (s : Sys) : List HP := (x.bp.zip s.bs).map fun p => bookO p.1 p.2.1 p.2.2
abbrev syL (sb : Nat) (x : SyX) (s : Sys) (l : List HP) : List HP :=
  sysA sb x s :: topoO x.tp s.T :: forestO x.fb s.F :: tableO x.tb s.sl s.last :: recM x s :: recF x s :: bksR x :: allO (bksL x s) :: lanesO x.lb s.sl.length s.Ls s.tg :: l
theorem yOf (hO : s.F.Ok D) (hD : D ≤ 8) (g : Int) : Does cx F_state_System_of [ptr sb, int g] (S w0 (syL sb x s l)) fun v w => v = int (s.dom g) ∧ S w0 (syL sb x s l) w := by
  refine fn_enter (n := N_state_System_of) fn_state_System_of rfl rfl rfl ?_
  refine wk ?_
  refine Fk1 (fun l => fGroup hO g l) real_tree_Forest_Group ?_
  cases hg : s.F.get g with
  | none =>
    rw [show s.F.told g = grZ from by rw [Forest.told, hg]]
    refine wk ?_
    refine ec (oAlloc fun b9 => ?_)
    refine wk ?_
    refine eq_rett rfl fun w hw => ⟨?_, hw.erase 0⟩
    rw [Sys.dom, hg]; rfl
  | some y =>
    rw [told_parent hO hg]
    have hr := hO.rootIn hg
    refine wk ?_
    refine ec (oAlloc fun b9 => ?_)
    refine wk ?_
    refine eq_rett rfl fun w hw => ⟨?_, hw.erase 0⟩
    rw [Sys.dom, hg]; rfl
theorem th_mem {j : Nat} {t : Th} (h : s.ths[j]? = some t) : (x.bk t.id, thC t) ∈ thF x s := List.mem_map.2 ⟨t, List.mem_of_getElem? h, rfl⟩
theorem th_get {j : Nat} {t : Th} (h : s.ths[j]? = some t) : (thF x s)[j]? = some (x.bk t.id, thC t) := by simp [h]
theorem find_at {id : Int} {t : Th} (h : s.find id = some t) : ∃ j : Nat, s.ths[j]? = some t ∧ t.id = id := by
  obtain ⟨j, hj⟩ := List.getElem?_of_mem (kfind_mem h)
  exact ⟨j, hj, kfind_key h⟩
theorem find_ids {id : Int} : (s.find id).isSome = true ↔ id ∈ s.ids := by
  cases h : s.find id with
  | none =>
    simp only [Option.isSome_none, Bool.false_eq_true, false_iff, Sys.ids, List.mem_map, not_exists, not_and]
    exact fun a ha => kfind_none.1 h a ha
  | some t => simp only [Option.isSome_some, true_iff, Sys.ids, List.mem_map]; exact ⟨t, kfind_mem h, kfind_key h⟩
theorem yFind (id : Int) (aw : Bool) (t : Th) (h : s.find id = some t) : Does cx F_state_System_find [ptr sb, int id, .bool aw] (S w0 (syL sb x s l)) fun v w => v = (if t.awake = aw then .tuple #[ptr (x.bk id), int 0] else .tuple #[.pointer none, int 10]) ∧ S w0 (syL sb x s l) w := by
  obtain ⟨j, hj, rfl⟩ := find_at h
  have hin : t.id ∈ s.ids := find_ids.1 (by rw [h]; rfl)
  refine fn_enter (n := N_state_System_find) fn_state_System_find rfl rfl rfl ?_
  refine wk ?_
  refine Go.SE.Lk ?_
  rw [lookL, if_pos rfl, kfind_id_some hin]
  refine wk ?_
  refine LdF (i := 5) (th_mem hj) ?_
  cases ha : t.awake <;> cases aw
  all_goals refine wk ?_
  all_goals refine ec (oBeq ?_)
  all_goals refine wk ?_
  all_goals exact eq_rett rfl fun w hw => ⟨rfl, hw⟩
theorem yBook (hO : s.F.Ok D) (hD : D ≤ 8) {j d b : Nat} {t : Th} (hj : s.ths[j]? = some t) (hd : s.dom t.group = d) (hb : x.bp[d]? = some b) : Does cx F_state_System_book [ptr sb, ptr (x.bk t.id)] (S w0 (syL sb x s l)) fun v w => v = ptr b ∧ S w0 (syL sb x s l) w := by
  obtain ⟨tp, fb, tb, rm, lb, tal, br, bk, bp⟩ := x
  have hlt := (List.getElem?_eq_some_iff.1 hb).1
  refine fn_enter (n := N_state_System_book) fn_state_System_book rfl rfl rfl ?_
  refine wk ?_
  refine ej_know (fun w hw => hw.row_some (i := 6) rfl (by omega)) fun hrs => ?_
  obtain ⟨⟨b1, c1⟩, rfl⟩ := hrs
  have hI : ∀ w, S w0 (syL sb ⟨tp, fb, tb, rm, lb, tal, some (b1, c1), bk, bp⟩ s l) w → Held w0 [sysA sb ⟨tp, fb, tb, rm, lb, tal, some (b1, c1), bk, bp⟩ s, recF ⟨tp, fb, tb, rm, lb, tal, some (b1, c1), bk, bp⟩ s, bksR ⟨tp, fb, tb, rm, lb, tal, some (b1, c1), bk, bp⟩] w := held3 (i := 0) (j := 5) (k := 6) rfl rfl rfl
  refine ej_held [sysA sb ⟨tp, fb, tb, rm, lb, tal, some (b1, c1), bk, bp⟩ s, recF ⟨tp, fb, tb, rm, lb, tal, some (b1, c1), bk, bp⟩ s, bksR ⟨tp, fb, tb, rm, lb, tal, some (b1, c1), bk, bp⟩] ?_
  refine tk 0 ?_
  refine tk 1 ?_
  refine tk 2 ?_
  refine tv 3 rfl (rLd 0) ?_
  refine tk 4 ?_
  refine tk 5 ?_
  refine tk 6 ?_
  refine tk 7 ?_
  refine tv 8 rfl (rLdF 1 (th_mem (x := ⟨tp, fb, tb, rm, lb, tal, some (b1, c1), bk, bp⟩) hj)) ?_
  refine w1 9 rfl (yOf (x := ⟨tp, fb, tb, rm, lb, tal, some (b1, c1), bk, bp⟩) hO hD t.group) real_state_System_of hI ?_
  rw [hd]
  refine tv 10 rfl rIxr ?_
  have hbv : (bp.map fun b => ptr b)[d]? = some (ptr b) := by rw [List.getElem?_map]; exact congrArg _ hb
  refine tv 11 rfl (rLdR (i := 2) (r := some (b1, c1)) d hbv) ?_
  refine tk 12 ?_
  refine wd ?_
  refine wk ?_
  exact eq_rett rfl fun w hw => ⟨rfl, hw⟩
theorem yMay (hO : s.F.Ok D) (hD : D ≤ 8) (hT : s.T.Ok) {j : Nat} {t : Th} (hj : s.ths[j]? = some t) (hm : t.mask < 18446744073709551616) (c : Int) : Does cx F_state_System_may [ptr sb, ptr (x.bk t.id), int c] (S w0 (syL sb x s l)) fun v w => v = .bool (TP.has (s.T.eff (s.dom t.group) t.mask) c) ∧ S w0 (syL sb x s l) w := by
  refine fn_enter (n := N_state_System_may) fn_state_System_may rfl rfl rfl ?_
  refine wk ?_
  have hI : ∀ w, S w0 (syL sb x s l) w → Held w0 [sysA sb x s, recF x s] w := held2 (i := 0) (j := 5) rfl rfl
  refine ej_held [sysA sb x s, recF x s] ?_
  refine tk 0 ?_
  refine tk 1 ?_
  refine tk 2 ?_
  refine tv 3 rfl (rLd 0) ?_
  refine tk 4 ?_
  refine tk 5 ?_
  refine tk 6 ?_
  refine tk 7 ?_
  refine tv 8 rfl (rLdF 1 (th_mem hj)) ?_
  refine tk 10 ?_
  refine tk 11 ?_
  refine tk 12 ?_
  refine tv 13 rfl (rLdF 1 (th_mem hj)) ?_
  refine w1 9 rfl (yOf hO hD t.group) real_state_System_of hI ?_
  refine w1 14 rfl (does_keep (i := 1) (tEffective hT (s.dom t.group) t.mask hm) rfl) real_topo_Topo_Effective hI ?_
  refine tk 15 ?_
  refine tk 16 ?_
  refine tk 17 ?_
  refine tk 18 ?_
  refine tk 19 ?_
  refine wd ?_
  refine wk ?_
  refine C1 (TP.Has_any _ c (TP.eff_lt hT _ _) _) real_mask_Set_Has ?_
  refine wk ?_
  exact eq_rett rfl fun w hw => ⟨rfl, hw⟩
end Go.Proofs.YtpbnjifefoniiaaGreatDoor
namespace Go.Proofs.YtpbnjifefoniiaaGreatDoor
open Go Go.SE
variable {w0 : World} {w : World} {l : List HP} {i : Nat} {sb : Nat} {s : Sys} {D : Nat} {G : Hp} {x : SyX}
theorem yIds (h0 : 0 < s.sl.length) (hn : s.sl.length ≤ 1000) : Does cx F_state_System_Ids [ptr sb] (S w0 (syL sb x s (frz G :: l))) fun v w => ∃ y : Hp × Value, v = y.2 ∧ (Up G y.1 ∧ IntsV w0 y.1 y.2 (tids s.sl)) ∧ S w0 (syL sb x s (frz y.1 :: l)) w := by
  refine fn_enter (n := N_state_System_Ids) fn_state_System_Ids rfl rfl rfl ?_
  refine wk ?_
  refine Fr2 (tIds x.tb s.sl s.last h0 (by omega)) real_table_Table_Ids fun y hy => ?_
  refine wk ?_
  exact eq_rett rfl fun w hw => ⟨y, rfl, hy, hw⟩
theorem yAwake (hO : s.F.Ok D) (hD : D ≤ 8) (h0 : 0 < s.sl.length) (hn : s.sl.length ≤ 1000) (hids : tids s.sl = s.ids) (d : Int) :
    Does cx F_state_System_Awake [ptr sb, int d] (S w0 (syL sb x s (frz G :: l))) fun v w => ∃ y : Hp × Value, v = y.2 ∧ (Up G y.1 ∧ IntsV w0 y.1 y.2 (s.awakeI d)) ∧ S w0 (syL sb x s (frz y.1 :: l)) w := by
  have hil : s.ths.length ≤ 1000 := by
    have := tids_len s.sl
    rw [hids, Sys.ids, List.length_map] at this; omega
  refine fn_enter (n := N_state_System_Awake) fn_state_System_Awake rfl rfl rfl ?_
  refine wk ?_
  refine Cx1 (yIds h0 hn) real_state_System_Ids ?_
  rintro ⟨G1, v1⟩ ⟨hu1, hv1⟩
  rw [hids] at hv1
  obtain ⟨a, c, e1, hV⟩ := hv1.is
  simp only at e1 hu1
  subst e1
  have hsl : s.ids.length = s.ths.length := List.length_map ..
  refine wk ?_
  refine ej_row0 T_int 1 ?_
  refine ej_imp' (fun w hw => S.perm (l' := syL sb x s (frz G1 :: rowC none T_int 1 [] 0 :: l)) hw (perm_ix 11 [1, 2, 3, 4, 5, 6, 7, 8, 9, 10, 0])) ?_
  let p : Th → Bool := fun t => t.awake && decide (s.dom t.group = d)
  refine ej_loop2 (fun (k : Nat) (_ : Option (Nat × Nat)) => k ≤ s.ths.length) (fun k r => [(0, ptr sb), (1, int d), (5, sv r (((s.ths.take k).filter p).map Th.id).length), (10, .slice a s.ids.length c), (11, int s.ids.length), (12, int k)])
    (fun k r => S w0 (syL sb x s (frz G1 :: rowC r T_int 1 (ints (((s.ths.take k).filter p).map Th.id)) (((s.ths.take k).filter p).map Th.id).length :: l))) (fun k _ => s.ths.length - k) 0 none (Nat.zero_le _) (le_of _ _ rfl) (fun w hw => hw) ?_
  intro k r hk
  have hol : (((s.ths.take k).filter p).map Th.id).length ≤ 1000 := by
    rw [List.length_map]
    have := List.length_filter_le p (s.ths.take k)
    rw [List.length_take] at this; omega
  refine wk ?_
  refine ej_dec rfl (fun h => ?_) (fun h => ?_)
  · have h : k < s.ths.length := by omega
    obtain ⟨t, ht⟩ : ∃ t, s.ths[k]? = some t := ⟨_, List.getElem?_eq_getElem h⟩
    have hid : s.ids[k]? = some t.id := by rw [Sys.ids, List.getElem?_map, ht]; rfl
    have hin : t.id ∈ s.ids := List.mem_of_getElem? hid
    have hsn : ((s.ths.take (k + 1)).filter p).map Th.id = ((s.ths.take k).filter p).map Th.id ++ if p t then [t.id] else [] := by
      rw [List.take_add_one, ht, List.filter_append, List.map_append]
      congr 1
      show ([t].filter p).map Th.id = _
      rw [List.filter_cons]
      cases p t <;> rfl
    refine wk ?_
    refine Ixf hV ?_
    refine Ldf k hV (ints_get hid) ?_
    refine wk ?_
    refine Go.SE.Lk ?_
    rw [lookL, if_neg (by decide), kfind_id_some hin]
    refine el_val 21 (u := ptr (x.bk t.id)) rfl rfl ?_
    refine wk ?_
    refine LdF (i := 5) (th_mem ht) ?_
    cases ha : t.awake with
    | false =>
      have hpt : p t = false := by show (t.awake && _) = false; rw [ha]; rfl
      rw [hpt] at hsn
      simp only [Bool.false_eq_true, if_false, List.append_nil] at hsn
      refine wk ?_
      refine eq_back2 (k + 1) r (by omega) (by omega) ?_ fun w hw => ?_
      · rw [hsn]; exact le_of _ _ rfl
      · rw [hsn]; exact hw
    | true =>
      have hpt : p t = decide (s.dom t.group = d) := by show (t.awake && _) = _; rw [ha]; rfl
      rw [hpt] at hsn
      refine wk ?_
      refine LdF (i := 5) (th_mem ht) ?_
      refine C1 (yOf hO hD t.group) real_state_System_of ?_
      refine wk ?_
      refine ej_dec rfl (fun h => ?_) (fun h => ?_)
      · have h : s.dom t.group = d := h
        rw [if_pos (by simpa using h)] at hsn
        refine wk ?_
        refine App (cs := [int t.id]) (i := 10) (fun r' b7 => ?_) (hc := by exact rfl)
        refine wk ?_
        refine eq_back2 (k + 1) r' (by omega) (by omega) ?_ fun w hw => ?_
        · rw [hsn, List.length_append]; exact le_of _ _ rfl
        · rw [hsn, ints, List.map_append, List.length_append]; exact hw
      · have h : ¬ s.dom t.group = d := h
        rw [if_neg (by simpa using h), List.append_nil] at hsn
        refine wk ?_
        refine eq_back2 (k + 1) r (by omega) (by omega) ?_ fun w hw => ?_
        · rw [hsn]; exact le_of _ _ rfl
        · rw [hsn]; exact hw
  · obtain rfl : k = s.ths.length := by omega
    rw [List.take_length]
    refine wk ?_
    refine eq_frz 10 (fun G2 hu2 hf => ?_)
    exact eq_rett rfl fun w hw => ⟨(G2, _), rfl, ⟨hu1.trans hu2, ints_row hf rfl⟩, hw⟩
end Go.Proofs.YtpbnjifefoniiaaGreatDoor
namespace Go.Proofs.YtpbnjifefoniiaaGreatDoor
open Go Go.SE
structure Sys.Base (s : Sys) (D : Nat) : Prop where
  q : 1 ≤ s.q ∧ s.q ≤ 1000
  few8 : 1 ≤ D ∧ D ≤ 8
  T : s.T.Ok
  doms : s.T.doms.length = D
  on : ∀ d : Nat, d < D → s.T.online d ≠ 0
  F : s.F.Ok D
  room : 1 ≤ s.sl.length ∧ s.sl.length ≤ 64
  ids : tids s.sl = s.ids
  srt : Srt Th.id s.ths
  idr : ∀ t ∈ s.ths, 1 ≤ t.id ∧ t.id ≤ s.last
  last : 0 ≤ s.last ∧ s.last ≤ 2147483648
  slot : ∀ t ∈ s.ths, s.sl[t.slot]? = some t.id
  grp : ∀ t ∈ s.ths, ∃ y, s.F.get t.group = some y
  mem : ∀ y ∈ s.F.L, y.members = ((s.ths.filter fun t => decide (t.group = y.id)).length : Nat)
  awk : ∀ y ∈ s.F.L, y.awake = ((s.ths.filter fun t => t.awake && decide (t.group = y.id)).length : Nat)
  wt : ∀ t ∈ s.ths, 1 ≤ t.weight ∧ t.weight ≤ 10000
  mask : ∀ t ∈ s.ths, t.mask < 18446744073709551616
namespace Sys
variable {s : Sys} {D : Nat}
theorem Base.few (h : s.Base D) : s.ths.length ≤ 64 := by
  have h1 := tids_len s.sl
  have h2 := h.room
  rw [h.ids, Sys.ids, List.length_map] at h1; omega
theorem Base.nod (h : s.Base D) : Nod Th.id s.ths := h.srt.nod
theorem dom_there {g : Int} (h : s.F.Ok D) {y : Grp} (hg : s.F.get g = some y) : s.dom g = s.F.root g - 1 ∧ 0 ≤ s.dom g ∧ s.dom g < D := by
  have h1 := h.rootIn hg
  have e : s.dom g = s.F.root g - 1 := by rw [dom, hg]; rfl
  omega
theorem Base.domT (h : s.Base D) {t : Th} (ht : t ∈ s.ths) : ∃ d : Nat, s.dom t.group = d ∧ d < D := by
  obtain ⟨y, hy⟩ := h.grp t ht
  have h1 := dom_there h.F hy
  exact ⟨(s.dom t.group).toNat, by omega, by omega⟩
theorem mem_awake {t : Th} {d : Int} : t ∈ s.awakeT d ↔ t ∈ s.ths ∧ t.awake = true ∧ s.dom t.group = d := by
  simp [awakeT]
theorem awake_few (s : Sys) (d : Int) : (s.awakeT d).length ≤ s.ths.length := List.length_filter_le ..
theorem Base.lvs (h : s.Base D) (d : Int) : Lvs s.F (s.leaves d) := by
  refine ⟨?_, fun l hl => ?_, fun l hl => ?_⟩
  · rw [leaves, List.length_map]
    have := awake_few s d
    have := h.few; omega
  · obtain ⟨t, ht, rfl⟩ := List.mem_map.1 hl
    obtain ⟨h1, h2, h3⟩ := mem_awake.1 ht
    obtain ⟨y, hy⟩ := h.grp t h1
    refine ⟨y, hy, ?_⟩
    have h4 := h.awk y (kfind_mem hy)
    have h5 := h.F.mem y (kfind_mem hy)
    rw [kfind_key hy] at h4
    have h6 : ((s.leaves d).filter fun k => decide (k.group = t.group)).length ≤ (s.ths.filter fun u => u.awake && decide (u.group = t.group)).length := by
      rw [leaves, List.filter_map, List.length_map, awakeT, List.filter_filter]
      rw [← List.countP_eq_length_filter, ← List.countP_eq_length_filter]
      refine List.countP_mono_left fun u _ hu => ?_
      simp only [Function.comp_apply, Bool.and_eq_true, decide_eq_true_eq] at hu ⊢
      exact ⟨hu.2.1, hu.1⟩
    show (((s.leaves d).filter fun k => decide (k.group = t.group)).length : Int) ≤ y.members
    omega
  · obtain ⟨t, ht, rfl⟩ := List.mem_map.1 hl
    exact h.wt t (mem_awake.1 ht).1
theorem Base.belowRoot (h : s.Base D) (d : Int) : ∀ l ∈ s.leaves d, s.F.below l.group (d + 1) = true := by
  intro l hl
  obtain ⟨t, ht, rfl⟩ := List.mem_map.1 hl
  obtain ⟨h1, h2, h3⟩ := mem_awake.1 ht
  obtain ⟨y, hy⟩ := h.grp t h1
  have h4 := dom_there h.F hy
  have h5 := h.F.rootBelow hy
  rw [show d + 1 = s.F.root t.group from by omega]
  exact h5
theorem Base.rootOf (h : s.Base D) {d : Nat} (hd : d < D) : ∃ y, s.F.get ((d : Int) + 1) = some y ∧ y.parent < 0 := by
  obtain ⟨y, h1, h2⟩ := h.F.has ((d : Int) + 1) (by omega) (by omega)
  refine ⟨y, by rw [← h2]; exact h.F.getOf h1, ?_⟩
  exact (h.F.roots y h1).2.2 (by omega)
theorem popN_le (m : Nat) : ∀ k, TP.popN m k ≤ k
  | 0 => Nat.le_refl _
  | k + 1 => by
    have := popN_le m k
    have : TP.bit m k ≤ 1 := by unfold TP.bit; split <;> omega
    show TP.popN m k + TP.bit m k ≤ k + 1
    omega
theorem popN_pos {m k : Nat} (h : m.testBit k = true) : ∀ j, k < j → 1 ≤ TP.popN m j
  | 0, hj => absurd hj (by omega)
  | j + 1, hj => by
    show 1 ≤ TP.popN m j + TP.bit m j
    by_cases e : k = j
    · subst e
      have : TP.bit m k = 1 := by unfold TP.bit; rw [if_pos h]
      omega
    · have := popN_pos h j (by omega); omega
theorem pop_pos {m : Nat} (hm : m < 18446744073709551616) (h : m ≠ 0) : 1 ≤ TP.pop m := by
  obtain ⟨k, h1, h2⟩ := TP.some_bit hm h
  exact popN_pos h2 64 h1
theorem Base.pop (h : s.Base D) {d : Nat} (hd : d < D) : 1 ≤ s.on d ∧ s.on d ≤ 64 :=
  ⟨pop_pos (h.T.online d) (h.on d hd), popN_le _ 64⟩
end Sys
end Go.Proofs.YtpbnjifefoniiaaGreatDoor
namespace Go.Proofs.YtpbnjifefoniiaaGreatDoor
open Go Go.SE
section
variable {C : Cx} {n : Nat} {Q : Kont} {e : Env} {o : Oper} {w0 w : World} {hs : List HP} {α : Type} {key : α → Int} {enc : α → Value} {L : List α}
theorem rLkL {b t kt et : Nat} {x y : Operand} {ok : Bool} {tl tk' te : TI} {a : Int} (j : Nat) (ho : o.op = .lookup t x y ok := by exact rfl)
    (hx : ev e x = some (.map (some b)) := by exact rfl) (hy : ev e y = some (.int .i64 a) := by exact rfl) (ht : C.L.ti t = some tl := by exact rfl) (hk : tl.kind = .map kt et := by exact rfl) (htk : C.L.ti kt = some tk' := by exact rfl) (hkk : tk'.kind = .int .i64 := by exact rfl) (hte : C.L.ti et = some te := by exact rfl)
    (hi : hs[j]? = some (mapL b key enc L) := by exact rfl) : ER C n o e (Held w0 hs) (lookL key enc L a te.zero ok) :=
  er_lookL (i := 0) ho hx hy ht hk htk hkk hte fun w ⟨l, h1, h2⟩ => by
    obtain ⟨i, q, h3, hq⟩ := h2.get hi
    exact ⟨_, S.imp (i := 0) (h1.front h3) rfl hq, rfl⟩
end
variable {w0 : World} {w : World} {l : List HP} {i : Nat} {sb : Nat} {s : Sys} {D : Nat} {G : Hp} {x : SyX}
abbrev szM (m : Nat) (Z : List (Int × Int)) : HP := mapL m cKey cEnc Z
set_option maxHeartbeats 4000000 in
theorem ySizes (hB : s.Base D) {d : Nat} (hd : d < D) :
    Does cx F_state_System_sizes [ptr sb, int d] (S w0 (syL sb x s (frz G :: l))) fun v w => ∃ y : Hp × Nat, v = .map (some y.2) ∧ Up G y.1 ∧ S w0 (syL sb x s (frz y.1 :: szM y.2 (s.sizes d) :: l)) w := by
  have hfew := hB.few
  have haw := Sys.awake_few s d
  have h8 := hB.few8.2
  refine fn_enter (n := N_state_System_sizes) fn_state_System_sizes rfl rfl rfl ?_
  refine wk ?_
  refine Cx1 (yAwake hB.F hB.few8.2 (by have := hB.room; omega) (by have := hB.room; omega) hB.ids d) real_state_System_Awake ?_
  rintro ⟨G1, v1⟩ ⟨hu1, hv1⟩
  obtain ⟨a, c, e1, hV⟩ := hv1.is
  simp only at e1 hu1
  subst e1
  have hal : (s.awakeI d).length = (s.awakeT d).length := List.length_map ..
  refine wk ?_
  refine ej_row0 T_share_Leaf 2 ?_
  refine ej_imp' (fun w hw => S.perm (l' := syL sb x s (frz G1 :: rowC none T_share_Leaf 2 [] 0 :: l)) hw (perm_ix 11 [1, 2, 3, 4, 5, 6, 7, 8, 9, 10, 0])) ?_
  have hlv : s.leaves d = (s.awakeT d).map fun t => ⟨t.group, t.weight⟩ := rfl
  refine ej_loop2 (fun (k : Nat) (_ : Option (Nat × Nat)) => k ≤ (s.awakeT d).length) (fun k r => [(0, ptr sb), (1, int d), (5, .slice a (s.awakeI d).length c), (6, sv r ((s.leaves d).take k).length), (21, .slice a (s.awakeI d).length c), (22, int (s.awakeI d).length), (23, int k)])
    (fun k r => S w0 (syL sb x s (frz G1 :: rowC r T_share_Leaf 2 (rows lfC ((s.leaves d).take k)) ((s.leaves d).take k).length :: l))) (fun k _ => (s.awakeT d).length - k) 0 none (Nat.zero_le _) (le_of _ _ rfl) (fun w hw => hw) ?_
  intro k r hk
  have hol : ((s.leaves d).take k).length ≤ 64 := by rw [List.length_take, hlv, List.length_map]; omega
  refine wk ?_
  refine ej_dec rfl (fun h => ?_) (fun h => ?_)
  · have h : k < (s.awakeT d).length := by omega
    obtain ⟨t, ht⟩ : ∃ t, (s.awakeT d)[k]? = some t := ⟨_, List.getElem?_eq_getElem h⟩
    have htm := (Sys.mem_awake.1 (List.mem_of_getElem? ht)).1
    obtain ⟨j, hj⟩ := List.getElem?_of_mem htm
    have hid : (s.awakeI d)[k]? = some t.id := by rw [Sys.awakeI, List.getElem?_map, ht]; rfl
    have hin : t.id ∈ s.ids := List.mem_map.2 ⟨t, htm, rfl⟩
    have hlk : (s.leaves d)[k]? = some ⟨t.group, t.weight⟩ := by rw [hlv, List.getElem?_map, ht]; rfl
    refine wk ?_
    refine Ixf hV ?_
    refine Ldf k hV (ints_get hid) ?_
    refine wk ?_
    have hI : ∀ q w, S w0 (syL sb x s (frz G1 :: q :: l)) w → Held w0 [sysA sb x s, recM x s, recF x s] w := fun q => held3 (i := 0) (j := 4) (k := 5) rfl rfl rfl
    have hI0 := hI (rowC r T_share_Leaf 2 (rows lfC ((s.leaves d).take k)) ((s.leaves d).take k).length)
    have hlook : lookL (fun i : Int => i) (fun i => ptr (x.bk i)) s.ids t.id (.pointer none) false = ptr (x.bk t.id) := by rw [lookL, if_neg (by decide), kfind_id_some hin]; rfl
    refine ej_held [sysA sb x s, recM x s, recF x s] ?_
    refine tk 0 ?_
    refine tk 1 ?_
    refine tk 2 ?_
    refine tk 3 ?_
    refine tv 4 rfl (rLd 0) ?_
    refine tk 5 ?_
    refine tv 6 rfl (rLkL 1) ?_
    refine eh_val 33 (u := ptr (x.bk t.id)) rfl hlook ?_
    refine tk 7 ?_
    refine tk 8 ?_
    refine tv 9 rfl (rLdF 2 (th_mem hj)) ?_
    refine tk 10 ?_
    refine tk 11 ?_
    refine tk 12 ?_
    refine tv 13 rfl (rLd 0) ?_
    refine tk 14 ?_
    refine tv 15 rfl (rLkL 1) ?_
    refine eh_val 42 (u := ptr (x.bk t.id)) rfl hlook ?_
    refine tk 16 ?_
    refine tk 17 ?_
    refine tv 18 rfl (rLdF 2 (th_mem hj)) ?_
    refine tv 19 rfl (rBuild (cs := lfC ⟨t.group, t.weight⟩)) ?_
    refine wv 20 rfl (eo_buildS (cs := lfC ⟨t.group, t.weight⟩) rfl rfl rfl rfl rfl rfl rfl rfl rfl rfl fun b7 => ⟨fun w hw => hI _ w (hw.erase 0), ?_⟩)
    refine wv 21 rfl (eo_app1 (j := 0) (i := 11) (b := b7) (r := r) (cs := lfC ⟨t.group, t.weight⟩) rfl rfl rfl rfl rfl rfl rfl rfl rfl rfl rfl rfl rfl (Nat.le_trans hol (by decide)) rfl fun r' => ⟨fun w hw => hI _ w (hw.erase 0), ?_⟩)
    refine eh_imp (fun w hw => hw.erase 0) ?_
    have hI2 := hI (rowC r' T_share_Leaf 2 (rows lfC ((s.leaves d).take k) ++ lfC ⟨t.group, t.weight⟩) (((s.leaves d).take k).length + 1))
    refine tk 22 ?_
    refine wd ?_
    refine wk ?_
    have e : (s.leaves d).take (k + 1) = (s.leaves d).take k ++ [⟨t.group, t.weight⟩] := by rw [List.take_add_one, hlk]; rfl
    refine eq_back2 (k + 1) r' (by omega) (by omega) ?_ fun w hw => ?_
    · rw [e, List.length_append]; exact le_of _ _ rfl
    · rw [e, rows_snoc, List.length_append]; exact hw
  · obtain rfl : k = (s.awakeT d).length := by omega
    have hll : (s.leaves d).length = (s.awakeT d).length := by rw [hlv, List.length_map]
    rw [List.take_of_length_le (by omega)]
    refine wk ?_
    refine el_frz 10 fun G2 hu2 hf => ?_
    have hlvV : LvsV w0 G2 (sv r (s.leaves d).length) (s.leaves d) := ⟨_, _, rfl, fv_row hf (by rw [rows_length lfC 2 lf2])⟩
    refine Fk1 (tOnline hB.T d) real_topo_Topo_Online ?_
    refine wk ?_
    have hI : ∀ K w, S w0 (syL sb x s (frz K :: l)) w → Held w0 [sysA sb x s] w := fun K => held1 (i := 0) rfl
    have hI2 := hI G2
    obtain ⟨y, hy, hyp⟩ := hB.rootOf hd
    have hon := hB.pop hd
    refine ej_held [sysA sb x s] ?_
    refine tk 0 ?_
    refine tk 1 ?_
    refine tk 2 ?_
    refine tv 3 rfl (rLd 0) ?_
    refine tk 4 ?_
    refine tv 5 rfl rArith ?_
    refine tk 6 ?_
    refine tk 8 ?_
    refine w1 7 rfl (TP.Len_any (s.T.online d) (hB.T.online d) _) real_mask_Set_Len hI2 ?_
    refine wx 9 rfl (does_at2 (i := 2) (j := 9) (sRates hB.F (hB.lvs d) hy hyp (hB.belowRoot d) (s.on d) hon _ hlvV) rfl rfl (by decide)) real_share_Rates ?_
    rintro ⟨G3, rv⟩ ⟨hu3, hrv, hr1⟩
    refine ⟨hI G3, ?_⟩
    have hI3 := hI G3
    refine tk 10 ?_
    refine tk 11 ?_
    refine tk 12 ?_
    refine tk 13 ?_
    refine tk 14 ?_
    refine wd ?_
    refine wk ?_
    refine G0 (sAll s.q (ratesL s.F (s.leaves d) (s.on d)) rv hrv hB.q hr1 (by rw [ratesL, List.length_map, List.length_range]; omega)) real_slice_All fun G4 lv hu4 hlv4 => ?_
    have hZ : ((ratesL s.F (s.leaves d) (s.on d)).map fun r => (sliceN s.q r : Int)) = s.sizesL d := by
      rw [ratesL, List.map_map, hll]; rfl
    rw [hZ] at hlv4
    obtain ⟨a2, c2, rfl, hV2⟩ := hlv4.is
    have hVi := ((hV.up hu2).up hu3).up hu4
    have hzl : (s.sizesL d).length = (s.awakeT d).length := by rw [Sys.sizesL, List.length_map, List.length_range]
    refine wk ?_
    refine ec (oMkmap .i64 fun m => ?_)
    refine wk ?_
    refine ej_imp' (fun w hw => S.perm (l' := syL sb x s (frz G4 :: szM m [] :: l)) (S.imp (i := 0) (q := szM m []) hw rfl fun h hm => ⟨[], List.Perm.refl _, hm⟩) (perm_ix 11 [1, 2, 3, 4, 5, 6, 7, 8, 9, 10, 0])) ?_
    refine ej_loopP (fun k : Nat => k ≤ (s.awakeT d).length) (fun k => [(5, .slice a (s.awakeI d).length c), (15, .map (some m)), (82, .slice a2 (s.sizesL d).length c2), (83, int (s.sizesL d).length), (84, int k)]) (fun k => S w0 (syL sb x s (frz G4 :: szM m ((s.sizes d).take k) :: l))) (fun k => (s.awakeT d).length - k) 0 (Nat.zero_le _) (le_of _ _ rfl) (fun w hw => hw) ?_
    intro k hk
    refine wk ?_
    refine ej_dec rfl (fun h => ?_) (fun h => ?_)
    · have h : k < (s.awakeT d).length := by omega
      obtain ⟨t, ht⟩ : ∃ t, (s.awakeT d)[k]? = some t := ⟨_, List.getElem?_eq_getElem h⟩
      have hid : (s.awakeI d)[k]? = some t.id := by rw [Sys.awakeI, List.getElem?_map, ht]; rfl
      obtain ⟨z, hz⟩ : ∃ z, (s.sizesL d)[k]? = some z := ⟨_, List.getElem?_eq_getElem (by omega)⟩
      have hsz : (s.sizes d)[k]? = some (t.id, z) := by
        rw [Sys.sizes, List.getElem?_zip_eq_some]; exact ⟨hid, hz⟩
      have e : (s.sizes d).take (k + 1) = (s.sizes d).take k ++ [(t.id, z)] := by rw [List.take_add_one, hsz]; rfl
      have hnd : (s.awakeI d).Nodup := by
        have h1 : (s.ths.map Th.id).Nodup := hB.nod
        exact (List.filter_sublist.map Th.id).nodup h1
      have hno : kfind cKey ((s.sizes d).take k) t.id = none := kfind_none.2 fun p hp => by
        obtain ⟨j, hj⟩ := List.getElem?_of_mem hp
        rw [List.getElem?_take] at hj
        split at hj
        · rename_i hjk
          rw [Sys.sizes, List.getElem?_zip_eq_some] at hj
          intro e
          have h2 := (List.getElem?_eq_some_iff.1 hj.1)
          have h3 := (List.getElem?_eq_some_iff.1 hid)
          have := nodup_ne hnd (i := j) (j := k) h2.1 h3.1 (by omega)
          rw [h2.2, h3.2] at this
          exact this e
        · cases hj
      refine wk ?_
      refine Ixf hV2 ?_
      refine Ldf k hV2 (ints_get hz) ?_
      refine wk ?_
      refine Ixf hVi ?_
      refine Ldf k hVi (ints_get hid) ?_
      refine wk ?_
      refine el_cons rfl (eo_mapsetL (key := cKey) (enc := cEnc) (L := (s.sizes d).take k) 10 ((s.sizes d).take k ++ [(t.id, z)]) rfl rfl rfl rfl rfl rfl rfl rfl rfl rfl (fun kvs hk => kput_new (a' := (t.id, z)) hk hno) ?_)
      refine wk ?_
      refine eq_backP (k + 1) (by omega) (by omega) (le_of _ _ rfl) fun w hw => ?_
      rw [e]; exact hw
    · obtain rfl : k = (s.awakeT d).length := by omega
      have e : (s.sizes d).take (s.awakeT d).length = s.sizes d := List.take_of_length_le (by rw [Sys.sizes, List.length_zip, hal, hzl]; omega)
      rw [e]
      refine wk ?_
      exact eq_rett rfl fun w hw => ⟨(G4, m), rfl, ((hu1.trans hu2).trans hu3).trans hu4, hw⟩
end Go.Proofs.YtpbnjifefoniiaaGreatDoor
namespace Go.Proofs.YtpbnjifefoniiaaGreatDoor
open Go Go.SE
variable {w0 : World} {w : World} {l : List HP} {i : Nat} {sb : Nat} {s : Sys} {D : Nat} {G : Hp} {x : SyX}
theorem does_all1 {f : FuncId} {argv : List Value} {V : Value} {p p' : HP} {ps : List HP} {j : Nat} (hs : ∀ l, Does cx f argv (S w0 (p :: l)) fun v w => v = V ∧ S w0 (p' :: l) w) (hj : ps[j]? = some p) :
    ∀ l, Does cx f argv (S w0 (allO ps :: l)) fun v w => v = V ∧ S w0 (allO (ps.set j p') :: l) w := fun l =>
  (does_all (V := fun _ : Unit => V) (φ := fun _ => True) (p' := fun _ => p') (fun l => (hs l).mono (fun _ h => h) fun _ _ h => ⟨(), h.1, trivial, h.2⟩) hj l).mono (fun _ h => h) fun _ _ ⟨_, h1, _, h2⟩ => ⟨h1, h2⟩
theorem does_allk {f : FuncId} {argv : List Value} {V : Value} {p : HP} {ps : List HP} {j : Nat} (hs : ∀ l, Does cx f argv (S w0 (p :: l)) fun v w => v = V ∧ S w0 (p :: l) w) (hj : ps[j]? = some p) :
    ∀ l, Does cx f argv (S w0 (allO ps :: l)) fun v w => v = V ∧ S w0 (allO ps :: l) w := fun l =>
  (does_all1 hs hj l).mono (fun _ h => h) fun _ _ h => ⟨h.1, by rw [set_perm_front _ _ _ hj] at h; exact h.2⟩
theorem bks_at {d b : Nat} {y : Int × List En} (hb : x.bp[d]? = some b) (hy : s.bs[d]? = some y) : (bksL x s)[d]? = some (bookO b y.1 y.2) := by
  have h : (x.bp.zip s.bs)[d]? = some (b, y) := List.getElem?_zip_eq_some.2 ⟨hb, hy⟩
  rw [bksL, List.getElem?_map, h]; rfl
theorem zip_set {α β : Type} : ∀ (A : List α) (B : List β) (d : Nat) (a : α) (b : β), A[d]? = some a → (A.zip B).set d (a, b) = A.zip (B.set d b)
  | [], _, _, _, _, h => by simp at h
  | _ :: _, [], d, _, _, _ => by simp
  | a0 :: A, b0 :: B, 0, a, b, h => by
    have e : a0 = a := by simpa using h
    rw [e]; rfl
  | a0 :: A, b0 :: B, d + 1, a, b, h => by
    simp only [List.zip_cons_cons, List.set_cons_succ]
    rw [zip_set A B d a b (by simpa using h)]
theorem bks_set {d b : Nat} {y : Int × List En} (hb : x.bp[d]? = some b) : bksL x (s.setBook d y) = (bksL x s).set d (bookO b y.1 y.2) := by
  show (x.bp.zip (s.bs.set (d : Int).toNat y)).map _ = _
  rw [Int.toNat_natCast, ← zip_set x.bp s.bs d b y hb, List.map_set]
theorem book_at {d : Nat} {y : Int × List En} (hy : s.bs[d]? = some y) : s.book d = y := by
  show s.bs.getD (d : Int).toNat (0, []) = y
  rw [Int.toNat_natCast, List.getD_eq_getElem?_getD, hy]; rfl
theorem resized_nil (L : List En) : resized [] L = L := by
  rw [resized]
  conv => rhs; rw [← List.map_id L]
  exact List.map_congr_left fun e _ => rfl
theorem resized_ids (Z : List (Int × Int)) (L : List En) : (resized Z L).map En.id = L.map En.id := by
  rw [resized, List.map_map]
  refine List.map_congr_left fun e _ => ?_
  show (match kfind Prod.fst Z e.id with | some z => e.sized z.2 | none => e).id = e.id
  split <;> rfl
theorem resized_snoc {Z : List (Int × Int)} {z : Int × Int} (hz : kfind Prod.fst Z z.1 = none) (L : List En) : resized (Z ++ [z]) L = (resized Z L).map fun e => if e.id = z.1 then e.sized z.2 else e := by
  rw [resized, resized, List.map_map]
  refine List.map_congr_left fun e _ => ?_
  show (match kfind Prod.fst (Z ++ [z]) e.id with | some z => e.sized z.2 | none => e) = _
  have hk : kfind Prod.fst (Z ++ [z]) e.id = (kfind Prod.fst Z e.id).or (if z.1 = e.id then some z else none) := by
    simp only [kfind, List.find?_append]
    congr 1
    by_cases h : z.1 = e.id <;> simp [h]
  rw [hk]
  simp only [Function.comp_apply]
  by_cases he : e.id = z.1
  · rw [he, hz, Option.none_or, if_pos rfl]
    simp only
    rw [if_pos he]
  · rw [if_neg (fun h => he h.symm), Option.or_none]
    cases kfind Prod.fst Z e.id with
    | none => simp only; rw [if_neg he]
    | some y => simp only; rw [if_neg (by show ¬ e.id = z.1; exact he)]
theorem resized_perm {Z Z' : List (Int × Int)} (hn : Nod Prod.fst Z) (hp : Z.Perm Z') (L : List En) : resized Z' L = resized Z L := by
  rw [resized, resized]
  refine List.map_congr_left fun e _ => ?_
  rw [kfind_perm hn hp]
theorem sized_upd {L : List En} {id n : Int} {e : En} (hN : Nod En.id L) (hk : kfind En.id L id = some e) : kupd En.id L id (fun _ => e.sized n) = L.map fun e => if e.id = id then e.sized n else e := by
  refine List.map_congr_left fun a ha => ?_
  split
  · rename_i h
    have h1 := kfind_of hN ha
    rw [h, hk] at h1
    rw [Option.some.inj h1]
  · rfl
theorem sized_none {L : List En} {id n : Int} (hk : kfind En.id L id = none) : (L.map fun e => if e.id = id then e.sized n else e) = L := by
  conv => rhs; rw [← List.map_id L]
  refine List.map_congr_left fun a ha => ?_
  rw [if_neg (kfind_none.1 hk a ha)]; rfl
theorem sizes_mem {d : Int} (hB : s.Base D) {p : Int × Int} (h : p ∈ s.sizes d) : 1 ≤ p.2 ∧ p.2 ≤ 1000 := by
  have h1 := (List.of_mem_zip (show (p.1, p.2) ∈ (s.awakeI d).zip (s.sizesL d) from h)).2
  obtain ⟨i, _, h2⟩ := List.mem_map.1 h1
  have h3 := slice_le (q := s.q) (r := rateL s.F (s.leaves d) ((min (s.on d) (s.awakeT d).length : Nat) : Rat) i) (rateL_le i).1 (rateL_le i).2 hB.q.1
  have h4 := hB.q
  rw [← h2]; omega
theorem sizes_nod {d : Int} (hB : s.Base D) : Nod Prod.fst (s.sizes d) := by
  have h1 : (s.awakeI d).Nodup := (List.filter_sublist.map Th.id).nodup hB.nod
  have hl : (s.awakeI d).length = (s.sizesL d).length := by rw [Sys.awakeI, Sys.sizesL, List.length_map, List.length_map, List.length_range]
  show ((s.awakeI d).zip (s.sizesL d)).map Prod.fst |>.Nodup
  rw [List.map_fst_zip (by omega)]; exact h1
theorem setBook_same {d : Nat} {y : Int × List En} (hy : s.bs[d]? = some y) : s.setBook d y = s := by
  have e : s.bs.set (d : Int).toNat y = s.bs := by rw [Int.toNat_natCast]; exact set_perm_front _ _ _ hy
  unfold Sys.setBook
  rw [e]
set_option maxHeartbeats 4000000 in
theorem ySliced (hB : s.Base D) {d b : Nat} (hd : d < D) (hbp : x.bp[d]? = some b) {low : Int} {L : List En} (hy : s.bs[d]? = some (low, L)) (hN : Nod En.id L) :
    Does cx F_state_System_sliced [ptr sb, int d] (S w0 (syL sb x s (frz G :: l))) fun v w => ∃ y : Hp × Nat, v = .map (some y.2) ∧ Up G y.1 ∧ S w0 (syL sb x (s.sliced d) (frz y.1 :: szM y.2 (s.sizes d) :: l)) w := by
  obtain ⟨tp, fb, tb, rm, lb, tal, br, bk, bp⟩ := x
  have h8 := hB.few8.2
  have hlt := (List.getElem?_eq_some_iff.1 hbp).1
  simp only at hlt hbp
  refine fn_enter (n := N_state_System_sliced) fn_state_System_sliced rfl rfl rfl ?_
  refine ej_know (fun w hw => hw.row_some (i := 6) rfl (by show 0 < bp.length; omega)) fun hrs => ?_
  obtain ⟨⟨b1, c1⟩, rfl⟩ := hrs
  refine wk ?_
  refine Cx1 (ySizes hB hd) real_state_System_sizes ?_
  rintro ⟨G1, m⟩ hu1
  simp only at hu1
  refine wk ?_
  refine el_ex (fun w hw => mapL_open (i := 10) hw rfl) fun kvs => el_pre (fun w h => h) fun hp => ?_
  obtain ⟨Z0, hZ0, rfl⟩ : ∃ Z0 : List (Int × Int), Z0.Perm (s.sizes d) ∧ kvs = Z0.map fun p => (cKey p, cEnc p) := perm_map_inv _ hp
  have hnZ : Nod Prod.fst Z0 := (hZ0.map Prod.fst).nodup_iff.2 (sizes_nod hB)
  refine el_cons rfl (eo_range 10 rfl rfl rfl rfl rfl rfl rfl fun r9 => ?_)
  refine wk ?_
  refine ej_loop3 (fun (vis lf : List (Int × Int)) (_ : Option (Int × Value)) => (vis ++ lf).Perm Z0) (fun _ _ _ => [(0, ptr sb), (1, int d), (5, .map (some m)), (12, ptr r9)])
    (fun vis lf cur => S w0 (syL sb ⟨tp, fb, tb, rm, lb, tal, some (b1, c1), bk, bp⟩ (s.setBook d (low, resized vis L)) (frz G1 :: rangeO m r9 .i64 (Z0.map fun p => (cKey p, cEnc p)) (lf.map fun p => (cKey p, cEnc p)) cur :: l))) (fun _ lf _ => lf.length) [] Z0 none (by simp) (le_of _ _ rfl) (fun w hw => by rw [resized_nil, setBook_same hy]; exact hw) ?_
  rintro vis lf cur hvl
  refine wk ?_
  refine el_cons rfl (eo_next 10 rfl rfl rfl rfl rfl (fun hnil => ?_) (fun j p hj => ?_))
  · obtain rfl : lf = [] := List.map_eq_nil_iff.1 hnil
    rw [List.append_nil] at hvl
    refine wk ?_
    refine eq_rett rfl fun w hw => ⟨(G1, m), rfl, hu1, ?_⟩
    have hw := S.range_end (i := 10) hw rfl
    have e : s.sliced d = s.setBook d (low, resized vis L) := by
      rw [Sys.sliced, book_at hy, ← resized_perm (sizes_nod hB) (hvl.trans hZ0).symm L]
    rw [e]
    exact hw.imp (i := 10) rfl fun h hm => ⟨_, hp, hm⟩
  · rw [List.getElem?_map] at hj
    obtain ⟨z, hz, rfl⟩ := Option.map_eq_some_iff.1 hj
    have hzZ : z ∈ Z0 := hvl.mem_iff.1 (List.mem_append_right _ (List.mem_of_getElem? hz))
    have hzn := sizes_mem hB (hZ0.mem_iff.1 hzZ)
    have hstep := perm_step hvl hz
    have hlt2 := (List.getElem?_eq_some_iff.1 hz).1
    have hless : (lf.eraseIdx j).length < lf.length := by rw [List.length_eraseIdx_of_lt hlt2]; omega
    have hzv : kfind Prod.fst vis z.1 = none := kfind_none.2 fun p hp e => by
      have h1 : Nod Prod.fst ((vis ++ [z]) ++ lf.eraseIdx j) := (hstep.map Prod.fst).nodup_iff.2 hnZ
      have h2 : (vis.map Prod.fst ++ [z.1]).Nodup := by
        have := h1
        unfold Nod at this
        rw [List.map_append, List.map_append] at this
        exact (List.nodup_append.1 this).1
      exact (List.nodup_append.1 h2).2.2 p.1 (List.mem_map.2 ⟨p, hp, rfl⟩) z.1 (by simp) e
    rw [eraseIdx_map]
    refine wk ?_
    refine el_cons rfl (eo_entry 10 rfl rfl rfl rfl rfl ?_)
    refine wk ?_
    refine Ixr (hi := ⟨by omega, by show (d : Int) < (bp.length : Nat); omega⟩) ?_
    have hbv : (bp.map fun b => ptr b)[d]? = some (ptr b) := by rw [List.getElem?_map, hbp]; rfl
    refine Ldr (r := some (b1, c1)) d hbv ?_
    refine wk ?_
    have hdl := (List.getElem?_eq_some_iff.1 hy).1
    have hbk : (bksL ⟨tp, fb, tb, rm, lb, tal, some (b1, c1), bk, bp⟩ (s.setBook d (low, resized vis L)))[d]? = some (bookO b low (resized vis L)) := bks_at (y := (low, resized vis L)) hbp (by show (s.bs.set (d : Int).toNat _)[d]? = _; rw [Int.toNat_natCast]; exact List.getElem?_set_self hdl)
    have hsn := resized_snoc hzv L
    have hNv : Nod En.id (resized vis L) := by unfold Nod; rw [resized_ids]; exact hN
    cases hk : kfind En.id (resized vis L) z.1 with
    | none =>
      rw [sized_none hk] at hsn
      refine Fk1 (does_allk (fun l => bResize_no b low (resized vis L) z.1 z.2 hk) hbk) real_round_Book_Resize ?_
      refine wk ?_
      refine eq_back3 (vis ++ [z]) (lf.eraseIdx j) (some (cKey z, cEnc z)) hstep hless (le_of _ _ rfl) fun w hw => ?_
      rw [hsn]; exact hw
    | some e =>
      rw [← sized_upd hNv hk] at hsn
      refine F1 (does_all1 (fun l => bResize b low (resized vis L) z.1 z.2 e hk hzn) hbk) real_round_Book_Resize ?_
      refine wk ?_
      refine eq_back3 (vis ++ [z]) (lf.eraseIdx j) (some (cKey z, cEnc z)) hstep hless (le_of _ _ rfl) fun w hw => ?_
      rw [hsn]
      have e1 : (bksL ⟨tp, fb, tb, rm, lb, tal, some (b1, c1), bk, bp⟩ (s.setBook d (low, resized vis L))).set d (bookO b low (kupd En.id (resized vis L) z.1 fun _ => e.sized z.2)) = bksL ⟨tp, fb, tb, rm, lb, tal, some (b1, c1), bk, bp⟩ (s.setBook d (low, kupd En.id (resized vis L) z.1 fun _ => e.sized z.2)) := by
        rw [bks_set hbp, bks_set hbp, List.set_set]
      have hw : S w0 ((syL sb ⟨tp, fb, tb, rm, lb, tal, some (b1, c1), bk, bp⟩ (s.setBook d (low, resized vis L)) (frz G1 :: rangeO m r9 .i64 (Z0.map fun p => (cKey p, cEnc p)) ((lf.eraseIdx j).map fun p => (cKey p, cEnc p)) (some (cKey z, cEnc z)) :: l)).set 7 (allO ((bksL ⟨tp, fb, tb, rm, lb, tal, some (b1, c1), bk, bp⟩ (s.setBook d (low, resized vis L))).set d (bookO b low (kupd En.id (resized vis L) z.1 fun _ => e.sized z.2))))) w := hw
      rw [e1] at hw
      exact hw
end Go.Proofs.YtpbnjifefoniiaaGreatDoor
namespace Go.Proofs.YtpbnjifefoniiaaGreatDoor
open Go Go.SE
variable {w0 : World} {w : World} {l : List HP} {i : Nat} {sb : Nat} {s : Sys} {D : Nat} {G : Hp} {x : SyX}
theorem bEntryO (b : Nat) (low : Int) (L : List En) (id : Int) : ∀ l, Does cx F_round_Book_Entry [ptr b, int id] (S w0 (bookO b low L :: l)) fun v w => v = (match kfind En.id L id with | some e => .tuple #[enV e, int 0] | none => .tuple #[none3, int 3]) ∧ S w0 (bookO b low L :: l) w := fun _ =>
  does_book fun m => (bEntry b m low L id).mono (fun _ h => h) fun _ _ h => ⟨h.1, shut_book h.2⟩
theorem th_upd {j : Nat} {t : Th} {f : Th → Th} (hN : Nod Th.id s.ths) (hj : s.ths[j]? = some t) : kupd Th.id s.ths t.id f = s.ths.set j (f t) := by
  rw [kupd_set hN hj]
  refine List.map_congr_left fun a ha => ?_
  split
  · rename_i h
    have h1 := kfind_of hN ha
    rw [h, kfind_of hN (List.mem_of_getElem? hj)] at h1
    rw [Option.some.inj h1]
  · rfl
theorem ids_upd {id : Int} {f : Th → Th} (hf : ∀ t, (f t).id = t.id) : (s.upd id f).ids = s.ids := kupd_keys hf
theorem thF_upd {j : Nat} {t : Th} {f : Th → Th} (hN : Nod Th.id s.ths) (hj : s.ths[j]? = some t) (hf : (f t).id = t.id) : thF x (s.upd t.id f) = (thF x s).set j (x.bk t.id, thC (f t)) := by
  show (kupd Th.id s.ths t.id f).map _ = _
  rw [th_upd hN hj, List.map_set, hf]
structure InOk (s : Sys) (t : Th) (c : Int) : Prop where
  c : ∃ (k : Nat) (q : List Nat), c = k ∧ s.Ls[k]? = some q ∧ q.length ≤ 1000
  slot : t.slot < s.sl.length
  free : ∀ (j : Nat) q, s.Ls[j]? = some q → t.slot ∉ q
  many : s.Ls.length ≤ 1000
  ent : ∃ e, kfind En.id (s.book (s.dom t.group)).2 t.id = some e
theorem yIn (hO : s.F.Ok D) (hD : D ≤ 8) (hN : Nod Th.id s.ths) (hroom : s.sl.length ≤ 1000) {j d b : Nat} {t : Th} (hj : s.ths[j]? = some t) (hd : s.dom t.group = d) (hb : x.bp[d]? = some b) (hy : ∃ y, s.bs[d]? = some y) (c : Int) (hI : InOk s t c) :
    Does cx F_state_System_in [ptr sb, int t.id, ptr (x.bk t.id), int c] (S w0 (syL sb x s l)) fun v w => v = .tuple #[] ∧ S w0 (syL sb x (s.inn t c) l) w := by
  obtain ⟨⟨low, L⟩, hy⟩ := hy
  obtain ⟨e, he⟩ := hI.ent
  obtain ⟨k, q, rfl, hq, hql⟩ := hI.c
  rw [hd, book_at hy] at he
  simp only at he
  have htag : s.tagOf t = e.tag := by rw [Sys.tagOf, hd, book_at hy, he]
  refine fn_enter (n := N_state_System_in) fn_state_System_in rfl rfl rfl ?_
  refine wk ?_
  refine C1 (yBook hO hD hj hd hb) real_state_System_book ?_
  refine wk ?_
  refine Fk1 (does_allk (bEntryO b low L t.id) (bks_at (y := (low, L)) hb hy)) real_round_Book_Entry ?_
  rw [he]
  refine wk ?_
  refine ec (oAlloc fun b9 => ?_)
  refine wk ?_
  have hset := thF_upd (x := x) (s := s) (f := fun t => { t with core := (k : Int) }) hN hj rfl
  have hj2 : (s.upd t.id fun t => { t with core := (k : Int) }).ths[j]? = some { t with core := (k : Int) } := by
    show (kupd Th.id s.ths t.id _)[j]? = _
    rw [th_upd hN hj, List.getElem?_set_self (List.getElem?_eq_some_iff.1 hj).1]
  refine StF (i := 6) (thF x (s.upd t.id fun t => { t with core := (k : Int) })) (th_get hj) hset.symm ?_
  refine wk ?_
  have hJ : ∀ q' w, S w0 (cells b9 T_round_Entry (enC e) :: sysA sb x s :: topoO x.tp s.T :: forestO x.fb s.F :: tableO x.tb s.sl s.last :: recM x s :: famO T_state_record (thF x (s.upd t.id fun t => { t with core := (k : Int) })) :: bksR x :: allO (bksL x s) :: q' :: l) w → Held w0 [sysA sb x s, cells b9 T_round_Entry (enC e), famO T_state_record (thF x (s.upd t.id fun t => { t with core := (k : Int) }))] w := fun q' => held3 (i := 1) (j := 0) (k := 6) rfl rfl rfl
  have hJ0 := hJ (lanesO x.lb s.sl.length s.Ls s.tg)
  refine ej_held [sysA sb x s, cells b9 T_round_Entry (enC e), famO T_state_record (thF x (s.upd t.id fun t => { t with core := (k : Int) }))] ?_
  refine tk 0 ?_
  refine tk 1 ?_
  refine tk 2 ?_
  refine tv 3 rfl (rLd 0) ?_
  refine tk 4 ?_
  refine tk 5 ?_
  refine tk 6 ?_
  refine tk 7 ?_
  refine tv 8 rfl (rLdF 2 (th_mem hj2)) ?_
  refine tk 9 ?_
  refine tv 10 rfl (rLd 1) ?_
  refine w1 11 rfl (does_one (i := 9) (fun l => nPutO (l := l) x.lb s.sl.length s.Ls s.tg k t.slot q e.tag hq hI.slot hI.free hroom hI.many hql) rfl) real_lane_Lanes_Put (hJ _) ?_
  refine wd ?_
  refine wk ?_
  refine eq_end [] rvs_nil fun w hw => ⟨rfl, ?_⟩
  have hlane : s.lane k = q := by
    show s.Ls.getD (k : Int).toNat [] = q
    rw [Int.toNat_natCast, List.getD_eq_getElem?_getD, hq]; rfl
  have e1 : s.inn t k = { (s.upd t.id fun t => { t with core := (k : Int) }) with Ls := s.Ls.set k (insL s.tg e.tag q t.slot), tg := s.tg.set t.slot e.tag } := by
    rw [Sys.inn, htag, hlane]; rfl
  have e2 : (s.upd t.id fun t => { t with core := (k : Int) }).ids = s.ids := ids_upd fun _ => rfl
  have hw := hw.erase 0
  rw [e1]
  show S w0 (sysA sb x s :: topoO x.tp s.T :: forestO x.fb s.F :: tableO x.tb s.sl s.last :: mapL x.rm (fun i : Int => i) (fun i => ptr (x.bk i)) (s.upd t.id fun t => { t with core := (k : Int) }).ids :: _) w
  rw [e2]
  exact hw
end Go.Proofs.YtpbnjifefoniiaaGreatDoor
namespace Go.Proofs.YtpbnjifefoniiaaGreatDoor
open Go Go.SE
variable {w0 : World} {w : World} {l : List HP} {i : Nat} {sb : Nat} {s : Sys} {D : Nat} {G : Hp} {x : SyX}
structure OutOk (s : Sys) (t : Th) : Prop where
  c : ∃ k : Nat, t.core = k ∧ k < 64
  cur : s.cur.length = 64
  lane : t.running = false → ∃ q, s.Ls[t.core.toNat]? = some q ∧ t.slot ∈ q ∧ q.length ≤ 1000
theorem cur_set {k : Nat} {v : Int} (hk : k < s.cur.length) : splice (syC x s) (0 + 7 + k * 1) (int v).cells.toList = syC x { s with cur := s.cur.set k v } := by
  show (syC x s).set (0 + 7 + k * 1) (int v) = _
  rw [syC, syC, List.append_assoc, List.set_append_right _ _ (by simp), List.append_assoc]
  congr 1
  have e : 0 + 7 + k * 1 - [int s.q, ptr x.tp, ptr x.fb, ptr x.tb, .map (some x.rm), sv x.br x.bp.length, ptr x.lb].length = k := by simp
  rw [e, List.set_append_left _ _ (by simpa using hk), ints, ints, List.map_set]
theorem yOutR (hN : Nod Th.id s.ths) {j : Nat} {t : Th} (hj : s.ths[j]? = some t) (hr : t.running = true) (hI : OutOk s t) :
    Does cx F_state_System_out [ptr sb, int t.id, ptr (x.bk t.id)] (S w0 (syL sb x s l)) fun v w => v = .tuple #[] ∧ S w0 (syL sb x (s.out t) l) w := by
  obtain ⟨k, hk, hk64⟩ := hI.c
  refine fn_enter (n := N_state_System_out) fn_state_System_out rfl rfl rfl ?_
  refine wk ?_
  refine LdF (i := 5) (th_mem hj) ?_
  rw [hr]
  refine wk ?_
  have hJ : ∀ q' w, S w0 (q' :: topoO x.tp s.T :: forestO x.fb s.F :: tableO x.tb s.sl s.last :: recM x s :: recF x s :: bksR x :: allO (bksL x s) :: lanesO x.lb s.sl.length s.Ls s.tg :: l) w → Held w0 [recF x s] w := fun q' => held1 (i := 5) rfl
  have hJ0 := hJ (sysA sb x s)
  refine ej_held [recF x s] ?_
  refine tk 0 ?_
  refine tk 1 ?_
  refine tk 2 ?_
  refine tk 3 ?_
  refine tv 4 rfl (rLdF 0 (th_mem hj)) ?_
  refine tk 5 ?_
  refine tk 6 ?_
  rw [hk]
  refine wv 7 rfl (eo_idxa rfl rfl rfl rfl rfl rfl rfl rfl ⟨by omega, by omega⟩ ⟨hJ0, ?_⟩)
  refine wv 8 rfl (eo_stw 0 (syC x { s with cur := s.cur.set k 0 }) rfl rfl rfl rfl rfl rfl rfl rfl ?_ ?_ ⟨hJ _, ?_⟩)
  · show 0 + 7 + (k : Int).toNat * 1 + 1 ≤ (syC x s).length
    rw [Int.toNat_natCast]
    have := hI.cur
    simp [syC]; omega
  · show splice (syC x s) (0 + 7 + (k : Int).toNat * 1) (int 0).cells.toList = _
    rw [Int.toNat_natCast]
    exact cur_set (by rw [hI.cur]; exact hk64)
  refine wd ?_
  refine wk ?_
  have hset := thF_upd (x := x) (s := s) (f := fun t => { t with running := false }) hN hj rfl
  refine StF (i := 5) (thF x (s.upd t.id fun t => { t with running := false })) (th_get hj) hset.symm ?_
  refine wk ?_
  refine eq_ret [] rvs_nil fun w hw => ⟨rfl, ?_⟩
  have e1 : s.out t = { (s.upd t.id fun t => { t with running := false }) with cur := s.cur.set k 0 } := by
    rw [Sys.out, hr, if_pos rfl, hk, Int.toNat_natCast]
  have e2 : (s.upd t.id fun t => { t with running := false }).ids = s.ids := ids_upd fun _ => rfl
  rw [e1]
  show S w0 (sysA sb x _ :: topoO x.tp s.T :: forestO x.fb s.F :: tableO x.tb s.sl s.last :: mapL x.rm (fun i : Int => i) (fun i => ptr (x.bk i)) (s.upd t.id fun t => { t with running := false }).ids :: _) w
  rw [e2]
  exact hw
theorem yOutL (_hroom : s.sl.length ≤ 1000) {j : Nat} {t : Th} (hj : s.ths[j]? = some t) (hr : t.running = false) (hI : OutOk s t) :
    Does cx F_state_System_out [ptr sb, int t.id, ptr (x.bk t.id)] (S w0 (syL sb x s l)) fun v w => v = .tuple #[] ∧ S w0 (syL sb x (s.out t) l) w := by
  obtain ⟨k, hk, hk64⟩ := hI.c
  obtain ⟨q, hq, hqm, hql⟩ := hI.lane hr
  rw [hk, Int.toNat_natCast] at hq
  refine fn_enter (n := N_state_System_out) fn_state_System_out rfl rfl rfl ?_
  refine wk ?_
  refine LdF (i := 5) (th_mem hj) ?_
  rw [hr]
  refine wk ?_
  refine ej_opn (i := 8) (fun y : { y : LnX // Rg s.sl.length s.Ls y.lk ∧ s.tg.length = s.sl.length } => lnQ x.lb s.sl.length s.Ls s.tg y.1) rfl (fun _ hp => hp) ?_
  rintro ⟨⟨b, lk, r1, r2, rt⟩, hR, ht⟩
  have hJ : ∀ q1 q2 q3 w, S w0 (q1 :: q2 :: q3 :: lnA x.lb b s.tg rt :: lnT s.tg rt :: sysA sb x s :: topoO x.tp s.T :: forestO x.fb s.F :: tableO x.tb s.sl s.last :: recM x s :: recF x s :: bksR x :: allO (bksL x s) :: l) w → Held w0 [sysA sb x s, recF x s, lnA x.lb b s.tg rt] w := fun q1 q2 q3 => held3 (i := 5) (j := 10) (k := 3) rfl rfl rfl
  have hJ0 := hJ (rgA b s.sl.length lk (lens s.Ls) r1 r2) (rgB lk r1) (rgC (lens s.Ls) r2)
  refine ej_imp' (fun w hw => (show S w0 (rgA b s.sl.length lk (lens s.Ls) r1 r2 :: rgB lk r1 :: rgC (lens s.Ls) r2 :: lnA x.lb b s.tg rt :: lnT s.tg rt :: sysA sb x s :: topoO x.tp s.T :: forestO x.fb s.F :: tableO x.tb s.sl s.last :: recM x s :: recF x s :: bksR x :: allO (bksL x s) :: l) w from hw)) ?_
  refine ej_held [sysA sb x s, recF x s, lnA x.lb b s.tg rt] ?_
  refine tk 0 ?_
  refine tk 1 ?_
  refine tk 2 ?_
  refine tv 3 rfl (rLd 0) ?_
  refine tk 4 ?_
  refine tk 5 ?_
  refine tv 6 rfl (rLd 2) ?_
  refine tk 7 ?_
  refine tk 8 ?_
  refine tk 9 ?_
  refine tv 10 rfl (rLdF 1 (th_mem hj)) ?_
  refine wx 11 rfl (V := fun _ => int 0) (φ := fun lk' => Rg s.sl.length (s.Ls.set k (q.erase t.slot)) lk') ((gDropL b s.sl.length lk r1 r2 s.Ls hR k t.slot q hq hqm hql).mono (fun _ h => h) fun v w ⟨lk', h1, h2, h3⟩ => ⟨lk', h1, h2, h3⟩) real_ring_Rings_Drop fun lk' hR' => ⟨hJ _ _ _, ?_⟩
  refine wd ?_
  refine wk ?_
  refine eq_end [] rvs_nil fun w hw => ⟨rfl, ?_⟩
  have h1 := shut_lanes hR' ht hw
  have hlane : s.lane t.core = q := by
    show s.Ls.getD t.core.toNat [] = q
    rw [hk, Int.toNat_natCast, List.getD_eq_getElem?_getD, hq]; rfl
  have e1 : s.out t = { s with Ls := s.Ls.set k (q.erase t.slot) } := by
    rw [Sys.out, hr, if_neg (by decide), hlane, hk, Int.toNat_natCast]
  rw [e1]
  exact S.perm h1 (perm_ix 9 [1, 2, 3, 4, 5, 6, 7, 8, 0])
theorem yOut (hN : Nod Th.id s.ths) (hroom : s.sl.length ≤ 1000) {j : Nat} {t : Th} (hj : s.ths[j]? = some t) (hI : OutOk s t) :
    Does cx F_state_System_out [ptr sb, int t.id, ptr (x.bk t.id)] (S w0 (syL sb x s l)) fun v w => v = .tuple #[] ∧ S w0 (syL sb x (s.out t) l) w := by
  cases hr : t.running with
  | true => exact yOutR hN hj hr hI
  | false => exact yOutL hroom hj hr hI
end Go.Proofs.YtpbnjifefoniiaaGreatDoor
namespace Go.Proofs.YtpbnjifefoniiaaGreatDoor
open Go Go.SE
variable {w0 : World} {w : World} {l : List HP} {i : Nat} {sb : Nat} {s : Sys} {D : Nat} {G : Hp} {x : SyX}
theorem does_all2 {f : FuncId} {argv : List Value} {α : Type} {V : α → Value} {φ : α → Prop} {p q : HP} {p' q' : α → HP} {ps : List HP} {j : Nat} (hs : ∀ l, Does cx f argv (S w0 (p :: q :: l)) fun v w => ∃ x, v = V x ∧ φ x ∧ S w0 (p' x :: q' x :: l) w) (hj : ps[j]? = some p) :
    ∀ l, Does cx f argv (S w0 (allO ps :: q :: l)) fun v w => ∃ x, v = V x ∧ φ x ∧ S w0 (allO (ps.set j (p' x)) :: q' x :: l) w := fun l =>
  (hs (allO (ps.eraseIdx j) :: l)).mono (fun w hw => S.perm (l := p :: allO (ps.eraseIdx j) :: q :: l) (by simpa using hw.takeO (i := 0) rfl hj) (perm_ix 3 [0, 2, 1])) fun v w ⟨x, h1, h2, h3⟩ => ⟨x, h1, h2, by
    have h4 := S.perm (l' := p' x :: allO (ps.eraseIdx j) :: q' x :: l) h3 (perm_ix 3 [0, 2, 1])
    have := S.giveO (i := 0) (l := allO (ps.eraseIdx j) :: q' x :: l) (q := p' x) (by simpa using h4) (by simp) hj
    simpa using this⟩
namespace Sys
theorem out_F (t : Th) : (s.out t).F = s.F := by unfold out; split <;> rfl
theorem out_bs (t : Th) : (s.out t).bs = s.bs := by unfold out; split <;> rfl
theorem out_sl (t : Th) : (s.out t).sl = s.sl := by unfold out; split <;> rfl
theorem again_F (id : Int) : (s.again id).F = s.F := by
  unfold again
  split
  · rfl
  · rename_i t _; exact out_F t
theorem again_bs (id : Int) : (s.again id).bs = s.bs := by
  unfold again
  split
  · rfl
  · rename_i t _; exact out_bs t
theorem again_sl (id : Int) : (s.again id).sl = s.sl := by
  unfold again
  split
  · rfl
  · rename_i t _; exact out_sl t
theorem upd_nod {id : Int} {f : Th → Th} (hf : ∀ t, (f t).id = t.id) (h : Nod Th.id s.ths) : Nod Th.id (s.upd id f).ths := by
  show (List.map Th.id (kupd Th.id s.ths id f)).Nodup
  rw [kupd_keys hf]; exact h
theorem out_nod (t : Th) (h : Nod Th.id s.ths) : Nod Th.id (s.out t).ths := by
  unfold out
  split
  · exact upd_nod (fun _ => rfl) h
  · exact h
theorem again_nod (id : Int) (h : Nod Th.id s.ths) : Nod Th.id (s.again id).ths := by
  unfold again
  split
  · exact h
  · rename_i t _; exact upd_nod (fun _ => rfl) (out_nod t h)
theorem dom_F {s' : Sys} (h : s'.F = s.F) (g : Int) : s'.dom g = s.dom g := by rw [dom, dom, h]
theorem out_at {j : Nat} {t : Th} (hN : Nod Th.id s.ths) (hj : s.ths[j]? = some t) : (s.out t).ths[j]? = some { t with running := false } := by
  unfold out
  split
  · show (kupd Th.id s.ths t.id _)[j]? = _
    rw [th_upd hN hj, List.getElem?_set_self (List.getElem?_eq_some_iff.1 hj).1]
  · rename_i h
    have h : t.running = false := by simpa using h
    show s.ths[j]? = _
    rw [hj]
    obtain ⟨a, b, c, d, e, f, g, h1, h2, h3⟩ := t
    simp only at h; subst h; rfl
end Sys
def SetOk (D : Nat) : Sys → List Int → Prop
  | _, [] => True
  | s, id :: r => (∃ t, s.find id = some t ∧ OutOk s t ∧ InOk (s.out t) t t.core ∧ ∃ d : Nat, s.dom t.group = d ∧ d < D ∧ ∃ y, s.bs[d]? = some y) ∧ SetOk D (s.again id) r
theorem again_find {id : Int} {t : Th} (h : s.find id = some t) : s.again id = (s.out t).inn t t.core := by rw [Sys.again, h]
set_option maxHeartbeats 1600000 in
theorem ySettled (hO : s.F.Ok D) (hD : D ≤ 8) (hN : Nod Th.id s.ths) (hroom : s.sl.length ≤ 1000) (hbp : x.bp.length = D) {d b : Nat} (hd : d < D) (hb : x.bp[d]? = some b) {low : Int} {L : List En} (hy : s.bs[d]? = some (low, L)) (hDue : Due 100 low L) (hBk : Bk 100 low L)
    (hS : SetOk D (s.setBook d ((settleR 100 low L []).1, (settleR 100 low L []).2.1)) (sortI (settleR 100 low L []).2.2)) (hids : (settleR 100 low L []).2.2.length ≤ 1000000) :
    Does cx F_state_System_settled [ptr sb, int d] (S w0 (syL sb x s (frz G :: l))) fun v w => ∃ G', v = .tuple #[] ∧ Up G G' ∧ S w0 (syL sb x (s.settled d) (frz G' :: l)) w := by
  have hset : s.settled d = (sortI (settleR 100 low L []).2.2).foldl Sys.again (s.setBook d ((settleR 100 low L []).1, (settleR 100 low L []).2.1)) := by rw [Sys.settled, book_at hy]
  rw [hset]
  have hids2 : (sortI (settleR 100 low L []).2.2).length ≤ 1000000 := by simpa [sortI] using hids
  have hst := bSettle (w0 := w0) (F := G) b 100 low L hDue hBk (Nat.le_refl _)
  generalize settleR 100 low L [] = R at hS hids2 hst
  obtain ⟨low', L', os⟩ := R
  simp only at hS hids2 hst ⊢
  generalize sortI os = ids at hS hids2 hst
  have hbk : (bksL x s)[d]? = some (bookO b low L) := bks_at (y := (low, L)) hb hy
  have hbk2 : bksL x (s.setBook d (low', L')) = (bksL x s).set d (bookO b low' L') := bks_set hb
  have hF0 : (s.setBook d (low', L')).F = s.F := rfl
  have hN0 : Nod Th.id (s.setBook d (low', L')).ths := hN
  have hsl0 : (s.setBook d (low', L')).sl = s.sl := rfl
  have hlt := (List.getElem?_eq_some_iff.1 hb).1
  refine fn_enter (n := N_state_System_settled) fn_state_System_settled rfl rfl rfl ?_
  refine wk ?_
  refine Ixr (hi := ⟨by omega, by omega⟩) ?_
  have hbv : (x.bp.map fun b => ptr b)[d]? = some (ptr b) := by rw [List.getElem?_map, hb]; rfl
  refine Ldr d hbv ?_
  refine Fr2 (does_all2 hst hbk) real_round_Book_Settle ?_
  rintro ⟨G1, v1⟩ ⟨hu1, hv1⟩
  obtain ⟨a, c, e1, hV⟩ := hv1.is
  simp only at e1 hu1
  subst e1
  refine wk ?_
  refine ej_imp' (H' := S w0 (syL sb x (s.setBook d (low', L')) (frz G1 :: l))) (fun w hw => by
    have hw : S w0 (((syL sb x s (frz G :: l)).set 7 (allO ((bksL x s).set d (bookO b low' L')))).set 9 (frz G1)) w := hw
    rw [← hbk2] at hw; exact hw) ?_
  generalize s.setBook d (low', L') = s0 at hS hF0 hN0 hsl0
  refine ej_loop3 (fun (k : Nat) (s' : Sys) (_ : Unit) => k ≤ ids.length ∧ s' = (ids.take k).foldl Sys.again s0 ∧ SetOk D s' (ids.drop k) ∧ s'.F = s.F ∧ s'.sl = s.sl ∧ Nod Th.id s'.ths) (fun k _ _ => [(0, ptr sb), (14, .slice a ids.length c), (15, int ids.length), (16, int k)])
    (fun _ s' _ => S w0 (syL sb x s' (frz G1 :: l))) (fun k _ _ => ids.length - k) 0 s0 () ⟨Nat.zero_le _, rfl, hS, hF0, hsl0, hN0⟩ (le_of _ _ rfl) (fun w hw => hw) ?_
  rintro k s' _ ⟨hk, hs', hSk, hFk, hslk, hNk⟩
  refine wk ?_
  refine ej_dec rfl (fun h => ?_) (fun h => ?_)
  · have h : k < ids.length := by omega
    obtain ⟨id, hid⟩ : ∃ id, ids[k]? = some id := ⟨_, List.getElem?_eq_getElem h⟩
    have hdrop : ids.drop k = id :: ids.drop (k + 1) := by
      rw [List.drop_eq_getElem_cons h]
      congr 1
      have := List.getElem?_eq_getElem h
      rw [hid] at this; exact (Option.some.inj this).symm
    rw [hdrop] at hSk
    obtain ⟨⟨t, ht, hOut, hIn, d', hd', hdD, hyd⟩, hSn⟩ := hSk
    obtain ⟨j, hj, rfl⟩ := find_at ht
    have hin : t.id ∈ s'.ids := find_ids.1 (by rw [ht]; rfl)
    have hOk' : s'.F.Ok D := by rw [hFk]; exact hO
    obtain ⟨b', hb'⟩ : ∃ b', x.bp[d']? = some b' := ⟨_, List.getElem?_eq_getElem (by omega)⟩
    have hjo := Sys.out_at hNk hj
    refine wk ?_
    refine Ixf hV ?_
    refine Ldf k hV (ints_get hid) ?_
    refine wk ?_
    refine Go.SE.Lk ?_
    rw [lookL, if_neg (by decide), kfind_id_some hin]
    refine el_val 25 (u := ptr (x.bk t.id)) rfl rfl ?_
    refine wk ?_
    refine C1 (yOut hNk (by rw [hslk]; exact hroom) hj hOut) real_state_System_out ?_
    refine wk ?_
    refine LdF (i := 5) (th_mem hjo) ?_
    have hyi := yIn (w0 := w0) (l := frz G1 :: l) (sb := sb) (s := s'.out t) (x := x) (D := D) (by rw [Sys.out_F]; exact hOk') hD (Sys.out_nod t hNk) (by rw [Sys.out_sl, hslk]; exact hroom) hjo (d := d') (b := b') (by rw [Sys.dom_F (Sys.out_F t)]; exact hd') hb' (by rw [Sys.out_bs]; exact hyd) t.core ⟨hIn.c, hIn.slot, hIn.free, hIn.many, hIn.ent⟩
    refine C1 hyi real_state_System_in ?_
    refine wk ?_
    have hag := again_find ht
    refine eq_back3 (k + 1) (s'.again t.id) () ⟨by omega, ?_, hSn, by rw [Sys.again_F]; exact hFk, by rw [Sys.again_sl]; exact hslk, Sys.again_nod _ hNk⟩ (by omega) (le_of _ _ rfl) fun w hw => ?_
    · rw [List.take_add_one, hid, List.foldl_append, ← hs']; rfl
    · rw [hag]; exact hw
  · obtain rfl : k = ids.length := by omega
    rw [List.take_length] at hs'
    refine wk ?_
    refine eq_end [] rvs_nil fun w hw => ⟨G1, rfl, hu1, ?_⟩
    rw [← hs']; exact hw
end Go.Proofs.YtpbnjifefoniiaaGreatDoor
namespace Go.Proofs.YtpbnjifefoniiaaGreatDoor
open Go Go.SE
variable {w0 : World} {w : World} {l : List HP} {i : Nat} {sb : Nat} {s : Sys} {D : Nat} {G : Hp} {x : SyX}
theorem pathN_upd {L : List Grp} {g : Int} {f : Grp → Grp} (hf : ∀ x, (f x).id = x.id) (hp : ∀ x, (f x).parent = x.parent) : ∀ (k : Nat) (i : Int), pathN (kupd Grp.id L g f) k i = pathN L k i
  | 0, _ => rfl
  | k + 1, i => by
    rw [pathN, pathN, Forest.gget_upd hf]
    cases gget L i with
    | none => rfl
    | some x =>
      simp only [Option.map_some]
      have e : (if x.id = g then f x else x).parent = x.parent := by split <;> simp [hp]
      rw [e, pathN_upd hf hp k]
theorem root_upd {F : Forest} {g : Int} {f : Grp → Grp} (hf : ∀ x, (f x).id = x.id) (hp : ∀ x, (f x).parent = x.parent) (i : Int) : (F.upd g f).root i = F.root i := by
  rw [Forest.root, Forest.root, Forest.path, Forest.path, show (F.upd g f).L = kupd Grp.id F.L g f from rfl, pathN_upd hf hp]
theorem dom_upd {s' : Sys} {g : Int} {f : Grp → Grp} (hF : s'.F = s.F.upd g f) (hf : ∀ x, (f x).id = x.id) (hp : ∀ x, (f x).parent = x.parent) (i : Int) : s'.dom i = s.dom i := by
  rw [Sys.dom, Sys.dom, hF, root_upd hf hp, Forest.get_upd hf]
  cases s.F.get i <;> rfl
namespace Sys
def woken (s : Sys) (t : Th) : Sys := { (s.upd t.id fun t => { t with awake := true }) with F := s.F.upd t.group fun x => { x with awake := x.awake + 1 } }
def entered (s : Sys) (d : Int) (e : En) : Sys := s.setBook d ((s.book d).1, kins (key := En.id) (s.book d).2 (e.comes (s.book d).1))
noncomputable def sizeOf (s : Sys) (d id : Int) : Int := ((kfind cKey (s.sizes d) id).map (·.2)).getD 0
noncomputable def wakes (s : Sys) (t : Th) : Sys := ((s.woken t).sliced (s.dom t.group)).entered (s.dom t.group) ⟨t.id, t.tag, t.left, (s.woken t).sizeOf (s.dom t.group) t.id⟩
noncomputable def waking (s : Sys) (t : Th) (c : Int) : Sys := (s.wakes t).inn { t with awake := true } c
noncomputable def wake (s : Sys) (t : Th) (c : Int) : Sys := (s.waking t c).settled (s.dom t.group)
end Sys
structure SetlOk (D : Nat) (s : Sys) (d : Nat) (low : Int) (L : List En) : Prop where
  at_ : s.bs[d]? = some (low, L)
  due : Due 100 low L
  bk : Bk 100 low L
  set : SetOk D (s.setBook d ((settleR 100 low L []).1, (settleR 100 low L []).2.1)) (sortI (settleR 100 low L []).2.2)
  few : (settleR 100 low L []).2.2.length ≤ 1000000
structure WakeOk (D : Nat) (s : Sys) (t : Th) (c : Int) (d : Nat) : Prop where
  asleep : t.awake = false
  grp : ∃ y, s.F.get t.group = some y ∧ ¬ y.members = y.awake
  mask : t.mask < 18446744073709551616
  may : TP.has (s.T.eff (s.dom t.group) t.mask) c = true
  dom : s.dom t.group = d
  dlt : d < D
  base : (s.woken t).Base D
  ent : ∃ low L, s.bs[d]? = some (low, L) ∧ Nod En.id L ∧ kfind En.id (resized ((s.woken t).sizes d) L) t.id = none ∧ (⟨t.id, t.tag, t.left, (s.woken t).sizeOf d t.id⟩ : En).Small ∧ (0 ≤ low ∧ low ≤ 4611686018427387904) ∧ t.tag ≤ low + 1
  inn : InOk (s.wakes t) { t with awake := true } c
  set : ∃ low L, SetlOk D (s.waking t c) d low L
set_option maxHeartbeats 1600000 in
theorem yWake (hO : s.F.Ok D) (hD : D ≤ 8) (hT : s.T.Ok) (hN : Nod Th.id s.ths) (hroom : s.sl.length ≤ 1000) (hbp : x.bp.length = D) {id : Int} {t : Th} (ht : s.find id = some t) {c : Int} {d : Nat} (hW : WakeOk D s t c d) :
    Does cx F_state_System_Wake [ptr sb, int id, int c] (S w0 (syL sb x s (frz G :: l))) fun v w => ∃ G', v = int 0 ∧ Up G G' ∧ S w0 (syL sb x (s.wake t c) (frz G' :: l)) w := by
  obtain ⟨j, hj, rfl⟩ := find_at ht
  obtain ⟨low, L, hy, hNL, hkn, hsm, hlow, htag⟩ := hW.ent
  obtain ⟨y, hy2, hne⟩ := hW.grp
  obtain ⟨b, hb⟩ : ∃ b, x.bp[d]? = some b := ⟨_, List.getElem?_eq_getElem (by have := hW.dlt; omega)⟩
  obtain ⟨tp, fb, tb, rm, lb, tal, br, bk, bp⟩ := x
  have hlt := (List.getElem?_eq_some_iff.1 hb).1
  simp only at hlt hb hbp
  refine fn_enter (n := N_state_System_Wake) fn_state_System_Wake rfl rfl rfl ?_
  refine ej_know (fun w hw => hw.row_some (i := 6) rfl (by show 0 < bp.length; omega)) fun hrs => ?_
  obtain ⟨⟨b1, c1⟩, rfl⟩ := hrs
  refine wk ?_
  refine C1 (yFind t.id false t ht) real_state_System_find ?_
  rw [if_pos hW.asleep]
  refine wk ?_
  refine C1 (yMay hO hD hT hj hW.mask c) real_state_System_may ?_
  rw [hW.may]
  refine wk ?_
  refine LdF (i := 5) (th_mem (x := ⟨tp, fb, tb, rm, lb, tal, some (b1, c1), bk, bp⟩) hj) ?_
  refine C1 (yOf hO hD t.group) real_state_System_of ?_
  rw [hW.dom]
  refine wk ?_
  have hI : ∀ q w, S w0 (sysA sb ⟨tp, fb, tb, rm, lb, tal, some (b1, c1), bk, bp⟩ s :: topoO tp s.T :: q :: tableO tb s.sl s.last :: recM ⟨tp, fb, tb, rm, lb, tal, some (b1, c1), bk, bp⟩ s :: recF ⟨tp, fb, tb, rm, lb, tal, some (b1, c1), bk, bp⟩ s :: bksR ⟨tp, fb, tb, rm, lb, tal, some (b1, c1), bk, bp⟩ :: allO (bksL ⟨tp, fb, tb, rm, lb, tal, some (b1, c1), bk, bp⟩ s) :: lanesO lb s.sl.length s.Ls s.tg :: frz G :: l) w → Held w0 [sysA sb ⟨tp, fb, tb, rm, lb, tal, some (b1, c1), bk, bp⟩ s, recF ⟨tp, fb, tb, rm, lb, tal, some (b1, c1), bk, bp⟩ s] w := fun q => held2 (i := 0) (j := 5) rfl rfl
  have hI0 := hI (forestO fb s.F)
  refine ej_held [sysA sb ⟨tp, fb, tb, rm, lb, tal, some (b1, c1), bk, bp⟩ s, recF ⟨tp, fb, tb, rm, lb, tal, some (b1, c1), bk, bp⟩ s] ?_
  refine tk 0 ?_
  refine tk 1 ?_
  refine tk 2 ?_
  refine tv 3 rfl (rLd 0) ?_
  refine tk 4 ?_
  refine tk 5 ?_
  refine tk 6 ?_
  refine tv 7 rfl (rLdF 1 (th_mem (x := ⟨tp, fb, tb, rm, lb, tal, some (b1, c1), bk, bp⟩) hj)) ?_
  refine w1 8 rfl (does_one (i := 2) (fWake hO hy2 hne) rfl) real_tree_Forest_Wake (hI _) ?_
  refine wd ?_
  refine wk ?_
  have hset := thF_upd (x := ⟨tp, fb, tb, rm, lb, tal, some (b1, c1), bk, bp⟩) (s := s) (f := fun t => { t with awake := true }) hN hj rfl
  refine StF (i := 5) (off := 0 + 4) (v := .bool true) (thF ⟨tp, fb, tb, rm, lb, tal, some (b1, c1), bk, bp⟩ (s.upd t.id fun t => { t with awake := true })) (th_get (x := ⟨tp, fb, tb, rm, lb, tal, some (b1, c1), bk, bp⟩) hj) hset.symm ?_
  refine wk ?_
  have e2 : (s.woken t).ids = s.ids := ids_upd fun _ => rfl
  have hj2 : (s.woken t).ths[j]? = some { t with awake := true } := by
    show (kupd Th.id s.ths t.id _)[j]? = _
    rw [th_upd hN hj, List.getElem?_set_self (List.getElem?_eq_some_iff.1 hj).1]
  have hN2 : Nod Th.id (s.woken t).ths := Sys.upd_nod (fun _ => rfl) hN
  refine ej_imp' (H' := S w0 (syL sb ⟨tp, fb, tb, rm, lb, tal, some (b1, c1), bk, bp⟩ (s.woken t) (frz G :: l))) (fun w hw => by
    show S w0 (sysA sb ⟨tp, fb, tb, rm, lb, tal, some (b1, c1), bk, bp⟩ s :: topoO tp s.T :: _ :: tableO tb s.sl s.last :: mapL rm (fun i : Int => i) (fun i => ptr (bk i)) (s.woken t).ids :: _) w
    rw [e2]; exact hw) ?_
  have hbs2 : (s.woken t).bs[d]? = some (low, L) := hy
  have hI2 : ∀ w, S w0 (syL sb ⟨tp, fb, tb, rm, lb, tal, some (b1, c1), bk, bp⟩ (s.woken t) (frz G :: l)) w → Held w0 [sysA sb ⟨tp, fb, tb, rm, lb, tal, some (b1, c1), bk, bp⟩ (s.woken t), recF ⟨tp, fb, tb, rm, lb, tal, some (b1, c1), bk, bp⟩ (s.woken t), bksR ⟨tp, fb, tb, rm, lb, tal, some (b1, c1), bk, bp⟩] w := held3 (i := 0) (j := 5) (k := 6) rfl rfl rfl
  refine ej_held [sysA sb ⟨tp, fb, tb, rm, lb, tal, some (b1, c1), bk, bp⟩ (s.woken t), recF ⟨tp, fb, tb, rm, lb, tal, some (b1, c1), bk, bp⟩ (s.woken t), bksR ⟨tp, fb, tb, rm, lb, tal, some (b1, c1), bk, bp⟩] ?_
  refine tk 0 ?_
  refine tk 1 ?_
  refine tk 2 ?_
  refine tv 3 rfl (rLd 0) ?_
  refine tk 4 ?_
  refine tv 5 rfl (rIxr (hix := ⟨by omega, by show (d : Int) < (bp.length : Nat); omega⟩)) ?_
  have hbv : (bp.map fun b => ptr b)[d]? = some (ptr b) := by rw [List.getElem?_map, hb]; rfl
  refine tv 6 rfl (rLdR (i := 2) (r := some (b1, c1)) d hbv) ?_
  refine tk 7 ?_
  refine tk 8 ?_
  refine tk 9 ?_
  refine tk 10 ?_
  refine tk 11 ?_
  refine tv 12 rfl (rLdF 1 (th_mem (x := ⟨tp, fb, tb, rm, lb, tal, some (b1, c1), bk, bp⟩) hj2)) ?_
  refine tk 13 ?_
  refine tk 14 ?_
  refine tk 15 ?_
  refine tk 16 ?_
  refine tv 17 rfl (rLdF 1 (th_mem (x := ⟨tp, fb, tb, rm, lb, tal, some (b1, c1), bk, bp⟩) hj2)) ?_
  refine tk 18 ?_
  refine tk 19 ?_
  refine tk 21 ?_
  refine wx 20 rfl (ySliced (x := ⟨tp, fb, tb, rm, lb, tal, some (b1, c1), bk, bp⟩) hW.base hW.dlt hb hbs2 hNL) real_state_System_sliced ?_
  rintro ⟨G1, m⟩ hu1
  have hsl3 : (s.woken t).sliced d = (s.woken t).setBook d (low, resized ((s.woken t).sizes d) L) := by rw [Sys.sliced, book_at hbs2]
  rw [hsl3]
  have hI4 : ∀ q w, S w0 (sysA sb ⟨tp, fb, tb, rm, lb, tal, some (b1, c1), bk, bp⟩ (s.woken t) :: topoO tp s.T :: forestO fb (s.woken t).F :: tableO tb s.sl s.last :: recM ⟨tp, fb, tb, rm, lb, tal, some (b1, c1), bk, bp⟩ (s.woken t) :: recF ⟨tp, fb, tb, rm, lb, tal, some (b1, c1), bk, bp⟩ (s.woken t) :: bksR ⟨tp, fb, tb, rm, lb, tal, some (b1, c1), bk, bp⟩ :: q :: lanesO lb s.sl.length s.Ls s.tg :: frz G1 :: szM m ((s.woken t).sizes d) :: l) w → Held w0 [sysA sb ⟨tp, fb, tb, rm, lb, tal, some (b1, c1), bk, bp⟩ (s.woken t), recF ⟨tp, fb, tb, rm, lb, tal, some (b1, c1), bk, bp⟩ (s.woken t), bksR ⟨tp, fb, tb, rm, lb, tal, some (b1, c1), bk, bp⟩] w := fun q => held3 (i := 0) (j := 5) (k := 6) rfl rfl rfl
  refine ⟨hI4 _, ?_⟩
  refine wv 22 rfl (eo_er rfl rfl (er_lookL (w0 := w0) (key := cKey) (enc := cEnc) (L := (s.woken t).sizes d) (i := 10) rfl rfl rfl rfl rfl rfl rfl rfl fun _ hw => ⟨_, hw, rfl⟩) ⟨hI4 _, ?_⟩)
  have hlook : lookL cKey cEnc ((s.woken t).sizes d) t.id (int 0) false = int ((s.woken t).sizeOf d t.id) := by
    rw [lookL, if_neg (by decide), Sys.sizeOf]
    cases kfind cKey ((s.woken t).sizes d) t.id <;> rfl
  refine eh_val 66 (u := int ((s.woken t).sizeOf d t.id)) rfl hlook ?_
  have hbk3 : (bksL ⟨tp, fb, tb, rm, lb, tal, some (b1, c1), bk, bp⟩ ((s.woken t).setBook d (low, resized ((s.woken t).sizes d) L)))[d]? = some (bookO b low (resized ((s.woken t).sizes d) L)) := bks_at (y := (low, resized ((s.woken t).sizes d) L)) hb (by show ((s.woken t).bs.set (d : Int).toNat _)[d]? = _; rw [Int.toNat_natCast]; exact List.getElem?_set_self (List.getElem?_eq_some_iff.1 hbs2).1)
  refine w1 23 rfl (does_one (i := 7) (does_all1 (fun l => bEnter b low (resized ((s.woken t).sizes d) L) ⟨t.id, t.tag, t.left, (s.woken t).sizeOf d t.id⟩ hkn hsm hlow htag) hbk3) rfl) real_round_Book_Enter (hI4 _) ?_
  refine wd ?_
  refine wk ?_
  have hwk : s.wakes t = (s.woken t).setBook d (low, kins (key := En.id) (resized ((s.woken t).sizes d) L) ((⟨t.id, t.tag, t.left, (s.woken t).sizeOf d t.id⟩ : En).comes low)) := by
    rw [Sys.wakes, hW.dom, hsl3, Sys.entered]
    have e : ((s.woken t).setBook d (low, resized ((s.woken t).sizes d) L)).book d = (low, resized ((s.woken t).sizes d) L) := book_at (by show ((s.woken t).bs.set (d : Int).toNat _)[d]? = _; rw [Int.toNat_natCast]; exact List.getElem?_set_self (List.getElem?_eq_some_iff.1 hbs2).1)
    rw [e]
    unfold Sys.setBook
    simp only [List.set_set]
  refine el_imp (H' := S w0 (syL sb ⟨tp, fb, tb, rm, lb, tal, some (b1, c1), bk, bp⟩ (s.wakes t) (frz G1 :: szM m ((s.woken t).sizes d) :: l))) (fun w hw => by
    have hw : S w0 ((syL sb ⟨tp, fb, tb, rm, lb, tal, some (b1, c1), bk, bp⟩ ((s.woken t).setBook d (low, resized ((s.woken t).sizes d) L)) (frz G1 :: szM m ((s.woken t).sizes d) :: l)).set 7 (allO ((bksL ⟨tp, fb, tb, rm, lb, tal, some (b1, c1), bk, bp⟩ ((s.woken t).setBook d (low, resized ((s.woken t).sizes d) L))).set d (bookO b low (kins (key := En.id) (resized ((s.woken t).sizes d) L) ((⟨t.id, t.tag, t.left, (s.woken t).sizeOf d t.id⟩ : En).comes low)))))) w := hw
    have e1 : (bksL ⟨tp, fb, tb, rm, lb, tal, some (b1, c1), bk, bp⟩ ((s.woken t).setBook d (low, resized ((s.woken t).sizes d) L))).set d (bookO b low (kins (key := En.id) (resized ((s.woken t).sizes d) L) ((⟨t.id, t.tag, t.left, (s.woken t).sizeOf d t.id⟩ : En).comes low))) = bksL ⟨tp, fb, tb, rm, lb, tal, some (b1, c1), bk, bp⟩ (s.wakes t) := by
      rw [hwk, bks_set hb, bks_set hb, List.set_set]
    rw [e1] at hw
    rw [hwk] at hw ⊢
    exact hw) ?_
  have hbs4 : (s.wakes t).bs[d]? = some (low, kins (key := En.id) (resized ((s.woken t).sizes d) L) ((⟨t.id, t.tag, t.left, (s.woken t).sizeOf d t.id⟩ : En).comes low)) := by
    rw [hwk]
    show ((s.woken t).bs.set (d : Int).toNat _)[d]? = _
    rw [Int.toNat_natCast]; exact List.getElem?_set_self (List.getElem?_eq_some_iff.1 hbs2).1
  have hF4 : (s.wakes t).F = (s.woken t).F := by rw [hwk]; rfl
  have hths4 : (s.wakes t).ths = (s.woken t).ths := by rw [hwk]; rfl
  have hsl4 : (s.wakes t).sl = s.sl := by rw [hwk]; rfl
  have hd4 : (s.wakes t).dom t.group = d := by
    rw [dom_upd (s := s) (g := t.group) (f := fun x => { x with awake := x.awake + 1 }) hF4 (fun _ => rfl) (fun _ => rfl)]
    exact hW.dom
  refine C1 (yIn (x := ⟨tp, fb, tb, rm, lb, tal, some (b1, c1), bk, bp⟩) (s := s.wakes t) (t := { t with awake := true }) (D := D) (by rw [hF4]; exact hW.base.F) hD (by rw [hths4]; exact hN2) (by rw [hsl4]; exact hroom) (j := j) (d := d) (b := b) (by rw [hths4]; exact hj2) hd4 hb ⟨_, hbs4⟩ c hW.inn) real_state_System_in ?_
  refine wk ?_
  obtain ⟨low5, L5, hS⟩ := hW.set
  refine el_imp (fun w hw => hw.erase 10) ?_
  refine Cx1 (ySettled (x := ⟨tp, fb, tb, rm, lb, tal, some (b1, c1), bk, bp⟩) (s := s.waking t c) (G := G1) (D := D) (by show (s.wakes t).F.Ok D; rw [hF4]; exact hW.base.F) hD (by show Nod Th.id ((s.wakes t).inn _ c).ths; exact Sys.upd_nod (fun _ => rfl) (by rw [hths4]; exact hN2)) (by show (s.wakes t).sl.length ≤ 1000; rw [hsl4]; exact hroom) hbp hW.dlt hb hS.at_ hS.due hS.bk hS.set hS.few) real_state_System_settled ?_
  intro G2 hu2
  refine wk ?_
  refine eq_rett rfl fun w hw => ⟨G2, rfl, hu1.trans hu2, ?_⟩
  rw [Sys.wake, hW.dom]; exact hw
end Go.Proofs.YtpbnjifefoniiaaGreatDoor
namespace Go.Proofs.YtpbnjifefoniiaaGreatDoor
open Go Go.SE
variable {w0 : World} {w : World} {l : List HP} {i : Nat} {sb : Nat} {s : Sys} {D : Nat} {G : Hp} {x : SyX}
theorem fam_join5 {T b : Nat} {cs : List Value} {fs : List (Nat × List Value)} {p0 p1 p2 p3 p4 : HP} (h : S w0 (cells b T cs :: p0 :: p1 :: p2 :: p3 :: p4 :: famO T fs :: l) w) : S w0 (p0 :: p1 :: p2 :: p3 :: p4 :: famO T (fs ++ [(b, cs)]) :: l) w := by
  have h1 := S.perm (l' := cells b T cs :: famO T fs :: p0 :: p1 :: p2 :: p3 :: p4 :: l) h (perm_ix 7 [0, 6, 1, 2, 3, 4, 5])
  have h2 := h1.join2 (p := famO T (fs ++ [(b, cs)])) fun f hf => stars_perm ((List.perm_append_comm (l₁ := [(b, cs)]) (l₂ := fs)).map fun p : Nat × List Value => cells p.1 T p.2) (show stars (((b, cs) :: fs).map fun p : Nat × List Value => cells p.1 T p.2) f from hf)
  exact h2.perm (perm_ix 6 [1, 2, 3, 4, 5, 0])
namespace Sys
def newT (s : Sys) (g wt : Int) (m : Nat) : Th := ⟨s.last + 1, s.sl.idxOf 0, g, wt, m, false, false, -1, 0, 0⟩
def add (s : Sys) (g wt : Int) (m : Nat) : Sys := { s with F := s.F.join g, sl := s.sl.set (s.sl.idxOf 0) (s.last + 1), last := s.last + 1, ths := s.ths ++ [s.newT g wt m] }
end Sys
theorem yAdd (hB : s.Base D) {g wt : Int} {m : Nat} {y : Grp} (hg : s.F.get g = some y) (hwt : 1 ≤ wt ∧ wt ≤ 10000) (hm : m < 18446744073709551616) (hc : s.T.checkE (s.dom g) m = 0) (hj : s.F.joinE g = 0) (hroom : 0 ∈ s.sl) (hlast : s.last < 2147483648) :
    Does cx F_state_System_Add [ptr sb, int g, int wt, u64 m] (S w0 (syL sb x s l)) fun v w => ∃ b : Nat, v = .tuple #[int (s.last + 1), int 0] ∧ True ∧ S w0 (syL sb { x with bk := bkN x.bk (s.last + 1) b } (s.add g wt m) l) w := by
  have hD := hB.few8.2
  have hsl := hB.room
  have hl0 := hB.last
  refine fn_enter (n := N_state_System_Add) fn_state_System_Add rfl rfl rfl ?_
  refine wk ?_
  refine Fk1 (fun l => fGroup hB.F g l) real_tree_Forest_Group ?_
  rw [told_parent hB.F hg, show s.F.there g = 0 from by rw [Forest.there, hg]; rfl]
  refine wk ?_
  refine ec (oAlloc fun b9 => ?_)
  refine wk ?_
  refine el_imp (fun w hw => hw.erase 0) ?_
  refine el_gdec rfl rfl (fun h => absurd h (by omega)) (fun _ => ?_)
  refine wk ?_
  refine ej_dec rfl (fun h => absurd h (by omega)) (fun _ => ?_)
  refine wk ?_
  have hI : ∀ w, S w0 (syL sb x s l) w → Held w0 [sysA sb x s] w := held1 (i := 0) rfl
  refine ej_held [sysA sb x s] ?_
  refine tk 0 ?_
  refine tk 1 ?_
  refine tk 2 ?_
  refine tv 3 rfl (rLd 0) ?_
  refine tk 4 ?_
  refine tk 5 ?_
  refine tk 7 ?_
  refine w1 6 rfl (yOf hB.F hD g) real_state_System_of hI ?_
  refine w1 8 rfl (does_keep (i := 1) (tCheck hB.T (s.dom g) m hm) rfl) real_topo_Topo_Check hI ?_
  rw [hc]
  refine tk 9 ?_
  refine wd ?_
  refine wk ?_
  refine F1 (fJoin hB.F g) real_tree_Forest_Join ?_
  rw [hj]
  refine wk ?_
  refine F1 (fun l => tAdd_ok x.tb s.sl s.last (by omega) hroom ⟨hl0.1, hlast⟩) real_table_Table_Add ?_
  refine wk ?_
  refine ec (oBuild (cs := thC (s.newT g wt m)) ?_)
  refine ec (oBox fun b => ?_)
  have hnew : s.last + 1 ∉ s.ids := fun h => by
    obtain ⟨t, ht, e⟩ := List.mem_map.1 h
    have := (hB.idr t ht).2; omega
  have hbk : (mapL x.rm (fun i : Int => i) (fun i => ptr (x.bk i)) s.ids : HP) = mapL x.rm (fun i : Int => i) (fun i => ptr (bkN x.bk (s.last + 1) b i)) s.ids := ndM_bk fun i hi => by
    have : i ≠ s.last + 1 := fun e => hnew (e ▸ hi)
    simp [bkN, this]
  refine el_imp (H' := S w0 (cells b T_state_record (thC (s.newT g wt m)) :: sysA sb x s :: topoO x.tp s.T :: forestO x.fb (s.F.join g) :: tableO x.tb (s.sl.set (s.sl.idxOf 0) (s.last + 1)) (s.last + 1) :: mapL x.rm (fun i : Int => i) (fun i => ptr (bkN x.bk (s.last + 1) b i)) s.ids :: recF x s :: bksR x :: allO (bksL x s) :: lanesO x.lb s.sl.length s.Ls s.tg :: l)) (fun w hw => by
    have hw : S w0 (cells b T_state_record (thC (s.newT g wt m)) :: sysA sb x s :: topoO x.tp s.T :: forestO x.fb (s.F.join g) :: tableO x.tb (s.sl.set (s.sl.idxOf 0) (s.last + 1)) (s.last + 1) :: mapL x.rm (fun i : Int => i) (fun i => ptr (x.bk i)) s.ids :: recF x s :: bksR x :: allO (bksL x s) :: lanesO x.lb s.sl.length s.Ls s.tg :: l) w := hw
    rw [hbk] at hw; exact hw) ?_
  refine el_cons rfl (eo_mapsetL (key := fun i : Int => i) (enc := fun i => ptr (bkN x.bk (s.last + 1) b i)) (L := s.ids) 5 (s.ids ++ [s.last + 1]) rfl rfl rfl rfl rfl rfl rfl rfl rfl rfl (fun kvs hk => ?_) ?_)
  · have h1 := kput_new (a' := s.last + 1) hk (kfind_id_none hnew)
    have e : ptr (bkN x.bk (s.last + 1) b (s.last + 1)) = ptr b := by simp [bkN]
    rw [e] at h1; exact h1
  refine wk ?_
  refine eq_rett rfl fun w hw => ⟨b, rfl, trivial, ?_⟩
  have e1 : (s.add g wt m).ids = s.ids ++ [s.last + 1] := by
    show (s.ths ++ [s.newT g wt m]).map Th.id = _
    rw [List.map_append]; rfl
  have e2 : thF { x with bk := bkN x.bk (s.last + 1) b } (s.add g wt m) = thF x s ++ [(b, thC (s.newT g wt m))] := by
    show (s.ths ++ [s.newT g wt m]).map _ = _
    rw [List.map_append]
    congr 1
    · refine List.map_congr_left fun t ht => ?_
      have : t.id ≠ s.last + 1 := fun e => hnew (e ▸ List.mem_map.2 ⟨t, ht, rfl⟩)
      simp [bkN, this]
    · show [(bkN x.bk (s.last + 1) b (s.last + 1), thC (s.newT g wt m))] = _
      simp [bkN]
  have e3 : lanesO x.lb (s.sl.set (s.sl.idxOf 0) (s.last + 1)).length s.Ls s.tg = lanesO x.lb s.sl.length s.Ls s.tg := by rw [List.length_set]
  have hw2 := fam_join5 (T := T_state_record) hw
  show S w0 (sysA sb _ (s.add g wt m) :: topoO x.tp s.T :: forestO x.fb (s.F.join g) :: tableO x.tb _ (s.last + 1) :: mapL x.rm (fun i : Int => i) (fun i => ptr (bkN x.bk (s.last + 1) b i)) (s.add g wt m).ids :: famO T_state_record (thF { x with bk := bkN x.bk (s.last + 1) b } (s.add g wt m)) :: bksR x :: allO (bksL x s) :: lanesO x.lb (s.sl.set (s.sl.idxOf 0) (s.last + 1)).length s.Ls s.tg :: l) w
  rw [e1, e2, e3]
  exact hw2
end Go.Proofs.YtpbnjifefoniiaaGreatDoor
namespace Go.Proofs.YtpbnjifefoniiaaGreatDoor
open Go Go.SE
variable {w0 : World} {w : World} {l : List HP} {i : Nat} {sb : Nat} {s : Sys} {D : Nat} {G : Hp} {x : SyX}
section
variable {C : Cx} {n : Nat} {Q : Kont} {e : Env} {ops : Array Oper} {w0 : World} {l : List HP}
theorem wclb {I : WP} {fuel : Nat} {listed : List Bool} {dj t tk' E b off T : Nat} {oj ok : Oper} {tj te tl : TI} {x : Operand} {cs : List Value} {v : Value} (i j k p : Nat) {oi : Oper} (hii : ops[i]? = some oi) (hjj : ops[j]? = some oj) (hkk : ops[k]? = some ok) {c : Call} {d dk f : Nat} {first capt args argv : List Value} {β : Type} {V : β → Value} {φ : β → Prop} {q : β → HP} {ps : Array (Nat × Operand)} {cb : β → List Value} {parts : β → List (Nat × Value)}
    (hs : Does C f argv (S w0 l) fun v w => ∃ x, v = V x ∧ φ x ∧ S w0 (q x :: l) w) (hr : Real C.P f)
    (h : ∀ x b7, φ x → EH C n I fuel (((listed.set j true).set i true).set k true) ops Q ((dk, .slice (some ⟨b7, 0, none⟩) 1 1) :: (d, V x) :: (dj, v) :: e) (S w0 (cells b7 E (cb x) :: q x :: l)))
    (hI : ∀ w, S w0 l w → I w) (hp : l[p]? = some (cells b T cs)) (hv : cs[off]? = some v)
    (hrs : (Region.ready .any ops listed.toArray).all (fun x => x == i || x == j) = true := by kernel_rfl) (hne : (Region.ready .any ops listed.toArray).isEmpty = false := by kernel_rfl) (hrd2 : Region.ready .any ops (listed.set j true).toArray = [i] := by kernel_rfl) (hrd1 : (Region.ready .any ops (listed.set i true).toArray).all (fun x => x == j || x == k) = true := by kernel_rfl) (hne1 : (Region.ready .any ops (listed.set i true).toArray).isEmpty = false := by kernel_rfl)
    (hrd3 : Region.ready .any ops ((listed.set j true).set i true).toArray = [k] := by kernel_rfl) (hrd4 : Region.ready .any ops ((listed.set i true).set k true).toArray = [j] := by kernel_rfl) (hij : Nat.beq i j = false := by exact rfl) (hjk : Nat.beq j k = false := by exact rfl)
    (hoj : oj.op = .load t x := by exact rfl) (hdj : oj.dst = some dj := by exact rfl) (hnj : Nat.ble n dj = false := by exact rfl) (hxj : ev e x = some (.pointer (some ⟨b, off, none⟩)) := by exact rfl) (htj : C.L.ti t = some tj := by exact rfl) (hkj : tj.kind.agg = false := by exact rfl) (hgj : want ops e oj = some true := by exact rfl)
    (hg : want ops e oi = some true := by exact rfl) (hg' : want ops ((dj, v) :: e) oi = some true := by exact rfl) (ho : oi.op = .call c := by exact rfl) (hd : oi.dst = some d := by exact rfl) (hn : Nat.ble n d = false := by exact rfl) (hdd : Nat.beq d dj = false := by exact rfl) (hgj' : ∀ u, want ops ((d, u) :: e) oj = some true := by exact fun _ => rfl) (hxj' : ∀ u, ev ((d, u) :: e) x = some (.pointer (some ⟨b, off, none⟩)) := by exact fun _ => rfl) (hc : callee e c.callee = some (f, first, capt) := by exact rfl) (ha : evs e c.args.toList = some args := by exact rfl)
    (hc' : callee ((dj, v) :: e) c.callee = some (f, first, capt) := by exact rfl) (ha' : evs ((dj, v) :: e) c.args.toList = some args := by exact rfl) (hargs : first ++ args ++ capt = argv := by exact rfl)
    (hok : ok.op = .buildSlice tk' 1 ps := by exact rfl) (hdk : ok.dst = some dk := by exact rfl) (hnk : Nat.ble n dk = false := by exact rfl) (htk : C.L.ti tk' = some tl := by exact rfl) (hkk2 : tl.kind = .slice E := by exact rfl) (hE : C.L.ti E = some te := by exact rfl) (hzs : te.zero.cells.size = te.size := by exact rfl) (hm : Nat.ble (1 * te.size) 16777216 = true := by exact rfl)
    (hpp : ∀ x, evParts ((d, V x) :: e) ps.toList = some (parts x) := by exact fun _ => rfl) (hpp2 : ∀ x, evParts ((d, V x) :: (dj, v) :: e) ps.toList = some (parts x) := by exact fun _ => rfl) (hcb : ∀ x, fillL (fun i => some (i * te.size, te.size)) (rowZ 1 te.zero.cells.toList) (parts x) = some (cb x) := by exact fun _ => rfl)
    (hgk : ∀ u, want ops ((d, u) :: e) ok = some true := by exact fun _ => rfl) (hgk2 : ∀ u, want ops ((d, u) :: (dj, v) :: e) ok = some true := by exact fun _ => rfl) (hgj2 : ∀ u u', want ops ((dk, u') :: (d, u) :: e) oj = some true := by exact fun _ _ => rfl) (hxj2 : ∀ u u', ev ((dk, u') :: (d, u) :: e) x = some (.pointer (some ⟨b, off, none⟩)) := by exact fun _ _ => rfl) (hdjk : Nat.beq dk dj = false := by exact rfl) :
    EH C n I (fuel + 3) listed ops Q e (S w0 l) := by
  subst hargs
  have hne2 : i ≠ j := fun e => by rw [e] at hij; simp at hij
  have hne3 : j ≠ k := fun e => by rw [e] at hjk; simp at hjk
  refine eh_ways _ rfl hne ?_
  have mid : ∀ y, φ y → EH C n I (fuel + 1) ((listed.set j true).set i true) ops Q ((d, V y) :: (dj, v) :: e) (S w0 (q y :: l)) := fun y hy =>
    eh_way k hrd3 (hway hkk (hgk2 _) (eo_buildS hok hdk hnk htk hkk2 hE hzs hm (hpp2 y) (hcb y) fun b7 => ⟨fun w hw => hI w ((hw.erase 0).erase 0), h y b7 hy⟩))
  have wayi : HWay C n I i (fuel + 2) listed ops Q e (S w0 l) := by
    refine hway hii hg (eo_callx ho hd hn hc ha hr hs fun y hy => ⟨fun w hw => hI w (hw.erase 0), ?_⟩)
    refine eh_ways _ rfl hne1 ?_
    have key : ∀ rs : List Nat, (∀ x ∈ rs, x = j ∨ x = k) → HWays C n I (fuel + 1) (listed.set i true) ops Q ((d, V y) :: e) (S w0 (q y :: l)) rs := by
      intro rs
      induction rs with
      | nil => intro _; exact .nil
      | cons z rs ih =>
        intro hx
        refine .cons ?_ (ih fun y hy => hx y (by simp [hy]))
        rcases hx z (by simp) with rfl | rfl
        · refine hway hjj (hgj' _) (eo_ld (p + 1) hoj hdj hnj (hxj' _) htj hkj (by simpa using hp) hv ⟨fun w hw => hI w (hw.erase 0), ?_⟩)
          have h5 := mid y hy
          rw [List.set_comm _ _ hne2.symm] at h5
          exact eh_le (le_swap hdd) h5
        · refine hway hkk (hgk _) (eo_buildS hok hdk hnk htk hkk2 hE hzs hm (hpp y) (hcb y) fun b7 => ⟨fun w hw => hI w ((hw.erase 0).erase 0), ?_⟩)
          refine eh_way j hrd4 (hway hjj (hgj2 _ _) (eo_ld (p + 2) hoj hdj hnj (hxj2 _ _) htj hkj (by simpa using hp) hv ⟨fun w hw => hI w ((hw.erase 0).erase 0), ?_⟩))
          have h5 := h y b7 hy
          rw [List.set_comm _ _ hne2.symm, List.set_comm _ _ hne3] at h5
          refine eh_le ?_ h5
          have l1 := le_swap (e := (d, V y) :: e) (a := (dk, Value.slice (some ⟨b7, 0, none⟩) 1 1)) (b := (dj, v)) hdjk
          have l2 := le_swap (e := e) (a := (d, V y)) (b := (dj, v)) hdd
          intro u w hu
          refine l1 u w ?_
          simp only [Go.SE.get] at hu ⊢
          by_cases h1 : Nat.beq dk u = true
          · rw [h1] at hu ⊢; exact hu
          · have h1 : Nat.beq dk u = false := Bool.eq_false_iff.2 h1
            rw [h1] at hu ⊢
            exact l2 u w hu
    exact key _ fun x hx => by
      have := List.all_eq_true.1 hrd1 x hx
      simpa using this
  have wayj : HWay C n I j (fuel + 2) listed ops Q e (S w0 l) := by
    refine hway hjj hgj (eo_ld p hoj hdj hnj hxj htj hkj hp hv ⟨hI, ?_⟩)
    exact eh_way i hrd2 (hway hii hg' (eo_callx ho hd hn hc' ha' hr hs fun y hy => ⟨fun w hw => hI w (hw.erase 0), mid y hy⟩))
  have key : ∀ rs : List Nat, (∀ x ∈ rs, x = i ∨ x = j) → HWays C n I (fuel + 2) listed ops Q e (S w0 l) rs := by
    intro rs
    induction rs with
    | nil => intro _; exact .nil
    | cons z rs ih =>
      intro hx
      refine .cons ?_ (ih fun y hy => hx y (by simp [hy]))
      rcases hx z (by simp) with rfl | rfl
      · exact wayi
      · exact wayj
  refine key _ fun x hx => ?_
  have := List.all_eq_true.1 hrs x hx
  simpa using this
end
noncomputable def tallyC : List Value := match cx.L.ti T_tally_Tally with
  | some ti => ti.zero.cells.toList
  | none => []
def rootsN (gr : Nat) : Nat → Forest
  | 0 => ⟨gr, 0, []⟩
  | k + 1 => (rootsN gr k).more (-1) 1
theorem rootsN_ok {gr : Nat} (hg : 1 ≤ gr ∧ gr ≤ 64) : ∀ k, k ≤ gr → (rootsN gr k).Ok k ∧ (rootsN gr k).L.length = k ∧ (rootsN gr k).last = k ∧ (rootsN gr k).room = gr
  | 0, _ => ⟨Forest.Ok.new hg, rfl, rfl, rfl⟩
  | k + 1, hk => by
    obtain ⟨h1, h2, h3, h4⟩ := rootsN_ok hg k (by omega)
    refine ⟨h1.more (by omega) ⟨by decide, by decide⟩ (.inl ⟨rfl, h3, rfl⟩), ?_, ?_, h4⟩
    · show ((rootsN gr k).L ++ [_]).length = k + 1
      rw [List.length_append, h2]; rfl
    · show (rootsN gr k).last + 1 = _
      rw [h3]; rfl
def sys0 (q th gr : Nat) (xs : List Nat) (k : Nat) : Sys := ⟨q, TP.topoT xs, rootsN gr k, List.replicate th 0, 0, [], List.replicate k (1, []), List.replicate 64 [], List.replicate th 0, List.replicate 64 0⟩
theorem topoNew_ok {r : Option (Nat × Nat)} (xs : List Nat) (hm : ∀ m ∈ xs, m < 18446744073709551616) (h : l[i]? = some (rowC r T_mask_Set 1 (u64s xs) xs.length)) (hn : xs.length ≤ 1000) (h0 : TP.topoE xs = 0) :
    Does cx F_topo_New [sv r xs.length] (S w0 l) fun v w => ∃ tp : Nat, v = .tuple #[ptr tp, int 0] ∧ True ∧ S w0 (topoO tp (TP.topoT xs) :: l) w :=
  (TP.NewT2_any xs hm h hn).mono (fun _ h => h) fun v w hv => by
    rcases hv with ⟨y, h1, _, h2⟩ | ⟨_, _, h1, _⟩
    · exact ⟨y.1, h1, trivial, shut_topo h2⟩
    · exact absurd h0 h1
set_option maxHeartbeats 4000000 in
theorem yNew_all {r : Option (Nat × Nat)} (q th gr : Nat) (xs : List Nat) (hm : ∀ m ∈ xs, m < 18446744073709551616) (h : l[i]? = some (rowC r T_mask_Set 1 (u64s xs) xs.length)) (hn : xs.length ≤ 8) (h0 : TP.topoE xs = 0) (hq : 1 ≤ q ∧ q ≤ 1000) (hth : 1 ≤ th ∧ th ≤ 64) (hgr : 1 ≤ gr ∧ gr ≤ 64) :
    Does cx F_state_New [.agg [int q, int th, int gr, sv r xs.length].toArray] (S w0 (frz G :: l)) fun v w => if xs.length ≤ gr then (∃ y : Nat × SyX × Hp, v = .tuple #[ptr y.1, int 0] ∧ (Up G y.2.2 ∧ y.2.1.bp.length = xs.length) ∧ S w0 (syL y.1 y.2.1 (sys0 q th gr xs xs.length) (frz y.2.2 :: cells y.2.1.tal T_tally_Tally tallyC :: l)) w) else ∃ G' : Hp, v = .tuple #[.pointer none, int 6] ∧ Up G G' ∧ S w0 (frz G' :: l) w := by
  refine fn_enter (n := N_state_New) fn_state_New rfl rfl rfl ?_
  refine wk ?_
  refine ec (oBox fun cb => ?_)
  refine wk ?_
  have hI : ∀ K w, S w0 (cells cb T_state_Config [int q, int th, int gr, sv r xs.length] :: frz K :: l) w → Held w0 [cells cb T_state_Config [int q, int th, int gr, sv r xs.length]] w := fun K => held1 (i := 0) rfl
  have hI0 := hI G
  refine ej_held [cells cb T_state_Config [int q, int th, int gr, sv r xs.length]] ?_
  refine tk 0 ?_
  refine tv 1 rfl (rLd 0) ?_
  refine wg0 2 rfl (rInt 0 (by decide)) real_ratio_Int fun G1 rv hu1 hrv => ⟨?_, ?_⟩
  · exact hI G1
  refine wg0 3 rfl (sOf q ((0 : Nat) : Rat) rv hrv hq (by decide) ((few_nat (by decide)).le (by decide))) real_slice_Of fun G2 _ hu2 _ => ⟨?_, ?_⟩
  · exact hI G2
  have hI2 := hI G2
  refine tk 4 ?_
  refine tk 5 ?_
  refine tk 6 ?_
  refine tk 7 ?_
  refine tk 8 ?_
  refine wd ?_
  refine wk ?_
  refine Cx1 (topoNew_ok (i := i + 2) xs hm h (by omega) h0) real_topo_New fun tp _ => ?_
  refine wk ?_
  refine Cx1 (tNew th hth) real_table_New fun tb _ => ?_
  refine wk ?_
  refine Cx1 (fNew gr hgr) real_tree_New fun fb _ => ?_
  refine wk ?_
  refine ec (oMkmap .i64 fun rm => ?_)
  refine ec (oBuild (cs := tallyC) ?_)
  refine ec (oBox fun tal => ?_)
  refine ec (oBuild (cs := [int q, ptr tp, ptr fb, ptr tb, .map (some rm), .slice none 0 0, .pointer none] ++ ints (List.replicate 64 0) ++ [ptr tal]) ?_)
  refine ec (oBox fun sb => ?_)
  refine wk ?_
  refine Cx1 (nNew th 64 hth ⟨by decide, by decide⟩) real_lane_New fun lb _ => ?_
  refine wk ?_
  have hre : (List.replicate th (0 : Int)).length = th := List.length_replicate
  refine ej_imp' (H' := S w0 (syL sb ⟨tp, fb, tb, rm, lb, tal, none, fun _ => 0, []⟩ (sys0 q th gr xs 0) (frz G2 :: cells tal T_tally_Tally tallyC :: cells cb T_state_Config [int q, int th, int gr, sv r xs.length] :: l))) (fun w hw => by
    have h1 := S.imp (i := 3) (q := mapL rm (fun i : Int => i) (fun _ => ptr 0) []) hw rfl fun h hm => ⟨[], List.Perm.refl _, hm⟩
    have h2 := S.row_new (T := T_P_round_Book) (sz := 1) h1
    have h3 := S.fold (qs := []) (p := allO []) h2 fun _ _ => trivial
    have h4 := S.fold (qs := []) (p := famO T_state_record []) h3 fun _ _ => trivial
    have h5 := S.perm (l' := sysA sb ⟨tp, fb, tb, rm, lb, tal, none, fun _ => 0, []⟩ (sys0 q th gr xs 0) :: topoO tp (TP.topoT xs) :: forestO fb (rootsN gr 0) :: tableO tb (List.replicate th 0) 0 :: mapL rm (fun i : Int => i) (fun _ => ptr 0) [] :: famO T_state_record [] :: rowC none T_P_round_Book 1 [] 0 :: allO [] :: lanesO lb th (List.replicate 64 []) (List.replicate th 0) :: frz G2 :: cells tal T_tally_Tally tallyC :: cells cb T_state_Config [int q, int th, int gr, sv r xs.length] :: l) h4 (perm_ix 12 [4, 9, 7, 8, 6, 0, 2, 1, 3, 11, 5, 10])
    show S w0 (_ :: _ :: _ :: _ :: _ :: _ :: _ :: _ :: lanesO lb (List.replicate th (0 : Int)).length (List.replicate 64 []) (List.replicate th 0) :: _) w
    rw [hre]; exact h5) ?_
  refine ej_loop3 (fun (k : Nat) (_ : Option (Nat × Nat)) (bp : List Nat) => k ≤ xs.length ∧ k ≤ gr ∧ bp.length = k) (fun k _ _ => [(9, ptr fb), (10, ptr sb), (71, int xs.length), (72, int k)])
    (fun k rk bp => S w0 (syL sb ⟨tp, fb, tb, rm, lb, tal, rk, fun _ => 0, bp⟩ (sys0 q th gr xs k) (frz G2 :: cells tal T_tally_Tally tallyC :: cells cb T_state_Config [int q, int th, int gr, sv r xs.length] :: l))) (fun k _ _ => xs.length - k) 0 none [] ⟨Nat.zero_le _, Nat.zero_le _, rfl⟩ (le_of _ _ rfl) (fun w hw => hw) ?_
  rintro k rk bp ⟨hk, hkg, hbl⟩
  subst hbl
  refine wk ?_
  refine ej_dec rfl (fun h => ?_) (fun h => ?_)
  · have h : bp.length < xs.length := by omega
    obtain ⟨hF, hFl, hFla, hFr⟩ := rootsN_ok hgr bp.length hkg
    have hR := fun l => fRoot (w0 := w0) (fb := fb) hF (by rw [hFla]; omega) l
    simp only [hFl, hFr] at hR
    by_cases hgk : bp.length < gr
    rotate_left
    · simp only [if_neg hgk] at hR
      refine wk ?_
      refine F1 hR real_tree_Forest_Root ?_
      refine wk ?_
      refine eq_rett rfl fun w hw => ?_
      rw [if_neg (by omega)]
      refine ⟨G2, rfl, hu1.trans hu2, ?_⟩
      have hw := S.perm (l' := frz G2 :: sysA sb ⟨tp, fb, tb, rm, lb, tal, rk, fun _ => 0, bp⟩ (sys0 q th gr xs bp.length) :: topoO tp (TP.topoT xs) :: forestO fb (rootsN gr bp.length) :: tableO tb (List.replicate th 0) 0 :: recM ⟨tp, fb, tb, rm, lb, tal, rk, fun _ => 0, bp⟩ (sys0 q th gr xs bp.length) :: recF ⟨tp, fb, tb, rm, lb, tal, rk, fun _ => 0, bp⟩ (sys0 q th gr xs bp.length) :: bksR ⟨tp, fb, tb, rm, lb, tal, rk, fun _ => 0, bp⟩ :: allO (bksL ⟨tp, fb, tb, rm, lb, tal, rk, fun _ => 0, bp⟩ (sys0 q th gr xs bp.length)) :: lanesO lb (List.replicate th (0 : Int)).length (List.replicate 64 []) (List.replicate th 0) :: cells tal T_tally_Tally tallyC :: cells cb T_state_Config [int q, int th, int gr, sv r xs.length] :: l) hw (perm_ix 12 [9, 0, 1, 2, 3, 4, 5, 6, 7, 8, 10, 11])
      exact ((((((((((hw.erase 1).erase 1).erase 1).erase 1).erase 1).erase 1).erase 1).erase 1).erase 1).erase 1).erase 1
    simp only [if_pos hgk] at hR
    refine wk ?_
    refine F1 hR real_tree_Forest_Root ?_
    refine wk ?_
    have hT : ∀ (l : List HP) w, S w0 l w → Held w0 [] w := fun l => held .nil
    refine ej_held [] ?_
    refine tk 0 ?_ (hI := hT _)
    refine tk 1 ?_ (hI := hT _)
    refine tk 2 ?_ (hI := hT _)
    refine tk 3 ?_ (hI := hT _)
    refine wclb 5 4 6 0 rfl rfl rfl (V := fun b : Nat => ptr b) (φ := fun _ => True) (q := fun b => bookO b 1 []) (cb := fun b => [ptr b]) bNew real_round_New (fun b b7 _ => ?_) (hT _) rfl rfl
    refine wv 7 rfl (eo_app1 (j := 0) (i := 8) (b := b7) (r := rk) (cs := [ptr b]) rfl rfl rfl rfl rfl rfl rfl rfl rfl rfl rfl rfl rfl (by show bp.length ≤ 1000000; omega) rfl fun r' => ⟨hT _, ?_⟩)
    refine eh_imp (fun w hw => hw.erase 0) ?_
    refine tk 8 ?_ (hI := hT _)
    refine tk 9 ?_ (hI := hT _)
    refine wv 10 rfl (eo_stw 1 ([int q, ptr tp, ptr fb, ptr tb, .map (some rm), sv r' (bp.length + 1), ptr lb] ++ ints (List.replicate 64 0) ++ [ptr tal]) rfl rfl rfl rfl rfl rfl rfl rfl (by show 0 + 5 + 1 ≤ (syC _ _).length; simp [syC]) rfl ⟨hT _, ?_⟩)
    refine wd ?_
    refine wk ?_
    refine eq_back3 (bp.length + 1) r' (bp ++ [b]) ⟨by omega, by omega, by simp⟩ (by omega) (le_of _ _ rfl) fun w hw => ?_
    have e1 : (bp ++ [b]).length = bp.length + 1 := by simp
    have e2 : bksL ⟨tp, fb, tb, rm, lb, tal, r', fun _ => 0, bp ++ [b]⟩ (sys0 q th gr xs (bp.length + 1)) = bksL ⟨tp, fb, tb, rm, lb, tal, rk, fun _ => 0, bp⟩ (sys0 q th gr xs bp.length) ++ [bookO b 1 []] := by
      show ((bp ++ [b]).zip (List.replicate (bp.length + 1) ((1 : Int), ([] : List En)))).map _ = (bp.zip (List.replicate bp.length ((1 : Int), ([] : List En)))).map _ ++ _
      rw [List.replicate_succ', List.zip_append (by simp), List.map_append]; rfl
    have h1 := S.perm (l' := bookO b 1 [] :: allO (bksL ⟨tp, fb, tb, rm, lb, tal, rk, fun _ => 0, bp⟩ (sys0 q th gr xs bp.length)) :: cells sb T_state_System ([int q, ptr tp, ptr fb, ptr tb, .map (some rm), sv r' (bp.length + 1), ptr lb] ++ ints (List.replicate 64 0) ++ [ptr tal]) :: topoO tp (TP.topoT xs) :: forestO fb ((rootsN gr bp.length).more (-1) 1) :: tableO tb (List.replicate th 0) 0 :: recM ⟨tp, fb, tb, rm, lb, tal, rk, fun _ => 0, bp⟩ (sys0 q th gr xs bp.length) :: recF ⟨tp, fb, tb, rm, lb, tal, rk, fun _ => 0, bp⟩ (sys0 q th gr xs bp.length) :: rowC r' T_P_round_Book 1 (bp.map (fun b => ptr b) ++ [ptr b]) (bp.length + 1) :: lanesO lb (List.replicate th (0 : Int)).length (List.replicate 64 []) (List.replicate th 0) :: frz G2 :: cells tal T_tally_Tally tallyC :: cells cb T_state_Config [int q, int th, int gr, sv r xs.length] :: l) hw (perm_ix 10 [0, 8, 1, 2, 3, 4, 5, 6, 7, 9])
    have h2 := h1.join2 (p := allO (bksL ⟨tp, fb, tb, rm, lb, tal, rk, fun _ => 0, bp⟩ (sys0 q th gr xs bp.length) ++ [bookO b 1 []])) fun f hf => allO_perm (List.perm_append_comm (l₁ := [bookO b 1 []])) f (all_new f hf)
    show S w0 (cells sb T_state_System ([int q, ptr tp, ptr fb, ptr tb, .map (some rm), sv r' (bp ++ [b]).length, ptr lb] ++ ints (List.replicate 64 0) ++ [ptr tal]) :: _ :: _ :: _ :: _ :: _ :: rowC r' T_P_round_Book 1 ((bp ++ [b]).map fun b => ptr b) (bp ++ [b]).length :: allO (bksL ⟨tp, fb, tb, rm, lb, tal, r', fun _ => 0, bp ++ [b]⟩ (sys0 q th gr xs (bp.length + 1))) :: _) w
    rw [e2, e1, List.map_append]
    exact S.perm h2 (perm_ix 9 [1, 2, 3, 4, 5, 6, 7, 0, 8])
  · obtain e : bp.length = xs.length := by omega
    rw [e]
    refine wk ?_
    refine eq_rett rfl fun w hw => ?_
    rw [if_pos (by omega)]
    exact ⟨(sb, ⟨tp, fb, tb, rm, lb, tal, rk, fun _ => 0, bp⟩, G2), rfl, ⟨hu1.trans hu2, e⟩, hw.erase 11⟩
theorem yNew_ok {r : Option (Nat × Nat)} (q th gr : Nat) (xs : List Nat) (hm : ∀ m ∈ xs, m < 18446744073709551616) (h : l[i]? = some (rowC r T_mask_Set 1 (u64s xs) xs.length)) (hn : xs.length ≤ 8) (h0 : TP.topoE xs = 0) (hq : 1 ≤ q ∧ q ≤ 1000) (hth : 1 ≤ th ∧ th ≤ 64) (hgr : 1 ≤ gr ∧ gr ≤ 64) (hD : xs.length ≤ gr) :
    Does cx F_state_New [.agg [int q, int th, int gr, sv r xs.length].toArray] (S w0 (frz G :: l)) fun v w => ∃ y : Nat × SyX × Hp, v = .tuple #[ptr y.1, int 0] ∧ (Up G y.2.2 ∧ y.2.1.bp.length = xs.length) ∧ S w0 (syL y.1 y.2.1 (sys0 q th gr xs xs.length) (frz y.2.2 :: cells y.2.1.tal T_tally_Tally tallyC :: l)) w :=
  (yNew_all q th gr xs hm h hn h0 hq hth hgr).mono (fun _ h => h) fun v w hv => by rw [if_pos hD] at hv; exact hv
end Go.Proofs.YtpbnjifefoniiaaGreatDoor
namespace Go.Proofs.YtpbnjifefoniiaaGreatDoor
open Go Go.SE
variable {s : Sys} {D : Nat}
theorem joinE_get {F : Forest} {g : Int} {y : Grp} (hg : F.get g = some y) : F.joinE g = if F.fan g = 32 then 6 else 0 := by rw [Forest.joinE, hg]
theorem upd_L {F : Forest} {g : Int} {f : Grp → Grp} {y' : Grp} (h : y' ∈ (F.upd g f).L) : (y' ∈ F.L ∧ y'.id ≠ g) ∨ ∃ y ∈ F.L, y.id = g ∧ f y = y' := kupd_mem.1 h
namespace Sys
theorem Base.add (hB : s.Base D) {g wt : Int} {m : Nat} {y : Grp} (hg : s.F.get g = some y) (hwt : 1 ≤ wt ∧ wt ≤ 10000) (hm : m < 18446744073709551616) (hj : s.F.joinE g = 0) (hroom : 0 ∈ s.sl) (hlast : s.last < 2147483648) : (s.add g wt m).Base D := by
  have hsl := hB.room
  have hl0 := hB.last
  have hyk := kfind_key hg
  have hym := kfind_mem hg
  have hmem := hB.F.mem y hym
  have hfan := hB.F.fans y hym
  have hwy := hB.F.wt y hym
  rw [hyk] at hfan
  have hfe : s.F.fan g = (s.F.kids g).length + y.members := by rw [Forest.fan, hg]; rfl
  have hne : s.F.fan g ≠ 32 := fun e => by rw [joinE_get hg, if_pos e] at hj; exact absurd hj (by decide)
  have hF : s.F.join g = s.F.upd g fun x => { x with members := x.members + 1 } := by rw [Forest.join, if_pos hj]
  have hFO : (s.F.upd g fun x => { x with members := x.members + 1 }).Ok D := hB.F.upd (fun _ => rfl) (fun _ => rfl) hg hwy (by show 0 ≤ y.awake ∧ y.awake ≤ y.members + 1; omega) (by show ((s.F.kids g).length : Int) + (y.members + 1) ≤ 32; omega)
  have hz := idx_get hroom
  have hzl := List.idxOf_lt_length_of_mem hroom
  have hslot : ∀ t ∈ s.ths, t.slot ≠ s.sl.idxOf 0 := fun t ht e => by
    have h1 := hB.slot t ht
    rw [e, hz] at h1
    have := (hB.idr t ht).1
    have := Option.some.inj h1
    omega
  have hlt : ∀ v ∈ s.sl, v ≠ 0 → v < s.last + 1 := fun v hv h0 => by
    have := tids_mem.2 ⟨hv, h0⟩
    rw [hB.ids] at this
    obtain ⟨t, ht, rfl⟩ := List.mem_map.1 this
    have := (hB.idr t ht).2; omega
  refine ⟨hB.q, hB.few8, hB.T, hB.doms, hB.on, by show (s.F.join g).Ok D; rw [hF]; exact hFO, ?_, ?_, ?_, ?_, ?_, ?_, ?_, ?_, ?_, ?_, ?_⟩
  · show 1 ≤ (s.sl.set (s.sl.idxOf 0) (s.last + 1)).length ∧ (s.sl.set (s.sl.idxOf 0) (s.last + 1)).length ≤ 64
    rw [List.length_set]; exact hsl
  · show tids (s.sl.set (s.sl.idxOf 0) (s.last + 1)) = (s.ths ++ [s.newT g wt m]).map Th.id
    rw [tids_new hroom (by omega) hlt, hB.ids, List.map_append]; rfl
  · exact hB.srt.snoc fun a ha => by have h2 := (hB.idr a ha).2; show a.id < s.last + 1; omega
  · intro t ht
    show 1 ≤ t.id ∧ t.id ≤ s.last + 1
    rcases List.mem_append.1 ht with h1 | h1
    · have := hB.idr t h1; omega
    · have e : t = s.newT g wt m := by simpa using h1
      subst e; show 1 ≤ s.last + 1 ∧ s.last + 1 ≤ s.last + 1; omega
  · show 0 ≤ s.last + 1 ∧ s.last + 1 ≤ 2147483648; omega
  · intro t ht
    show (s.sl.set (s.sl.idxOf 0) (s.last + 1))[t.slot]? = some t.id
    rcases List.mem_append.1 ht with h1 | h1
    · rw [List.getElem?_set_ne (fun e => hslot t h1 e.symm)]; exact hB.slot t h1
    · have e : t = s.newT g wt m := by simpa using h1
      subst e; exact List.getElem?_set_self hzl
  · intro t ht
    show ∃ y, (s.F.join g).get t.group = some y
    rw [hF, Forest.get_upd (f := fun x => { x with members := x.members + 1 }) (fun _ => rfl)]
    rcases List.mem_append.1 ht with h1 | h1
    · obtain ⟨z, hz⟩ := hB.grp t h1
      rw [hz]; exact ⟨_, rfl⟩
    · have e : t = s.newT g wt m := by simpa using h1
      subst e
      show ∃ y, (s.F.get g).map _ = some y
      rw [hg]; exact ⟨_, rfl⟩
  · intro y' hy'
    have hy' : y' ∈ (s.F.join g).L := hy'
    rw [hF] at hy'
    show y'.members = (((s.ths ++ [s.newT g wt m]).filter fun t => decide (t.group = y'.id)).length : Nat)
    rw [List.filter_append, List.length_append]
    rcases upd_L hy' with ⟨h1, h2⟩ | ⟨z, h1, h2, rfl⟩
    · rw [hB.mem y' h1, List.filter_cons, if_neg (by show ¬ decide (g = y'.id) = true; simpa using fun e => h2 e.symm)]; simp
    · show z.members + 1 = ((s.ths.filter fun t => decide (t.group = z.id)).length + ([s.newT g wt m].filter fun t => decide (t.group = z.id)).length : Nat)
      rw [hB.mem z h1, List.filter_cons, if_pos (by show decide (g = z.id) = true; simpa using h2.symm)]; simp
  · intro y' hy'
    have hy' : y' ∈ (s.F.join g).L := hy'
    rw [hF] at hy'
    show y'.awake = (((s.ths ++ [s.newT g wt m]).filter fun t => t.awake && decide (t.group = y'.id)).length : Nat)
    rw [List.filter_append, List.length_append, show [s.newT g wt m].filter (fun t => t.awake && decide (t.group = y'.id)) = [] from rfl]
    rcases upd_L hy' with ⟨h1, h2⟩ | ⟨z, h1, h2, rfl⟩
    · exact hB.awk y' h1
    · exact hB.awk z h1
  · intro t ht
    rcases List.mem_append.1 ht with h1 | h1
    · exact hB.wt t h1
    · have e : t = s.newT g wt m := by simpa using h1
      subst e; exact hwt
  · intro t ht
    rcases List.mem_append.1 ht with h1 | h1
    · exact hB.mask t h1
    · have e : t = s.newT g wt m := by simpa using h1
      subst e; exact hm
theorem Base.sleeper (hB : s.Base D) {j : Nat} {t : Th} (hj : s.ths[j]? = some t) (ha : t.awake = false) {y : Grp} (hg : s.F.get t.group = some y) : y.awake < y.members := by
  have hyk := kfind_key hg
  have hym := kfind_mem hg
  rw [hB.mem y hym, hB.awk y hym, hyk]
  have htm := List.mem_of_getElem? hj
  have key : ∀ L : List Th, t ∈ L → (L.filter fun u => u.awake && decide (u.group = t.group)).length < (L.filter fun u => decide (u.group = t.group)).length := by
    intro L
    induction L with
    | nil => intro h; simp at h
    | cons a L ih =>
      intro h
      have hle : (L.filter fun u => u.awake && decide (u.group = t.group)).length ≤ (L.filter fun u => decide (u.group = t.group)).length := by
        rw [← List.countP_eq_length_filter, ← List.countP_eq_length_filter]
        exact List.countP_mono_left fun u _ hu => by simp only [Bool.and_eq_true] at hu; exact hu.2
      rw [List.filter_cons, List.filter_cons]
      rcases List.mem_cons.1 h with e | h
      · subst e
        rw [if_neg (by simp [ha]), if_pos (by simp), List.length_cons]; omega
      · have := ih h
        by_cases h1 : a.group = t.group
        · cases h2 : a.awake with
          | true => rw [if_pos (by simp [h1]), if_pos (by simp [h1]), List.length_cons, List.length_cons]; omega
          | false => rw [if_neg (by simp), if_pos (by simp [h1]), List.length_cons]; omega
        · rw [if_neg (by simp [h1]), if_neg (by simp [h1])]; omega
  have := key s.ths htm
  omega
theorem woken_ths (hN : Nod Th.id s.ths) {j : Nat} {t : Th} (hj : s.ths[j]? = some t) : (s.woken t).ths = s.ths.set j { t with awake := true } := th_upd hN hj
theorem Base.woken (hB : s.Base D) {j : Nat} {t : Th} (hj : s.ths[j]? = some t) (ha : t.awake = false) : (s.woken t).Base D := by
  obtain ⟨y, hg⟩ := hB.grp t (List.mem_of_getElem? hj)
  have hsl := hB.sleeper hj ha hg
  have hyk := kfind_key hg
  have hym := kfind_mem hg
  have hmem := hB.F.mem y hym
  have hfan := hB.F.fans y hym
  rw [hyk, Forest.fan, hg] at hfan
  simp only [Option.map_some, Option.getD_some] at hfan
  have hFO : (s.F.upd t.group fun x => { x with awake := x.awake + 1 }).Ok D := hB.F.upd (fun _ => rfl) (fun _ => rfl) hg (hB.F.wt y hym) (by show 0 ≤ y.awake + 1 ∧ y.awake + 1 ≤ y.members; omega) hfan
  have hths := woken_ths hB.nod hj
  have hin : ∀ u ∈ (s.woken t).ths, u ∈ s.ths ∨ u = { t with awake := true } := fun u hu => by
    rw [hths] at hu
    rcases List.mem_or_eq_of_mem_set hu with h1 | h1
    · exact .inl h1
    · exact .inr h1
  have htm := List.mem_of_getElem? hj
  have hjl := (List.getElem?_eq_some_iff.1 hj)
  have ids : (s.woken t).ids = s.ids := ids_upd fun _ => rfl
  refine ⟨hB.q, hB.few8, hB.T, hB.doms, hB.on, hFO, hB.room, by rw [ids]; exact hB.ids, hB.srt.upd fun _ => rfl, fun u hu => ?_, hB.last, fun u hu => ?_, fun u hu => ?_, fun y' hy' => ?_, fun y' hy' => ?_, fun u hu => ?_, fun u hu => ?_⟩
  · rcases hin u hu with h1 | rfl
    · exact hB.idr u h1
    · exact hB.idr t htm
  · rcases hin u hu with h1 | rfl
    · exact hB.slot u h1
    · exact hB.slot t htm
  · show ∃ y, (s.F.upd t.group _).get u.group = some y
    rw [Forest.get_upd (f := fun x => { x with awake := x.awake + 1 }) (fun _ => rfl)]
    rcases hin u hu with h1 | rfl
    · obtain ⟨z, hz⟩ := hB.grp u h1
      rw [hz]; exact ⟨_, rfl⟩
    · show ∃ y, (s.F.get t.group).map _ = some y
      rw [hg]; exact ⟨_, rfl⟩
  · have e : ((s.woken t).ths.filter fun u => decide (u.group = y'.id)).length = (s.ths.filter fun u => decide (u.group = y'.id)).length := by
      rw [hths, ← List.countP_eq_length_filter, ← List.countP_eq_length_filter, List.countP_set hjl.1, hjl.2]
      have hpos : decide (t.group = y'.id) = true → 1 ≤ s.ths.countP fun u => decide (u.group = y'.id) := fun h => List.countP_pos_iff.2 ⟨t, htm, h⟩
      cases h : decide (t.group = y'.id) with
      | true =>
        have := hpos h
        simp only [if_true]; omega
      | false => simp
    rw [e]
    rcases upd_L hy' with ⟨h1, h2⟩ | ⟨z, h1, h2, rfl⟩
    · exact hB.mem y' h1
    · exact hB.mem z h1
  · rw [hths, ← List.countP_eq_length_filter, List.countP_set hjl.1, hjl.2]
    simp only [ha, Bool.false_and, Bool.true_and, Bool.false_eq_true, if_false, Nat.sub_zero]
    rcases upd_L hy' with ⟨h1, h2⟩ | ⟨z, h1, h2, rfl⟩
    · have := hB.awk y' h1
      rw [← List.countP_eq_length_filter] at this
      rw [if_neg (by simpa using fun e => h2 e.symm), Nat.add_zero]; exact this
    · have := hB.awk z h1
      rw [← List.countP_eq_length_filter] at this
      show z.awake + 1 = ((s.ths.countP fun u => u.awake && decide (u.group = z.id)) + if decide (t.group = z.id) = true then 1 else 0 : Nat)
      rw [if_pos (by simpa using h2.symm), this]; simp
  · rcases hin u hu with h1 | rfl
    · exact hB.wt u h1
    · exact hB.wt t htm
  · rcases hin u hu with h1 | rfl
    · exact hB.mask u h1
    · exact hB.mask t htm
end Sys
end Go.Proofs.YtpbnjifefoniiaaGreatDoor
namespace Go.Proofs.YtpbnjifefoniiaaGreatDoor
open Go Go.SE
section
variable {C : Cx} {n : Nat} {Q : Kont} {e : Env} {ops : Array Oper} {rest : List Oper} {o : Oper} {w0 w : World} {l : List HP}
theorem LdFA {d t b off T i : Nat} {x : Operand} {ti : TI} {cs : List Value} {fs : List (Nat × List Value)} (cs' : List Value) (hm : (b, cs) ∈ fs) (hv : ∀ q, q < ti.size → cs[off + q]? = cs'[q]?) (h : EL C n rest ops Q ((d, .agg cs'.toArray) :: e) (S w0 l)) (hg : want ops e o = some true := by exact rfl) (ho : o.op = .load t x := by exact rfl) (hd : o.dst = some d := by exact rfl) (hn : Nat.ble n d = false := by exact rfl)
    (ha : ev e x = some (.pointer (some ⟨b, off, none⟩)) := by exact rfl) (ht : C.L.ti t = some ti := by exact rfl) (hk : ti.kind.agg = true := by exact rfl) (hs : cs'.length = ti.size := by exact rfl) (hi : l[i]? = some (famO T fs) := by first | exact at0 | exact at1 | exact at2 | exact at3 | exact at4 | exact at5 | exact at6 | exact at7 | exact at8 | exact at9 | exact at10) : EL C n (o :: rest) ops Q e (S w0 l) :=
  el_cons hg (eo_loadA ho hd hn ha ht hk hs (fun w hw j hj => by
    have hlt : j < cs'.length := by omega
    have h1 := hv j hj
    rw [List.getElem?_eq_getElem hlt] at h1 ⊢
    exact hw.famCell hi hm h1) h)
end
variable {w0 : World} {w : World} {l : List HP} {i : Nat} {sb : Nat} {s : Sys} {D : Nat} {G : Hp} {x : SyX}
abbrev thZ : List Value := [int 0, int 0, int 0, int 0, u64 0, .bool false, .bool false, int 0, int 0, int 0, int 0]
abbrev thV (t : Th) (d : Nat) (e : En) : List Value := [int t.id, int t.group, int d, int t.weight, u64 t.mask, .bool t.awake, .bool t.running, int t.core, int e.tag, int e.left, int e.slice]
theorem yThread (hO : s.F.Ok D) (hD : D ≤ 8) {id : Int} {t : Th} (ht : s.find id = some t) {d b : Nat} (hd : s.dom t.group = d) (hb : x.bp[d]? = some b) {low : Int} {L : List En} (hy : s.bs[d]? = some (low, L)) {e : En} (he : if t.awake = true then kfind En.id L t.id = some e else e = ⟨t.id, t.tag, t.left, 0⟩) :
    Does cx F_state_System_Thread [ptr sb, int id] (S w0 (syL sb x s l)) fun v w => v = .tuple #[.agg (thV t d e).toArray, int 0] ∧ S w0 (syL sb x s l) w := by
  obtain ⟨j, hj, rfl⟩ := find_at ht
  have hin : t.id ∈ s.ids := find_ids.1 (by rw [ht]; rfl)
  have hm := th_mem (x := x) hj
  refine fn_enter (n := N_state_System_Thread) fn_state_System_Thread rfl rfl rfl ?_
  refine wk ?_
  refine ec (oAlloc fun q => ?_)
  refine wk ?_
  refine Go.SE.Lk ?_
  rw [lookL, if_pos rfl, kfind_id_some hin]
  refine wk ?_
  refine LdFA (i := 6) (off := 0 + 7) [int t.tag, int t.left, int 0] hm (fun q hq => ?_) ?_
  · match q, hq with
    | 0, _ => rfl
    | 1, _ => rfl
    | 2, _ => rfl
  refine ec (oAlloc fun b8 => ?_)
  refine wk ?_
  refine LdF (i := 7) hm ?_
  refine wk ?_
  refine ej_imp' (H' := S w0 (syL sb x s (cells b8 T_round_Entry [int t.tag, int t.left, int 0] :: cells q T_state_Thread thZ :: l))) (fun w hw => S.perm hw (perm_ix 11 [2, 3, 4, 5, 6, 7, 8, 9, 10, 0, 1])) ?_
  refine ej_join (α := Unit) (fun _ => True) (fun _ => [(0, ptr sb), (1, int t.id), (4, ptr q), (6, ptr (x.bk t.id)), (8, ptr b8)]) (fun _ => S w0 (syL sb x s (cells b8 T_round_Entry (enC e) :: cells q T_state_Thread thZ :: l))) (fun k => ej_cond rfl (fun h => ?_) fun h => ?_) fun _ _ => ?_
  · rw [if_pos h] at he
    refine wk ?_
    refine C1 (yBook hO hD hj hd hb) real_state_System_book ?_
    refine wk ?_
    refine Fk1 (does_allk (bEntryO b low L t.id) (bks_at (y := (low, L)) hb hy)) real_round_Book_Entry ?_
    rw [he]
    refine wk ?_
    exact meet (k () trivial) (le_of _ _ rfl) fun w hw => hw
  · rw [if_neg (by rw [h]; decide)] at he
    subst he
    refine wk ?_
    exact meet (k () trivial) (le_of _ _ rfl) fun w hw => hw
  refine wk ?_
  have hI : ∀ w, S w0 (syL sb x s (cells b8 T_round_Entry (enC e) :: cells q T_state_Thread thZ :: l)) w → Held w0 [recF x s, cells b8 T_round_Entry (enC e)] w := held2 (i := 5) (j := 9) rfl rfl
  refine ej_held [recF x s, cells b8 T_round_Entry (enC e)] ?_
  refine tk 0 ?_
  refine tk 1 ?_
  refine tk 2 ?_
  refine tk 3 ?_
  refine tv 4 rfl (rLdF 0 hm) ?_
  refine tk 5 ?_
  refine tk 6 ?_
  refine tk 7 ?_
  refine tk 8 ?_
  refine tv 9 rfl (rLdF 0 hm) ?_
  refine tk 11 ?_
  refine tk 12 ?_
  refine tk 13 ?_
  refine tv 14 rfl (rLdF 0 hm) ?_
  refine tk 15 ?_
  refine tk 16 ?_
  refine tk 17 ?_
  refine tv 18 rfl (rLdF 0 hm) ?_
  refine tk 19 ?_
  refine tk 20 ?_
  refine tk 21 ?_
  refine tv 22 rfl (rLdF 0 hm) ?_
  refine tk 23 ?_
  refine tk 24 ?_
  refine tk 25 ?_
  refine tv 26 rfl (rLdF 0 hm) ?_
  refine tk 27 ?_
  refine tk 28 ?_
  refine tk 29 ?_
  refine tv 30 rfl (rLdF 0 hm) ?_
  refine tk 31 ?_
  refine tv 32 rfl (rLd 1) ?_
  refine tk 33 ?_
  refine tv 34 rfl (rLd 1) ?_
  refine tk 35 ?_
  refine tv 36 rfl (rLd 1) ?_
  refine w1 10 rfl (yOf hO hD t.group) real_state_System_of hI ?_
  rw [hd]
  refine tv 37 rfl (rBuild (cs := thV t d e)) ?_
  refine wv 38 rfl (eo_stA 10 rfl rfl rfl rfl rfl rfl rfl rfl rfl ⟨held2 (i := 5) (j := 9) rfl rfl, ?_⟩)
  have hI2 : ∀ w, S w0 (syL sb x s (cells b8 T_round_Entry (enC e) :: cells q T_state_Thread (thV t d e) :: l)) w → Held w0 [recF x s, cells b8 T_round_Entry (enC e)] w := held2 (i := 5) (j := 9) rfl rfl
  refine tk 39 ?_
  refine wd ?_
  refine wk ?_
  refine eq_ret [_, _] (rvs_cell 10 rfl rfl rfl rfl rfl (rvs_tmp rfl rvs_nil)) fun w hw => ⟨rfl, ?_⟩
  exact (hw.erase 9).erase 9
theorem yCurrent (hc : s.cur.length = 64) (c : Nat) (hlt : c < 64) : Does cx F_state_System_Current [ptr sb, int c] (S w0 (syL sb x s l)) fun v w => v = int (s.cur.getD c 0) ∧ S w0 (syL sb x s l) w := by
  refine fn_enter (n := N_state_System_Current) fn_state_System_Current rfl rfl rfl ?_
  refine wk ?_
  refine wk ?_
  refine ej_dec rfl (fun h => absurd h (by omega)) (fun _ => ?_)
  refine wk ?_
  refine ec (oIdxa (m := 64) ?_ (hi := ⟨by omega, by omega⟩))
  refine Ld (i := 0) (v := int (s.cur.getD c 0)) ?_ (hv := ?_)
  · refine wk ?_
    exact eq_rett rfl fun w hw => ⟨rfl, hw⟩
  · have hl : c < (ints s.cur).length := by rw [ints, List.length_map, hc]; exact hlt
    have e : 0 + 7 + c * 1 - [int s.q, ptr x.tp, ptr x.fb, ptr x.tb, .map (some x.rm), sv x.br x.bp.length, ptr x.lb].length = c := by simp
    rw [Int.toNat_natCast, syC, List.append_assoc, List.getElem?_append_right (by simp), e, List.getElem?_append_left hl, ints, List.getElem?_map, List.getD_eq_getElem?_getD, List.getElem?_eq_getElem (by omega)]; rfl
end Go.Proofs.YtpbnjifefoniiaaGreatDoor
namespace Go.Proofs.YtpbnjifefoniiaaGreatDoor
open Go Go.SE
variable {w0 : World} {w : World} {l : List HP} {i : Nat} {sb : Nat} {s : Sys} {D : Nat} {G : Hp} {x : SyX}
def Sys.inLane (s : Sys) (q : List Nat) : List Int := q.map fun k => s.sl.getD k 0
abbrev laneS (sb : Nat) (x : SyX) (s : Sys) (b : Nat) (lk : List Lk) (r1 r2 rt : Option (Nat × Nat)) (b2 b5 : Nat) (p : Nat × Nat) (c : Nat) (l : List HP) (z : List Nat × Option (Nat × Nat)) : List HP :=
  rowC z.2 T_int 1 (ints (s.inLane z.1)) z.1.length :: cells b5 T_S_int [sv z.2 z.1.length] :: cells b2 T_P_state_System [ptr sb] :: cells p.2 T_int [int c] :: cells p.1 T_P_ring_Rings [ptr b] ::
  rgA b s.sl.length lk (lens s.Ls) r1 r2 :: rgB lk r1 :: rgC (lens s.Ls) r2 :: lnA x.lb b s.tg rt :: lnT s.tg rt ::
  sysA sb x s :: topoO x.tp s.T :: forestO x.fb s.F :: tableO x.tb s.sl s.last :: recM x s :: recF x s :: bksR x :: allO (bksL x s) :: l
set_option maxHeartbeats 4000000 in
theorem yLane (hroom : s.sl.length ≤ 1000) (hmany : s.Ls.length ≤ 1000) {c : Nat} {q : List Nat} (hc : s.Ls[c]? = some q) (hq : q.length ≤ 1000) (htg : s.tg.length = s.sl.length) :
    Does cx F_state_System_Lane [ptr sb, int c] (S w0 (syL sb x s l)) fun v w => ∃ r, v = sv r q.length ∧ True ∧ S w0 (rowC r T_int 1 (ints (s.inLane q)) q.length :: syL sb x s l) w := by
  have hcl := (List.getElem?_eq_some_iff.1 hc).1
  refine fn_enter (n := N_state_System_Lane) fn_state_System_Lane rfl rfl rfl ?_
  refine ej_opn (i := 8) (fun y : { y : LnX // Rg s.sl.length s.Ls y.lk ∧ s.tg.length = s.sl.length } => lnQ x.lb s.sl.length s.Ls s.tg y.1) rfl (fun _ hp => hp) ?_
  rintro ⟨⟨b, lk, r1, r2, rt⟩, hR, ht⟩
  refine ej_imp' (fun w hw => (show S w0 (rgA b s.sl.length lk (lens s.Ls) r1 r2 :: rgB lk r1 :: rgC (lens s.Ls) r2 :: lnA x.lb b s.tg rt :: lnT s.tg rt :: sysA sb x s :: topoO x.tp s.T :: forestO x.fb s.F :: tableO x.tb s.sl s.last :: recM x s :: recF x s :: bksR x :: allO (bksL x s) :: l) w from hw)) ?_
  refine wk ?_
  refine ec (oBox fun b2 => ?_)
  refine wk ?_
  refine ec (oAlloc fun b5 => ?_)
  refine wk ?_
  refine Cx1 (gNodes (b := b) c) real_ring_Rings_Nodes fun p _ => ?_
  refine wk ?_
  refine ej_row0 T_int 1 ?_
  refine ej_imp' (H' := S w0 (laneS sb x s b lk r1 r2 rt b2 b5 p c l ([], none))) (fun w hw => S.perm hw (perm_ix 5 [0, 3, 4, 1, 2])) ?_
  refine ej_rangeFuncA (α := Nat) (β := Unit) (σ := List Nat × Option (Nat × Nat)) (fun n : Nat => [int n]) (fun pre z => z.1 = pre) (fun _ _ _ => False) (fun pre => pre = q) (fun pre n => pre.length < q.length)
    (laneS sb x s b lk r1 r2 rt b2 b5 p c l) ([], none) (fun n _ => [(2, ptr b2), (5, ptr b5), (6, int n)]) (fun _ _ => []) rfl real_ring_Rings_Nodes_1 rfl rfl (fun _ => rfl) (by decide) ?_ ?_ ?_ ?_ ?_
  · intro y a' b' M hM hy
    refine Does.mono (nodes_iter (w0 := w0) (b := b) (N := s.sl.length) (lk := lk) (many := lens s.Ls) (r1 := r1) (r2 := r2) s.Ls hR c q hc (by rw [List.length_map]; exact hcl) (by omega) (by rw [List.length_map]; omega) (L := M) (I := fun pre z => z.2 = none ∧ z.1.1 = pre) (Ix := fun _ _ => False) y p.1 p.2 (([], none), none) 6 5 (fun z => by rw [hM]; rfl) (fun z => by rw [hM]; rfl)
      (fun z => ⟨a' z.2 :: b' :: rowC z.1.2 T_int 1 (ints (s.inLane z.1.1)) z.1.1.length :: cells b5 T_S_int [sv z.1.2 z.1.1.length] :: cells b2 T_P_state_System [ptr sb] :: cells p.2 T_int [int c] :: cells p.1 T_P_ring_Rings [ptr b] :: lnA x.lb b s.tg rt :: lnT s.tg rt :: sysA sb x s :: topoO x.tp s.T :: forestO x.fb s.F :: tableO x.tb s.sl s.last :: recM x s :: recF x s :: bksR x :: allO (bksL x s) :: l, by rw [hM]; exact perm_ix 10 [7, 8, 9, 0, 1, 2, 3, 4, 5, 6]⟩) ⟨rfl, rfl⟩ ?_) (fun _ h => h) ?_
    · rintro pre n suf ⟨s1, s2⟩ fr hcs ⟨rfl, hI⟩
      refine (hy pre n s1 fr (by rw [hcs]; simp) hI).mono (fun _ h => h) ?_
      rintro t w ⟨s', h1, h2⟩
      refine ⟨s', ?_, h2⟩
      cases t with
      | true => exact h1
      | false => obtain ⟨c, _, h⟩ := h1; exact h
    · rintro v w ⟨s', hs, hw⟩
      refine ⟨s', ?_, hw⟩
      rcases hs with ⟨h1, h2⟩ | ⟨pre, h1⟩
      · exact .inl ⟨h1, q, rfl, h2⟩
      · exact h1.elim
  · intro m n l0
    refine wk ?_
    exact eq_asg () rfl (le_of _ _ rfl) fun w h => h
  · rintro m pre n _ ⟨ds, r⟩ fr hlt rfl
    have hlt' : ds.length < q.length := hlt
    refine ej_imp' (H' := S w0 (laneS sb x s b lk r1 r2 rt b2 b5 p c (l ++ fr) (ds, r))) (fun w hw => S.perm hw (List.perm_append_comm (l₁ := fr) (l₂ := laneS sb x s b lk r1 r2 rt b2 b5 p c l (ds, r)))) ?_
    refine wk ?_
    have hI : ∀ w, S w0 (laneS sb x s b lk r1 r2 rt b2 b5 p c (l ++ fr) (ds, r)) w → Held w0 [cells b2 T_P_state_System [ptr sb], sysA sb x s] w := held2 (i := 2) (j := 10) rfl rfl
    refine ej_held [cells b2 T_P_state_System [ptr sb], sysA sb x s] ?_
    refine tv 1 rfl (rLd 0) ?_
    refine tk 2 ?_
    refine tk 3 ?_
    refine tv 4 rfl (rLd 1) ?_
    refine tk 5 ?_
    have hid : ∀ l : List HP, Does cx F_table_Table_Id [ptr x.tb, int n] (S w0 (tableO x.tb s.sl s.last :: l)) fun v w => v = int (s.sl.getD n 0) ∧ S w0 (tableO x.tb s.sl s.last :: l) w := fun l => (tId x.tb s.sl s.last n).mono (fun _ h => h) fun v w h => ⟨by rw [h.1, if_pos (by omega), Int.toNat_natCast], h.2⟩
    refine wclb 6 0 7 1 rfl rfl rfl (V := fun _ : Unit => int (s.sl.getD n 0)) (φ := fun _ => True) (q := fun _ => (fun _ => True)) (cb := fun _ => [int (s.sl.getD n 0)]) ((does_keep (i := 13) hid rfl).mono (fun _ h => h) fun v w h => ⟨(), h.1, trivial, S.fold (qs := []) h.2 fun _ _ => trivial⟩) real_table_Table_Id (fun _ b7 _ => ?_) hI rfl rfl
    refine wv 8 rfl (eo_app1 (j := 0) (i := 2) (b := b7) (r := r) (cs := [int (s.sl.getD n 0)]) rfl rfl rfl rfl rfl rfl rfl rfl rfl rfl rfl rfl rfl (by show ds.length ≤ 1000000; omega) rfl fun r' => ⟨held2 (i := 4) (j := 12) rfl rfl, ?_⟩)
    refine wv 9 rfl (eo_st 3 rfl rfl rfl rfl rfl rfl rfl rfl rfl ⟨held2 (i := 4) (j := 12) rfl rfl, ?_⟩)
    refine wd ?_
    refine wk ?_
    refine eq_any fun a3 w hw => ⟨(ds ++ [n], r'), rfl, ?_⟩
    have hw2 := hw.drop 2
    refine S.perm (l := laneS sb x s b lk r1 r2 rt b2 b5 p c l (ds ++ [n], r') ++ fr) ?_ List.perm_append_comm
    show S w0 (rowC r' T_int 1 (ints (s.inLane (ds ++ [n]))) (ds ++ [n]).length :: cells b5 T_S_int [sv r' (ds ++ [n]).length] :: _) w
    rw [Sys.inLane, List.map_append, ints, List.map_append, List.length_append]
    exact hw2
  · rintro D pre ⟨ds, r⟩ rfl hI
    simp only at hI
    subst hI
    refine wk ?_
    refine eq_mark 0 rfl rfl ?_
    refine eq_rett rfl fun w hw => ⟨r, rfl, trivial, ?_⟩
    have hw : S w0 (laneS sb x s b lk r1 r2 rt b2 b5 p c l (ds, r)) w := hw
    have h1 := (((hw.erase 1).erase 1).erase 1).erase 1
    have h2 := S.perm (l' := rgA b s.sl.length lk (lens s.Ls) r1 r2 :: rgB lk r1 :: rgC (lens s.Ls) r2 :: lnA x.lb b s.tg rt :: lnT s.tg rt :: rowC r T_int 1 (ints (s.inLane ds)) ds.length :: sysA sb x s :: topoO x.tp s.T :: forestO x.fb s.F :: tableO x.tb s.sl s.last :: recM x s :: recF x s :: bksR x :: allO (bksL x s) :: l) h1 (perm_ix 6 [1, 2, 3, 4, 5, 0])
    have h3 := shut_lanes hR ht h2
    exact S.perm h3 (perm_ix 10 [1, 2, 3, 4, 5, 6, 7, 8, 9, 0])
  · rintro D c pre s h
    exact h.elim
end Go.Proofs.YtpbnjifefoniiaaGreatDoor
namespace Go.Proofs.YtpbnjifefoniiaaGreatDoor
open Go Go.SE
variable {s s' : Sys} {D : Nat}
theorem lt_ext : ∀ {a b : List Int}, a.Pairwise (· < ·) → b.Pairwise (· < ·) → (∀ x, x ∈ a ↔ x ∈ b) → a = b
  | [], [], _, _, _ => rfl
  | [], y :: b, _, _, h => absurd ((h y).2 (by simp)) (by simp)
  | x :: a, [], _, _, h => absurd ((h x).1 (by simp)) (by simp)
  | x :: a, y :: b, ha, hb, h => by
    have ha' := List.pairwise_cons.1 ha
    have hb' := List.pairwise_cons.1 hb
    have e : x = y := by
      rcases List.mem_cons.1 ((h x).1 (by simp)) with e | h1
      · exact e
      · rcases List.mem_cons.1 ((h y).2 (by simp)) with e | h2
        · exact e.symm
        · have := ha'.1 y h2
          have := hb'.1 x h1
          omega
    subst e
    congr 1
    refine lt_ext ha'.2 hb'.2 fun z => ⟨fun hz => ?_, fun hz => ?_⟩
    · rcases List.mem_cons.1 ((h z).1 (by simp [hz])) with e | h1
      · have := ha'.1 z hz; omega
      · exact h1
    · rcases List.mem_cons.1 ((h z).2 (by simp [hz])) with e | h1
      · have := hb'.1 z hz; omega
      · exact h1
theorem nodup_few : ∀ (N : Nat) (q : List Nat), q.Nodup → (∀ n ∈ q, n < N) → q.length ≤ N
  | 0, [], _, _ => Nat.le_refl _
  | 0, n :: q, _, h => absurd (h n (by simp)) (by omega)
  | N + 1, q, hq, h => by
    have h1 := nodup_few N (q.erase N) (hq.erase N) fun n hn => by
      have h2 := hq.mem_erase_iff.1 hn
      have := h n h2.2
      omega
    rw [List.length_erase] at h1
    split at h1 <;> omega
def bone (t : Th) : Th := ⟨t.id, t.slot, t.group, t.weight, t.mask, t.awake, false, 0, 0, 0⟩
structure SkT (u t : Th) : Prop where
  id : u.id = t.id
  slot : u.slot = t.slot
  group : u.group = t.group
  weight : u.weight = t.weight
  mask : u.mask = t.mask
  awake : u.awake = t.awake
theorem SkT.trans {a b c : Th} (h : SkT a b) (k : SkT b c) : SkT a c := ⟨h.id.trans k.id, h.slot.trans k.slot, h.group.trans k.group, h.weight.trans k.weight, h.mask.trans k.mask, h.awake.trans k.awake⟩
theorem sk_eq {u t : Th} (h : bone u = bone t) : SkT u t := by
  simp only [bone, Th.mk.injEq] at h
  obtain ⟨h1, h2, h3, h4, h5, h6, _⟩ := h
  exact ⟨h1, h2, h3, h4, h5, h6⟩
structure Skel (s s' : Sys) : Prop where
  q : s'.q = s.q
  T : s'.T = s.T
  F : s'.F = s.F
  sl : s'.sl = s.sl
  last : s'.last = s.last
  ths : s'.ths.map bone = s.ths.map bone
namespace Skel
theorem refl (s : Sys) : Skel s s := ⟨rfl, rfl, rfl, rfl, rfl, rfl⟩
theorem trans {s1 s2 s3 : Sys} (h : Skel s1 s2) (k : Skel s2 s3) : Skel s1 s3 := ⟨k.q.trans h.q, k.T.trans h.T, k.F.trans h.F, k.sl.trans h.sl, k.last.trans h.last, k.ths.trans h.ths⟩
theorem symm (h : Skel s s') : Skel s' s := ⟨h.q.symm, h.T.symm, h.F.symm, h.sl.symm, h.last.symm, h.ths.symm⟩
theorem dom (h : Skel s s') (g : Int) : s'.dom g = s.dom g := Sys.dom_F h.F g
theorem mem (h : Skel s s') {t : Th} (ht : t ∈ s'.ths) : ∃ u ∈ s.ths, SkT u t := by
  have h1 : bone t ∈ s.ths.map bone := by rw [← h.ths]; exact List.mem_map.2 ⟨t, ht, rfl⟩
  obtain ⟨u, hu, e⟩ := List.mem_map.1 h1
  exact ⟨u, hu, sk_eq e⟩
theorem via {β : Type} (h : Skel s s') (f : Th → β) (hf : ∀ t, f (bone t) = f t) : s'.ths.map f = s.ths.map f := by
  have := congrArg (List.map f) h.ths
  simpa [List.map_map, Function.comp_def, hf] using this
theorem ids (h : Skel s s') : s'.ids = s.ids := h.via Th.id fun _ => rfl
theorem filt (h : Skel s s') (p : Th → Bool) (hp : ∀ t, p (bone t) = p t) : (s'.ths.filter p).map bone = (s.ths.filter p).map bone := by
  have e : ∀ l : List Th, (l.filter p).map bone = (l.map bone).filter p := fun l => by
    rw [List.filter_map]
    congr 1
    exact List.filter_congr fun t _ => (hp t).symm
  rw [e, e, h.ths]
theorem count (h : Skel s s') (p : Th → Bool) (hp : ∀ t, p (bone t) = p t) : (s'.ths.filter p).length = (s.ths.filter p).length := by
  have := congrArg List.length (h.filt p hp)
  simpa using this
theorem awakeT (h : Skel s s') (d : Int) : (s'.awakeT d).map bone = (s.awakeT d).map bone := by
  have := h.filt (fun t => t.awake && decide (s.dom t.group = d)) fun _ => rfl
  rw [Sys.awakeT, Sys.awakeT, ← this]
  congr 1
  exact List.filter_congr fun t _ => by rw [h.dom]
theorem awakeN (h : Skel s s') (d : Int) : (s'.awakeT d).length = (s.awakeT d).length := by
  have := congrArg List.length (h.awakeT d)
  simpa using this
theorem awakeI (h : Skel s s') (d : Int) : s'.awakeI d = s.awakeI d := by
  have := congrArg (List.map Th.id) (h.awakeT d)
  simpa [List.map_map, Function.comp_def, bone, Sys.awakeI] using this
theorem leaves (h : Skel s s') (d : Int) : s'.leaves d = s.leaves d := by
  have := congrArg (List.map fun t : Th => (⟨t.group, t.weight⟩ : Leaf)) (h.awakeT d)
  simpa [List.map_map, Function.comp_def, bone, Sys.leaves] using this
theorem sizesL (h : Skel s s') (d : Int) : s'.sizesL d = s.sizesL d := by
  rw [Sys.sizesL, Sys.sizesL, h.awakeN, h.q, h.F, h.leaves, Sys.on, Sys.on, h.T]
theorem sizes (h : Skel s s') (d : Int) : s'.sizes d = s.sizes d := by rw [Sys.sizes, Sys.sizes, h.awakeI, h.sizesL]
theorem base (h : Skel s s') (hB : s.Base D) : s'.Base D := by
  refine ⟨by rw [h.q]; exact hB.q, hB.few8, by rw [h.T]; exact hB.T, by rw [h.T]; exact hB.doms, by rw [h.T]; exact hB.on, by rw [h.F]; exact hB.F, by rw [h.sl]; exact hB.room, by rw [h.sl, h.ids]; exact hB.ids, ?_, ?_, by rw [h.last]; exact hB.last, ?_, ?_, ?_, ?_, ?_, ?_⟩
  · show (s'.ths.map Th.id).Pairwise (· < ·)
    rw [show s'.ths.map Th.id = s.ths.map Th.id from h.ids]; exact hB.srt
  · intro t ht
    obtain ⟨u, hu, e⟩ := h.mem ht
    rw [h.last, ← e.id]; exact hB.idr u hu
  · intro t ht
    obtain ⟨u, hu, e⟩ := h.mem ht
    rw [h.sl, ← e.id, ← e.slot]; exact hB.slot u hu
  · intro t ht
    obtain ⟨u, hu, e⟩ := h.mem ht
    rw [h.F, ← e.group]; exact hB.grp u hu
  · intro y hy
    rw [h.F] at hy
    rw [h.count (fun t => decide (t.group = y.id)) fun _ => rfl]; exact hB.mem y hy
  · intro y hy
    rw [h.F] at hy
    rw [h.count (fun t => t.awake && decide (t.group = y.id)) fun _ => rfl]; exact hB.awk y hy
  · intro t ht
    obtain ⟨u, hu, e⟩ := h.mem ht
    rw [← e.weight]; exact hB.wt u hu
  · intro t ht
    obtain ⟨u, hu, e⟩ := h.mem ht
    rw [← e.mask]; exact hB.mask u hu
theorem upd {id : Int} {f : Th → Th} (hf : ∀ t, bone (f t) = bone t) : Skel s (s.upd id f) := by
  refine ⟨rfl, rfl, rfl, rfl, rfl, ?_⟩
  show (kupd Th.id s.ths id f).map bone = _
  rw [kupd, List.map_map]
  refine List.map_congr_left fun t _ => ?_
  show bone (if t.id = id then f t else t) = bone t
  split
  · exact hf t
  · rfl
theorem setBook (d : Int) (b : Int × List En) : Skel s (s.setBook d b) := ⟨rfl, rfl, rfl, rfl, rfl, rfl⟩
theorem out (t : Th) : Skel s (s.out t) := by
  unfold Sys.out
  split
  · have h := Skel.upd (s := s) (id := t.id) (f := fun t => { t with running := false }) fun _ => rfl
    exact ⟨rfl, rfl, rfl, rfl, rfl, h.ths⟩
  · exact ⟨rfl, rfl, rfl, rfl, rfl, rfl⟩
theorem inn (t : Th) (c : Int) : Skel s (s.inn t c) := by
  have h := Skel.upd (s := s) (id := t.id) (f := fun t => { t with core := c }) fun _ => rfl
  exact ⟨rfl, rfl, rfl, rfl, rfl, h.ths⟩
theorem again (id : Int) : Skel s (s.again id) := by
  unfold Sys.again
  split
  · exact Skel.refl s
  · exact (Skel.out _).trans (Skel.inn _ _)
theorem agains : ∀ (ids : List Int) (s : Sys), Skel s (ids.foldl Sys.again s)
  | [], s => Skel.refl s
  | id :: r, s => (Skel.again id).trans (agains r (s.again id))
theorem settled (d : Int) : Skel s (s.settled d) := (Skel.setBook d _).trans (agains _ _)
theorem sliced (d : Int) : Skel s (s.sliced d) := Skel.setBook d _
end Skel
namespace Sys
theorem Base.slotI (hB : s.Base D) {t u : Th} (ht : t ∈ s.ths) (hu : u ∈ s.ths) (e : t.slot = u.slot) : t = u := by
  have h1 := hB.slot t ht
  rw [e, hB.slot u hu] at h1
  have h2 := kfind_of hB.nod ht
  rw [← Option.some.inj h1, kfind_of hB.nod hu] at h2
  exact (Option.some.inj h2).symm
theorem Base.idI (hB : s.Base D) {t u : Th} (ht : t ∈ s.ths) (hu : u ∈ s.ths) (e : t.id = u.id) : t = u := by
  have h2 := kfind_of hB.nod ht
  rw [e, kfind_of hB.nod hu] at h2
  exact (Option.some.inj h2).symm
theorem Base.slotL (hB : s.Base D) {t : Th} (ht : t ∈ s.ths) : t.slot < s.sl.length := (List.getElem?_eq_some_iff.1 (hB.slot t ht)).1
theorem upd_mem {id : Int} {f : Th → Th} {u : Th} : u ∈ (s.upd id f).ths ↔ (u ∈ s.ths ∧ u.id ≠ id) ∨ ∃ t ∈ s.ths, t.id = id ∧ f t = u := kupd_mem
structure Placed (s : Sys) (x : Int) : Prop where
  curl : s.cur.length = 64
  lsl : s.Ls.length = 64
  tgl : s.tg.length = s.sl.length
  core : ∀ t ∈ s.ths, t.awake = true → t.id ≠ x → ∃ c : Nat, t.core = c ∧ c < 64
  runs : ∀ t ∈ s.ths, t.running = true → t.awake = true ∧ t.id ≠ x
  cur : ∀ (c : Nat) (id : Int), s.cur[c]? = some id → id ≠ 0 → ∃ t ∈ s.ths, t.id = id ∧ t.running = true ∧ t.core = c
  curOf : ∀ t ∈ s.ths, t.running = true → s.cur[t.core.toNat]? = some t.id
  lane : ∀ (c : Nat) (q : List Nat), s.Ls[c]? = some q → ∀ n ∈ q, ∃ t ∈ s.ths, t.slot = n ∧ t.awake = true ∧ t.running = false ∧ t.core = c ∧ t.id ≠ x
  laneOf : ∀ t ∈ s.ths, t.awake = true → t.running = false → t.id ≠ x → ∃ q, s.Ls[t.core.toNat]? = some q ∧ t.slot ∈ q
  nod : ∀ (c : Nat) (q : List Nat), s.Ls[c]? = some q → q.Nodup
  srt : ∀ (c : Nat) (q : List Nat), s.Ls[c]? = some q → q.Pairwise fun a b => s.tg.getD a 0 ≤ s.tg.getD b 0
theorem Placed.laneN {x : Int} (h : s.Placed x) {c : Nat} (hc : c < 64) : s.Ls[c]? = some (s.lane c) := by
  show _ = some (s.Ls.getD (c : Int).toNat [])
  rw [Int.toNat_natCast, List.getD_eq_getElem?_getD, List.getElem?_eq_getElem (by rw [h.lsl]; exact hc)]; rfl
theorem Placed.few {x : Int} (h : s.Placed x) (hB : s.Base D) {c : Nat} {q : List Nat} (hq : s.Ls[c]? = some q) : q.length ≤ 64 := by
  have hr := hB.room
  have h1 := nodup_few s.sl.length q (h.nod c q hq) fun n hn => by
    obtain ⟨t, ht, rfl, _⟩ := h.lane c q hq n hn
    exact hB.slotL ht
  omega
theorem Placed.running {x : Int} (h : s.Placed x) {t : Th} (ht : t ∈ s.ths) (hr : t.running = true) : ∃ c : Nat, t.core = c ∧ c < 64 := h.core t ht (h.runs t ht hr).1 (h.runs t ht hr).2
theorem Placed.out (h : s.Placed 0) (hB : s.Base D) {t : Th} (ht : t ∈ s.ths) (ha : t.awake = true) : (s.out t).Placed t.id := by
  have ht0 : t.id ≠ 0 := by have := hB.idr t ht; omega
  obtain ⟨k, hk, hk64⟩ := h.core t ht ha ht0
  have hkn : t.core.toNat = k := by omega
  cases hr : t.running with
  | true =>
    have e : s.out t = { (s.upd t.id fun t => { t with running := false }) with cur := s.cur.set t.core.toNat 0 } := by rw [Sys.out, hr, if_pos rfl]
    rw [e, hkn]
    have hin : ∀ u, u ∈ (s.upd t.id fun t => { t with running := false }).ths → (u ∈ s.ths ∧ u.id ≠ t.id) ∨ u = { t with running := false } := fun u hu => by
      rcases upd_mem.1 hu with h1 | ⟨v, hv, e, rfl⟩
      · exact .inl h1
      · rw [hB.idI hv ht e]; exact .inr rfl
    have hto : ∀ u ∈ s.ths, u.id ≠ t.id → u ∈ (s.upd t.id fun t => { t with running := false }).ths := fun u hu hne => upd_mem.2 (.inl ⟨hu, hne⟩)
    refine ⟨by show (s.cur.set k 0).length = 64; rw [List.length_set]; exact h.curl, h.lsl, h.tgl, ?_, ?_, ?_, ?_, ?_, ?_, h.nod, h.srt⟩
    · intro u hu hua hne
      rcases hin u hu with ⟨h1, _⟩ | rfl
      · exact h.core u h1 hua (by have := hB.idr u h1; omega)
      · exact absurd rfl hne
    · intro u hu hur
      rcases hin u hu with ⟨h1, h2⟩ | rfl
      · exact ⟨(h.runs u h1 hur).1, h2⟩
      · cases hur
    · intro c id hc hid
      have hc : (s.cur.set k 0)[c]? = some id := hc
      rw [List.getElem?_set] at hc
      split at hc
      · split at hc
        · exact absurd (Option.some.inj hc).symm hid
        · cases hc
      · rename_i hne
        obtain ⟨u, h1, h2, h3, h4⟩ := h.cur c id hc hid
        refine ⟨u, hto u h1 fun e => ?_, h2, h3, h4⟩
        rw [hB.idI h1 ht e, hk] at h4; omega
    · intro u hu hur
      show (s.cur.set k 0)[u.core.toNat]? = some u.id
      rcases hin u hu with ⟨h1, h2⟩ | rfl
      · have h3 := h.curOf u h1 hur
        rw [List.getElem?_set_ne (fun e => ?_)]
        · exact h3
        · have h4 := h.curOf t ht hr
          rw [hkn, e, h3] at h4
          exact h2 (Option.some.inj h4)
      · cases hur
    · intro c q hq n hn
      obtain ⟨u, h1, h2, h3, h4, h5, _⟩ := h.lane c q hq n hn
      have hne : u.id ≠ t.id := fun e => by rw [hB.idI h1 ht e, hr] at h4; cases h4
      exact ⟨u, hto u h1 hne, h2, h3, h4, h5, hne⟩
    · intro u hu hua hur hne
      rcases hin u hu with ⟨h1, h2⟩ | rfl
      · exact h.laneOf u h1 hua hur (by have := hB.idr u h1; omega)
      · exact absurd rfl hne
  | false =>
    obtain ⟨q0, hq0, hm0⟩ := h.laneOf t ht ha hr ht0
    rw [hkn] at hq0
    have hl : s.lane t.core = q0 := by
      show s.Ls.getD t.core.toNat [] = q0
      rw [hkn, List.getD_eq_getElem?_getD, hq0]; rfl
    have e : s.out t = { s with Ls := s.Ls.set k (q0.erase t.slot) } := by rw [Sys.out, hr, if_neg (by decide), hl, hkn]
    rw [e]
    have hsub : ∀ (c : Nat) (q : List Nat), (s.Ls.set k (q0.erase t.slot))[c]? = some q → ∃ q', s.Ls[c]? = some q' ∧ q.Sublist q' ∧ (c = k → q = q0.erase t.slot) := fun c q hq => by
      rw [List.getElem?_set] at hq
      split at hq
      · rename_i e; subst e
        split at hq
        · cases hq
          exact ⟨q0, hq0, List.erase_sublist, fun _ => rfl⟩
        · cases hq
      · rename_i hne
        exact ⟨q, hq, List.Sublist.refl _, fun e => absurd e.symm hne⟩
    refine ⟨h.curl, by show (s.Ls.set k _).length = 64; rw [List.length_set]; exact h.lsl, h.tgl, ?_, ?_, h.cur, h.curOf, ?_, ?_, ?_, ?_⟩
    · exact fun u hu hua _ => h.core u hu hua (by have := hB.idr u hu; omega)
    · exact fun u hu hur => ⟨(h.runs u hu hur).1, fun e => by rw [hB.idI hu ht e, hr] at hur; cases hur⟩
    · intro c q hq n hn
      obtain ⟨q', h1, h2, h3⟩ := hsub c q hq
      obtain ⟨u, g1, g2, g3, g4, g5, _⟩ := h.lane c q' h1 n (h2.subset hn)
      refine ⟨u, g1, g2, g3, g4, g5, fun e => ?_⟩
      have e2 := hB.idI g1 ht e
      subst e2
      have hck : c = k := by omega
      rw [h3 hck, ← g2] at hn
      exact ((h.nod k q0 hq0).mem_erase_iff.1 hn).1 rfl
    · intro u hu hua hur hne
      obtain ⟨q, g1, g2⟩ := h.laneOf u hu hua hur (by have := hB.idr u hu; omega)
      by_cases e : k = u.core.toNat
      · rw [← e, hq0] at g1
        cases g1
        refine ⟨q0.erase t.slot, by show (s.Ls.set k _)[u.core.toNat]? = _; rw [← e]; exact List.getElem?_set_self (List.getElem?_eq_some_iff.1 hq0).1, ?_⟩
        exact (List.mem_erase_of_ne fun e => hne (congrArg Th.id (hB.slotI hu ht e))).2 g2
      · exact ⟨q, by show (s.Ls.set k _)[u.core.toNat]? = _; rw [List.getElem?_set_ne e]; exact g1, g2⟩
    · intro c q hq
      obtain ⟨q', h1, h2, _⟩ := hsub c q hq
      exact h2.nodup (h.nod c q' h1)
    · intro c q hq
      obtain ⟨q', h1, h2, _⟩ := hsub c q hq
      exact (h.srt c q' h1).sublist h2
end Sys
theorem ahead_rest (tg : List Int) (tag : Int) : ∀ s : List Nat, ∃ v, s = ahead tg tag s ++ v ∧ ∀ b ∈ v, tag < tg.getD b 0
  | [] => ⟨[], rfl, by simp⟩
  | x :: s => by
    obtain ⟨v, hv, hb⟩ := ahead_rest tg tag s
    rw [ahead]
    by_cases h : (ahead tg tag s).isEmpty && decide (tag < tg.getD x 0)
    · refine ⟨x :: s, by simp only [h, if_true]; rfl, fun b hb' => ?_⟩
      simp only [Bool.and_eq_true, List.isEmpty_iff, decide_eq_true_eq] at h
      rcases List.mem_cons.1 hb' with rfl | h1
      · exact h.2
      · rw [h.1, List.nil_append] at hv
        exact hb b (hv ▸ h1)
    · refine ⟨v, ?_, hb⟩
      simp only [h]
      show x :: s = x :: (ahead tg tag s ++ v)
      rw [← hv]
theorem ahead_le (tg : List Int) (tag : Int) : ∀ s : List Nat, s.Pairwise (fun a b => tg.getD a 0 ≤ tg.getD b 0) → ∀ a ∈ ahead tg tag s, tg.getD a 0 ≤ tag
  | [], _ => by simp [ahead]
  | x :: s, h => by
    have h' := List.pairwise_cons.1 h
    have ih := ahead_le tg tag s h'.2
    obtain ⟨v, hv, _⟩ := ahead_rest tg tag s
    intro a ha
    rw [ahead] at ha
    split at ha
    · simp at ha
    · rename_i hc
      rcases List.mem_cons.1 ha with rfl | h1
      · cases hs : ahead tg tag s with
        | nil => rw [hs] at hc; simpa using hc
        | cons b r =>
          have hb : b ∈ ahead tg tag s := by rw [hs]; simp
          have h2 := ih b hb
          have h3 := h'.1 b (by rw [hv]; simp [hb])
          omega
      · exact ih a h1
theorem insL_is (tg : List Int) (tag : Int) (s : List Nat) (n : Nat) : ∃ v, s = ahead tg tag s ++ v ∧ insL tg tag s n = ahead tg tag s ++ n :: v ∧ ∀ b ∈ v, tag < tg.getD b 0 := by
  obtain ⟨v, hv, hb⟩ := ahead_rest tg tag s
  refine ⟨v, hv, ?_, hb⟩
  have h2 : s.drop (ahead tg tag s).length = (ahead tg tag s ++ v).drop (ahead tg tag s).length := congrArg (fun t : List Nat => t.drop (ahead tg tag s).length) hv
  rw [List.drop_left] at h2
  rw [insL, h2]
theorem insL_perm (tg : List Int) (tag : Int) (s : List Nat) (n : Nat) : (insL tg tag s n).Perm (n :: s) := by
  obtain ⟨v, hv, hi, _⟩ := insL_is tg tag s n
  rw [hi]
  refine List.perm_middle.trans ?_
  rw [← hv]
theorem getD_set_ne {tg : List Int} {n m : Nat} {v : Int} (h : n ≠ m) : (tg.set n v).getD m 0 = tg.getD m 0 := by
  rw [List.getD_eq_getElem?_getD, List.getElem?_set_ne h, List.getD_eq_getElem?_getD]
namespace Sys
theorem Placed.inn {t : Th} (h : s.Placed t.id) (hB : s.Base D) (ht : t ∈ s.ths) (ha : t.awake = true) {c : Nat} (hc : c < 64) : (s.inn t c).Placed 0 := by
  have ht0 : t.id ≠ 0 := by have := hB.idr t ht; omega
  have hr : t.running = false := by
    cases hr : t.running with
    | false => rfl
    | true => exact absurd rfl (h.runs t ht hr).2
  have hq := h.laneN hc
  generalize s.lane c = q0 at hq
  have hl : s.lane c = q0 := by
    show s.Ls.getD (c : Int).toNat [] = q0
    rw [Int.toNat_natCast, List.getD_eq_getElem?_getD, hq]; rfl
  have hfree : ∀ (j : Nat) q, s.Ls[j]? = some q → t.slot ∉ q := fun j q hj hm => by
    obtain ⟨u, g1, g2, _, _, _, g6⟩ := h.lane j q hj t.slot hm
    exact g6 (congrArg Th.id (hB.slotI g1 ht g2))
  have e : s.inn t c = { (s.upd t.id fun t => { t with core := c }) with Ls := s.Ls.set c (insL s.tg (s.tagOf t) q0 t.slot), tg := s.tg.set t.slot (s.tagOf t) } := by
    rw [Sys.inn, hl, Int.toNat_natCast]
  rw [e]
  generalize s.tagOf t = g
  have hin : ∀ u, u ∈ (s.upd t.id fun t => { t with core := (c : Int) }).ths → (u ∈ s.ths ∧ u.id ≠ t.id) ∨ u = { t with core := (c : Int) } := fun u hu => by
    rcases upd_mem.1 hu with h1 | ⟨v, hv, e, rfl⟩
    · exact .inl h1
    · rw [hB.idI hv ht e]; exact .inr rfl
  have hto : ∀ u ∈ s.ths, u.id ≠ t.id → u ∈ (s.upd t.id fun t => { t with core := (c : Int) }).ths := fun u hu hne => upd_mem.2 (.inl ⟨hu, hne⟩)
  have hme : { t with core := (c : Int) } ∈ (s.upd t.id fun t => { t with core := (c : Int) }).ths := upd_mem.2 (.inr ⟨t, ht, rfl, rfl⟩)
  have hcl := (List.getElem?_eq_some_iff.1 hq).1
  have hip := insL_perm s.tg g q0 t.slot
  have hget : ∀ (j : Nat) q, (s.Ls.set c (insL s.tg g q0 t.slot))[j]? = some q → (j = c ∧ q = insL s.tg g q0 t.slot) ∨ (j ≠ c ∧ s.Ls[j]? = some q) := fun j q hj => by
    by_cases e : j = c
    · subst e
      rw [List.getElem?_set_self hcl] at hj
      exact .inl ⟨rfl, (Option.some.inj hj).symm⟩
    · rw [List.getElem?_set_ne (fun h => e h.symm)] at hj
      exact .inr ⟨e, hj⟩
  have hold : ∀ (j : Nat) q, s.Ls[j]? = some q → ∀ a ∈ q, (s.tg.set t.slot g).getD a 0 = s.tg.getD a 0 := fun j q hj a ha => getD_set_ne fun e => hfree j q hj (e ▸ ha)
  refine ⟨h.curl, by show (s.Ls.set c _).length = 64; rw [List.length_set]; exact h.lsl, by show (s.tg.set _ _).length = _; rw [List.length_set]; exact h.tgl, ?_, ?_, ?_, ?_, ?_, ?_, ?_, ?_⟩
  · intro u hu hua _
    rcases hin u hu with ⟨h1, h2⟩ | rfl
    · exact h.core u h1 hua h2
    · exact ⟨c, rfl, hc⟩
  · intro u hu hur
    rcases hin u hu with ⟨h1, h2⟩ | rfl
    · exact ⟨(h.runs u h1 hur).1, by have := hB.idr u h1; omega⟩
    · exact absurd hr (by have hur : t.running = true := hur; simp [hur])
  · intro j id hj hid
    obtain ⟨u, h1, h2, h3, h4⟩ := h.cur j id hj hid
    exact ⟨u, hto u h1 (fun e => by rw [hB.idI h1 ht e, hr] at h3; cases h3), h2, h3, h4⟩
  · intro u hu hur
    rcases hin u hu with ⟨h1, h2⟩ | rfl
    · exact h.curOf u h1 hur
    · exact absurd hr (by have hur : t.running = true := hur; simp [hur])
  · intro j q hj n hn
    rcases hget j q hj with ⟨rfl, rfl⟩ | ⟨hne, hj⟩
    · rcases List.mem_cons.1 (hip.mem_iff.1 hn) with rfl | h1
      · exact ⟨_, hme, rfl, ha, hr, rfl, ht0⟩
      · obtain ⟨u, g1, g2, g3, g4, g5, g6⟩ := h.lane _ q0 hq n h1
        exact ⟨u, hto u g1 g6, g2, g3, g4, g5, by have := hB.idr u g1; omega⟩
    · obtain ⟨u, g1, g2, g3, g4, g5, g6⟩ := h.lane j q hj n hn
      exact ⟨u, hto u g1 g6, g2, g3, g4, g5, by have := hB.idr u g1; omega⟩
  · intro u hu hua hur hne
    rcases hin u hu with ⟨h1, h2⟩ | rfl
    · obtain ⟨q, g1, g2⟩ := h.laneOf u h1 hua hur h2
      by_cases e : u.core.toNat = c
      · rw [e, hq] at g1
        cases g1
        exact ⟨_, by show (s.Ls.set c _)[u.core.toNat]? = _; rw [e]; exact List.getElem?_set_self hcl, hip.mem_iff.2 (by simp [g2])⟩
      · exact ⟨q, by show (s.Ls.set c _)[u.core.toNat]? = _; rw [List.getElem?_set_ne (fun h => e h.symm)]; exact g1, g2⟩
    · exact ⟨_, by show (s.Ls.set c _)[(c : Int).toNat]? = _; rw [Int.toNat_natCast]; exact List.getElem?_set_self hcl, hip.mem_iff.2 (by simp)⟩
  · intro j q hj
    rcases hget j q hj with ⟨rfl, rfl⟩ | ⟨hne, hj⟩
    · exact hip.nodup_iff.2 (List.nodup_cons.2 ⟨hfree _ q0 hq, h.nod _ q0 hq⟩)
    · exact h.nod j q hj
  · intro j q hj
    show q.Pairwise fun a b => (s.tg.set t.slot g).getD a 0 ≤ (s.tg.set t.slot g).getD b 0
    rcases hget j q hj with ⟨rfl, rfl⟩ | ⟨hne, hj⟩
    · obtain ⟨v, hv, hi, hb⟩ := insL_is s.tg g q0 t.slot
      have hs := h.srt _ q0 hq
      have hle := ahead_le s.tg g q0 hs
      have ho := hold _ q0 hq
      have hself : (s.tg.set t.slot g).getD t.slot 0 = g := by
        rw [List.getD_eq_getElem?_getD, List.getElem?_set_self (by rw [h.tgl]; exact hB.slotL ht)]; rfl
      rw [hi]
      have hs2 : (ahead s.tg g q0 ++ v).Pairwise fun a b => s.tg.getD a 0 ≤ s.tg.getD b 0 := hv ▸ hs
      obtain ⟨p1, p2, p3⟩ := List.pairwise_append.1 hs2
      have hoA : ∀ a ∈ ahead s.tg g q0, (s.tg.set t.slot g).getD a 0 = s.tg.getD a 0 := fun a ha => ho a (by rw [hv]; simp [ha])
      have hoV : ∀ a ∈ v, (s.tg.set t.slot g).getD a 0 = s.tg.getD a 0 := fun a ha => ho a (by rw [hv]; simp [ha])
      refine List.pairwise_append.2 ⟨p1.imp_of_mem fun ha hb h => by rw [hoA _ ha, hoA _ hb]; exact h, List.pairwise_cons.2 ⟨fun b hb' => ?_, p2.imp_of_mem fun ha hb h => by rw [hoV _ ha, hoV _ hb]; exact h⟩, fun a ha b hb' => ?_⟩
      · rw [hself, hoV b hb']; have := hb b hb'; omega
      · rcases List.mem_cons.1 hb' with rfl | h1
        · rw [hself, hoA a ha]; exact hle a ha
        · rw [hoA a ha, hoV b h1]; exact p3 a ha b h1
    · exact (h.srt j q hj).imp_of_mem fun ha hb h => by rw [hold j q hj _ ha, hold j q hj _ hb]; exact h
end Sys
end Go.Proofs.YtpbnjifefoniiaaGreatDoor
namespace Go.Proofs.YtpbnjifefoniiaaGreatDoor
open Go Go.SE
variable {s s' : Sys} {D : Nat}
namespace Sys
def Tags (s : Sys) (R : List Int) : Prop := ∀ t ∈ s.ths, t.awake = true → t.running = false → t.id ∉ R → s.tg.getD t.slot 0 = s.tagOf t
def OnOk (s : Sys) (x : Int) : Prop := ∀ t ∈ s.ths, t.awake = true → t.id ≠ x → (s.T.online (s.dom t.group)).testBit t.core.toNat = true
def Ents (s : Sys) : Prop := ∀ t ∈ s.ths, t.awake = true → ∃ e, kfind En.id (s.book (s.dom t.group)).2 t.id = some e
theorem tagOf_same (hF : s'.F = s.F) (hb : s'.bs = s.bs) {t u : Th} (hi : u.id = t.id) (hg : u.group = t.group) : s'.tagOf u = s.tagOf t := by
  rw [tagOf, tagOf, dom_F hF, hg, hi, book, book, hb]
theorem Ents.same (h : s.Ents) (hk : Skel s s') (hb : s'.bs = s.bs) : s'.Ents := fun t ht ha => by
  obtain ⟨u, hu, e⟩ := hk.mem ht
  rw [hk.dom, book, hb, ← e.group, ← e.id]
  exact h u hu (by rw [e.awake]; exact ha)
theorem out_tg (t : Th) : (s.out t).tg = s.tg := by unfold out; split <;> rfl
theorem out_T (t : Th) : (s.out t).T = s.T := by unfold out; split <;> rfl
theorem out_mem (hB : s.Base D) {t u : Th} (ht : t ∈ s.ths) (hu : u ∈ (s.out t).ths) : (u ∈ s.ths ∧ u.id ≠ t.id) ∨ u = { t with running := false } := by
  unfold out at hu
  split at hu
  · rcases upd_mem.1 hu with h1 | ⟨v, hv, e, rfl⟩
    · exact .inl h1
    · rw [hB.idI hv ht e]; exact .inr rfl
  · rename_i hr
    by_cases e : u.id = t.id
    · have := hB.idI hu ht e
      subst this
      refine .inr ?_
      have hr : u.running = false := by simpa using hr
      obtain ⟨a, b, c, d, e, f, g, h1, h2, h3⟩ := u
      simp only at hr; subst hr; rfl
    · exact .inl ⟨hu, e⟩
theorem inn_mem (hB : s.Base D) {t u : Th} {c : Int} (ht : t ∈ s.ths) (hu : u ∈ (s.inn t c).ths) : (u ∈ s.ths ∧ u.id ≠ t.id) ∨ u = { t with core := c } := by
  rcases upd_mem.1 (show u ∈ (s.upd t.id fun t => { t with core := c }).ths from hu) with h1 | ⟨v, hv, e, rfl⟩
  · exact .inl h1
  · rw [hB.idI hv ht e]; exact .inr rfl
theorem Tags.out {R : List Int} (h : s.Tags R) (hB : s.Base D) {t : Th} (ht : t ∈ s.ths) : (s.out t).Tags (t.id :: R) := fun u hu ha hr hn => by
  rcases out_mem hB ht hu with ⟨h1, h2⟩ | rfl
  · rw [out_tg, tagOf_same (s := s) (out_F t) (out_bs t) rfl rfl]
    exact h u h1 ha hr fun hm => hn (by simp [hm])
  · exact absurd (List.mem_cons_self ..) hn
theorem Tags.inn {R : List Int} {t : Th} (h : s.Tags (t.id :: R)) (hB : s.Base D) (hl : s.tg.length = s.sl.length) (ht : t ∈ s.ths) (c : Int) : (s.inn t c).Tags R := fun u hu ha hr hn => by
  show (s.tg.set t.slot (s.tagOf t)).getD u.slot 0 = _
  rcases inn_mem hB ht hu with ⟨h1, h2⟩ | rfl
  · rw [tagOf_same (s := s) (s' := s.inn t c) (t := u) rfl rfl rfl rfl, getD_set_ne fun e => h2 (congrArg Th.id (hB.slotI ht h1 e)).symm]
    exact h u h1 ha hr fun hm => by
      rcases List.mem_cons.1 hm with e | e
      · exact h2 e
      · exact hn e
  · show (s.tg.set t.slot (s.tagOf t)).getD t.slot 0 = _
    rw [tagOf_same (s := s) (s' := s.inn t c) (t := t) (u := { t with core := c }) rfl rfl rfl rfl, List.getD_eq_getElem?_getD, List.getElem?_set_self (by rw [hl]; exact hB.slotL ht)]; rfl
theorem OnOk.out (h : s.OnOk 0) (hB : s.Base D) {t : Th} (ht : t ∈ s.ths) : (s.out t).OnOk 0 := fun u hu ha hn => by
  rw [out_T, dom_F (out_F t)]
  rcases out_mem hB ht hu with ⟨h1, h2⟩ | rfl
  · exact h u h1 ha hn
  · exact h t ht ha hn
theorem OnOk.inn {t : Th} (h : s.OnOk t.id) (hB : s.Base D) (ht : t ∈ s.ths) {c : Int} (hc : (s.T.online (s.dom t.group)).testBit c.toNat = true) : (s.inn t c).OnOk 0 := fun u hu ha hn => by
  show (s.T.online (s.dom u.group)).testBit u.core.toNat = true
  rcases inn_mem hB ht hu with ⟨h1, h2⟩ | rfl
  · exact h u h1 ha h2
  · exact hc
theorem OnOk.less {x : Int} (h : s.OnOk 0) (hB : s.Base D) : s.OnOk x := fun u hu ha _ => h u hu ha (by have := hB.idr u hu; omega)
theorem inOk {t u : Th} (h : s.Placed t.id) (hB : s.Base D) (hu : u ∈ s.ths) (e : SkT u t) {c : Nat} (hc : c < 64) (hE : ∃ e, kfind En.id (s.book (s.dom t.group)).2 t.id = some e) : InOk s t c := by
  refine ⟨⟨c, _, rfl, h.laneN hc, ?_⟩, by rw [← e.slot]; exact hB.slotL hu, fun j q hj hm => ?_, by rw [h.lsl]; decide, hE⟩
  · have := h.few hB (h.laneN hc); omega
  · obtain ⟨v, g1, g2, _, _, _, g6⟩ := h.lane j q hj t.slot hm
    exact g6 (by rw [hB.slotI g1 hu (g2.trans e.slot.symm)]; exact e.id)
theorem outOk (h : s.Placed 0) (hB : s.Base D) {t : Th} (ht : t ∈ s.ths) (ha : t.awake = true) : OutOk s t := by
  have ht0 : t.id ≠ 0 := by have := hB.idr t ht; omega
  refine ⟨h.core t ht ha ht0, h.curl, fun hr => ?_⟩
  obtain ⟨q, h1, h2⟩ := h.laneOf t ht ha hr ht0
  exact ⟨q, h1, h2, by have := h.few hB h1; omega⟩
theorem find_mem {id : Int} {t : Th} (h : s.find id = some t) : t ∈ s.ths ∧ t.id = id := ⟨kfind_mem h, kfind_key h⟩
theorem out_me {t : Th} (ht : t ∈ s.ths) : { t with running := false } ∈ (s.out t).ths := by
  unfold out
  split
  · exact upd_mem.2 (.inr ⟨t, ht, rfl, rfl⟩)
  · rename_i hr
    have hr : t.running = false := by simpa using hr
    have e : { t with running := false } = t := by
      obtain ⟨a, b, c, d, e, f, g, h1, h2, h3⟩ := t
      simp only at hr; subst hr; rfl
    rw [e]; exact ht
structure Mid (s : Sys) (D : Nat) (R : List Int) : Prop where
  base : s.Base D
  bl : s.bs.length = D
  pl : s.Placed 0
  tags : s.Tags R
  on : s.OnOk 0
  ents : s.Ents
structure Mv (u t : Th) : Prop where
  sk : SkT u t
  tag : u.tag = t.tag
  left : u.left = t.left
  core : u.core = t.core
  run : t.running = true → t = u
  asleep : t.awake = false → t = u
def Moved (s s' : Sys) : Prop := ∀ t ∈ s'.ths, ∃ u ∈ s.ths, Mv u t
theorem Mv.refl (t : Th) : Mv t t := ⟨⟨rfl, rfl, rfl, rfl, rfl, rfl⟩, rfl, rfl, rfl, fun _ => rfl, fun _ => rfl⟩
theorem Moved.refl (s : Sys) : Moved s s := fun t ht => ⟨t, ht, Mv.refl t⟩
theorem Moved.trans {s1 s2 s3 : Sys} (h : Moved s1 s2) (k : Moved s2 s3) : Moved s1 s3 := fun t ht => by
  obtain ⟨u, hu, e⟩ := k t ht
  obtain ⟨v, hv, f⟩ := h u hu
  refine ⟨v, hv, f.sk.trans e.sk, f.tag.trans e.tag, f.left.trans e.left, f.core.trans e.core, fun hr => ?_, fun ha => ?_⟩
  · have e1 := e.run hr
    rw [e1]; exact f.run (by rw [← e1]; exact hr)
  · have e1 := e.asleep ha
    rw [e1]; exact f.asleep (by rw [← e1]; exact ha)
theorem Moved.out (hB : s.Base D) {t : Th} (ht : t ∈ s.ths) (ha : t.awake = true) : Moved s (s.out t) := fun u hu => by
  rcases out_mem hB ht hu with ⟨h1, _⟩ | rfl
  · exact ⟨u, h1, Mv.refl u⟩
  · exact ⟨t, ht, ⟨rfl, rfl, rfl, rfl, rfl, rfl⟩, rfl, rfl, rfl, (fun h => by cases h), fun h => absurd (show t.awake = false from h) (by rw [ha]; decide)⟩
theorem Moved.inn (hB : s.Base D) {t : Th} (ht : t ∈ s.ths) (ha : t.awake = true) (hr : t.running = false) {c : Int} (hc : t.core = c) : Moved s (s.inn t c) := fun u hu => by
  rcases inn_mem hB ht hu with ⟨h1, _⟩ | rfl
  · exact ⟨u, h1, Mv.refl u⟩
  · exact ⟨t, ht, ⟨rfl, rfl, rfl, rfl, rfl, rfl⟩, rfl, rfl, hc, fun h => absurd (show t.running = true from h) (by rw [hr]; decide), fun h => absurd (show t.awake = false from h) (by rw [ha]; decide)⟩
theorem Mid.again {id : Int} {R : List Int} (h : s.Mid D (id :: R)) {t : Th} (ht : s.find id = some t) (ha : t.awake = true) :
    (s.again id).Mid D R ∧ Moved s (s.again id) ∧ OutOk s t ∧ InOk (s.out t) t t.core ∧ ∃ d : Nat, s.dom t.group = d ∧ d < D ∧ ∃ y, s.bs[d]? = some y := by
  obtain ⟨hm, rfl⟩ := find_mem ht
  have hB := h.base
  have hk := Skel.out (s := s) t
  have hB1 := hk.base hB
  have hme := out_me hm
  obtain ⟨k, hk1, hk2⟩ := h.pl.core t hm ha (by have := hB.idr t hm; omega)
  have hP1 := h.pl.out hB hm ha
  have hE1 := h.ents.same hk (out_bs t)
  obtain ⟨d, hd, hdD⟩ := hB.domT hm
  have hon := h.on.out hB hm
  have e : s.again t.id = (s.out t).inn { t with running := false } (k : Int) := by rw [again_find ht, hk1]; rfl
  refine ⟨?_, by rw [e]; exact (Moved.out hB hm ha).trans (Moved.inn hB1 hme ha rfl hk1), outOk h.pl hB hm ha, ?_, d, hd, hdD, _, List.getElem?_eq_getElem (by rw [h.bl]; exact hdD)⟩
  · rw [e]
    have hk2' := Skel.inn (s := s.out t) { t with running := false } (k : Int)
    refine ⟨hk2'.base hB1, by show (s.out t).bs.length = D; rw [out_bs]; exact h.bl, Placed.inn (t := { t with running := false }) hP1 hB1 hme ha hk2, Tags.inn (t := { t with running := false }) (R := R) ?_ hB1 hP1.tgl hme _, OnOk.inn (t := { t with running := false }) (hon.less hB1) hB1 hme ?_, hE1.same hk2' rfl⟩
    · have h1 := h.tags.out hB hm
      intro u hu g1 g2 g3
      exact h1 u hu g1 g2 fun hh => by
        rcases List.mem_cons.1 hh with e | e
        · exact g3 (by show u.id ∈ t.id :: R; simp [e])
        · exact g3 (by show u.id ∈ t.id :: R; exact e)
    · have := hon _ hme ha (by show t.id ≠ 0; have := hB.idr t hm; omega)
      rw [show ({ t with running := false } : Th).core = (k : Int) from hk1] at this
      exact this
  · rw [hk1]
    refine inOk hP1 hB1 hme ⟨rfl, rfl, rfl, rfl, rfl, rfl⟩ hk2 ?_
    exact hE1 { t with running := false } hme ha
theorem Mid.agains : ∀ (ids : List Int) (s : Sys), s.Mid D ids → (∀ id ∈ ids, ∃ t, s.find id = some t ∧ t.awake = true) → (ids.foldl Sys.again s).Mid D [] ∧ Moved s (ids.foldl Sys.again s) ∧ SetOk D s ids
  | [], s, h, _ => ⟨h, Moved.refl s, trivial⟩
  | id :: R, s, h, hs => by
    obtain ⟨t, ht, ha⟩ := hs id (by simp)
    obtain ⟨h1, h0, h2, h3, h4⟩ := h.again ht ha
    have hk := Skel.again (s := s) id
    have := Mid.agains R (s.again id) h1 fun i hi => by
      obtain ⟨u, hu, hua⟩ := hs i (by simp [hi])
      have hin : i ∈ (s.again id).ids := by rw [hk.ids]; exact find_ids.1 (by rw [hu]; rfl)
      obtain ⟨v, hv⟩ := Option.isSome_iff_exists.1 (find_ids.2 hin)
      obtain ⟨hvm, hvi⟩ := find_mem hv
      obtain ⟨z, hz, e⟩ := hk.mem hvm
      obtain ⟨hum, hui⟩ := find_mem hu
      have e2 := h.base.idI hz hum (by rw [e.id, hvi, hui])
      exact ⟨v, hv, by rw [← e.awake, e2]; exact hua⟩
    exact ⟨this.1, h0.trans this.2.1, ⟨t, ht, h2, h3, h4⟩, this.2.2⟩
end Sys
end Go.Proofs.YtpbnjifefoniiaaGreatDoor
