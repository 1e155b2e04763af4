/- Where ids are: rows that grow behind a map. -/
import Derived.Test.YtkpbpjnabbfdiaaAz
namespace Go.Proofs.Ytkpbpjnabbfdiaa
open Go Go.SE

variable {w0 w : World} {l : List HP} {i : Nat} {r : Option (Nat × Nat)} {p : HP}

theorem eo_pre {C : Cx} {n : Nat} {o : Oper} {Q : Kont} {e : Env} {H H1 : WP} {k : Env → WP → Prop} (hH : ∀ w, H w → H1 w) (h : EO C n o Q e H1 k) : EO C n o Q e H k := ⟨fun K hK a w hf hw => h.run K hK a w hf (hH w hw)⟩
theorem eo_post {C : Cx} {n : Nat} {o : Oper} {Q : Kont} {e : Env} {H : WP} {k : Env → WP → Prop} (h : EO C n o Q e H (fun e' H' => ∃ H2, (∀ w, H' w → H2 w) ∧ k e' H2)) : EO C n o Q e H k :=
  ⟨fun K hK a w hf hw => h.run K (fun e' _ ⟨H2, hi, hk⟩ a w hf hw => hK e' H2 hk a w hf (hi w hw)) a w hf hw⟩

def gput (gs : List Grp) (id : Int) (r : Option (Nat × Nat)) (sp : List Spot) : List Grp :=
  if gs.any (fun g => decide (g.id = id)) then gs.map (fun g => if g.id = id then ⟨id, r, sp⟩ else g) else gs ++ [⟨id, r, sp⟩]
def gadd (sp : List (Int × List Spot)) (id : Int) (s : Spot) : List (Int × List Spot) :=
  if sp.any (fun g => decide (g.1 = id)) then sp.map (fun g => if g.1 = id then (id, g.2 ++ [s]) else g) else sp ++ [(id, [s])]
/-- what a group holds -/
structure At (gs : List Grp) (id : Int) (r0 : Option (Nat × Nat)) (s0 : List Spot) : Prop where
  is : (gs.any (fun g => decide (g.id = id)) = false ∧ r0 = none ∧ s0 = []) ∨ ∃ (j : Nat) (g : Grp), gs[j]? = some g ∧ g.id = id ∧ r0 = g.r ∧ s0 = g.sp ∧ gs.any (fun g => decide (g.id = id)) = true
theorem gput_kv (gs : List Grp) (id : Int) (r : Option (Nat × Nat)) (sp : List Spot) : (gput gs id r sp).map Grp.kv = kput (gs.map Grp.kv) id (sv r sp.length) := by
  have ha : (gs.map Grp.kv).any (fun p => decide (p.1 = id)) = gs.any (fun g => decide (g.id = id)) := by rw [List.any_map]; rfl
  unfold gput kput
  rw [ha]
  split
  · rw [List.map_map, List.map_map]
    refine List.map_congr_left fun g _ => ?_
    simp only [Function.comp]
    by_cases h : g.id = id
    · rw [if_pos h, if_pos h]
    · rw [if_neg h, if_neg h]
  · rw [List.map_append]; rfl
theorem gput_id {gs : List Grp} (hn : (gs.map (·.id)).Nodup) {id : Int} {r0 : Option (Nat × Nat)} {s0 : List Spot} (hA : At gs id r0 s0) (r : Option (Nat × Nat)) (s : Spot) :
    (gput gs id r (s0 ++ [s])).map (fun g => (g.id, g.sp)) = gadd (gs.map fun g => (g.id, g.sp)) id s := by
  have ha : (gs.map fun g => (g.id, g.sp)).any (fun p => decide (p.1 = id)) = gs.any (fun g => decide (g.id = id)) := by rw [List.any_map]; rfl
  unfold gput gadd
  rw [ha]
  rcases hA.is with ⟨h1, _, rfl⟩ | ⟨j, g, hj, rfl, _, rfl, h1⟩
  · rw [h1]; simp
  · rw [h1, if_pos rfl, if_pos rfl, List.map_map, List.map_map]
    refine List.map_congr_left fun g2 hg2 => ?_
    simp only [Function.comp]
    by_cases h : g2.id = g.id
    · obtain ⟨j2, hj2⟩ := List.getElem?_of_mem hg2
      have : j2 = j := by
        have l1 := (List.getElem?_eq_some_iff.1 hj2).1
        have l2 := (List.getElem?_eq_some_iff.1 hj).1
        have e1 := (List.getElem?_eq_some_iff.1 hj2).2
        have e2 := (List.getElem?_eq_some_iff.1 hj).2
        by_cases hne : j2 = j
        · exact hne
        · exact (nodup_ne hn (i := j2) (j := j) (by simpa using l1) (by simpa using l2) hne (by simp only [List.getElem_map]; rw [e1, e2, h])).elim
      subst this
      rw [hj] at hj2
      cases hj2
      simp
    · rw [if_neg h, if_neg h]
theorem gput_nodup {gs : List Grp} (hn : (gs.map (·.id)).Nodup) (id : Int) (r : Option (Nat × Nat)) (sp : List Spot) : ((gput gs id r sp).map (·.id)).Nodup := by
  unfold gput
  split
  · have : (gs.map (fun g => if g.id = id then (⟨id, r, sp⟩ : Grp) else g)).map (·.id) = gs.map (·.id) := by
      rw [List.map_map]
      refine List.map_congr_left fun g _ => ?_
      simp only [Function.comp]
      split
      · rename_i h; exact h.symm
      · rfl
    rw [this]; exact hn
  · rename_i h
    have hx : ∀ g ∈ gs, g.id ≠ id := by simpa using h
    rw [List.map_append, List.nodup_append]
    refine ⟨hn, by simp, fun a ha b hb => ?_⟩
    obtain ⟨g, hg, rfl⟩ := List.mem_map.1 ha
    simp at hb; subst hb
    exact hx g hg
theorem grp_look (gs : List Grp) (id : Int) : ∃ (r0 : Option (Nat × Nat)) (s0 : List Spot), At gs id r0 s0 ∧ lookV (gs.map Grp.kv) id (.slice none 0 0) false = sv r0 s0.length := by
  cases hf : gs.find? (fun g => decide (g.id = id)) with
  | none =>
    have h1 : ∀ g ∈ gs, ¬ g.id = id := by simpa using List.find?_eq_none.1 hf
    refine ⟨none, [], ⟨.inl ⟨by simpa using h1, rfl, rfl⟩⟩, ?_⟩
    have : kget (gs.map Grp.kv) id = none := by rw [kget, List.find?_eq_none.2 (by simpa using h1)]; rfl
    simp only [lookV, this]; rfl
  | some g =>
    have hmem := List.mem_of_find?_eq_some hf
    have hid : g.id = id := by simpa using List.find?_some hf
    obtain ⟨j, hj⟩ := List.getElem?_of_mem hmem
    refine ⟨g.r, g.sp, ⟨.inr ⟨j, g, hj, hid, rfl, rfl, List.any_eq_true.2 ⟨g, hmem, by simpa using hid⟩⟩⟩, ?_⟩
    have : kget (gs.map Grp.kv) id = some (sv g.r g.sp.length) := by
      rw [kget, List.find?_map]
      have e : ((fun x : Int × Value => decide (x.1 = id)) ∘ Grp.kv) = fun g : Grp => decide (g.id = id) := rfl
      rw [e, hf]; rfl
    simp only [lookV, this]; rfl

theorem stars_snoc (p : HP) : ∀ (ps : List HP) (h : Hp), star (stars ps) p h → stars (ps ++ [p]) h
  | [], h, ⟨a, b, hab, e, _, hp⟩ => by
    subst e
    rw [uni_comm hab]
    exact ⟨b, a, disj_comm hab, rfl, hp, trivial⟩
  | q :: ps, h, ⟨a, b, hab, e, hs, hp⟩ => by
    subst e
    obtain ⟨c, d, hcd, rfl, hq, hr⟩ := hs
    refine ⟨c, uni d b, disj_uni hcd (disj_comm (disj_left (disj_comm hab))), ?_, hq, stars_snoc p ps _ ⟨d, b, ?_, rfl, hr, hp⟩⟩
    · rw [uni_assoc]
    · exact disj_comm (disj_right (disj_comm hab))

theorem gput_set {gs : List Grp} (hn : (gs.map (·.id)).Nodup) {j : Nat} {g : Grp} (hj : gs[j]? = some g) (h : gs.any (fun x => decide (x.id = g.id)) = true) (r : Option (Nat × Nat)) (sp : List Spot) : gput gs g.id r sp = gs.set j ⟨g.id, r, sp⟩ := by
  rw [gput, if_pos h]
  refine List.ext_getElem (by simp) fun k h1 h2 => ?_
  rw [List.getElem_map, List.getElem_set]
  have hk : k < gs.length := by simpa using h1
  have l2 := (List.getElem?_eq_some_iff.1 hj).1
  have e2 := (List.getElem?_eq_some_iff.1 hj).2
  by_cases hjk : j = k
  · subst hjk; rw [if_pos (by rw [e2]), if_pos rfl]
  · rw [if_neg hjk, if_neg (fun e => nodup_ne hn (i := k) (j := j) (by simpa using hk) (by simpa using l2) (Ne.symm hjk) (by simp only [List.getElem_map]; rw [e2, e]))]

/-- append to a group's row -/
theorem eo_appendG (i : Nat) {C : Cx} {n : Nat} {Q : Kont} {e : Env} {o : Oper} {k : Env → WP → Prop} {d : Nat} {x y : Operand} {r0 : Option (Nat × Nat)} {s0 : List Spot} {t c : Nat} {te tl : TI} {gs : List Grp} {id : Int} (s : Spot) {a : Addr} (ho : o.op = .call { callee := .builtin .append, args := #[x, y], argTypes := #[t, t] }) (hd : o.dst = some d) (hn : Nat.ble n d = false)
    (hx : ev e x = some (sv r0 s0.length)) (hy : ev e y = some (.slice (some a) 1 c)) (ht : C.L.ti t = some tl) (hk : tl.kind = .slice T_audit_spot) (hE : C.L.ti T_audit_spot = some te) (hz : te.zero.cells.size = te.size) (hsz : te.size = 2) (hby : te.bytes = 16)
    (hi : l[i]? = some (grpsO gs)) (hnd : (gs.map (·.id)).Nodup) (hA : At gs id r0 s0) (hs0 : s0.length ≤ 100000000) (hnews : ∀ w, S w0 l w → ∀ j u, s.cells[j]? = some u → w.cell? (a.add j) = some u)
    (h : ∀ r', k ((d, sv r' (s0.length + 1)) :: e) (S w0 (l.set i (grpsO (gput gs id r' (s0 ++ [s])))))) : EO C n o Q e (S w0 l) k := by
  have hil := (List.getElem?_eq_some_iff.1 hi).1
  rcases hA.is with ⟨h1, rfl, rfl⟩ | ⟨j, g, hj, rfl, rfl, rfl, h1⟩
  · refine eo_pre (H1 := S w0 (rowC none T_audit_spot te.size [] 0 :: l)) (fun w hw => hw.row_new) ?_
    refine eo_post (eo_append 0 (r := none) (xs := []) (n' := 0) s.cells ho hd hn hx hy ht hk hE hz rfl (by rw [hsz]; rfl) (fun w hw => hnews w (hw.erase 0)) rfl (by decide) (by rw [hby]; decide) (by decide) fun r' => ?_)
    refine ⟨_, fun w hw => ?_, h r'⟩
    have hw : S w0 (rowC r' T_audit_spot te.size s.cells 1 :: l) w := hw
    have h2 := hw.front (i := i + 1) (p := grpsO gs) hi
    have h3 : S w0 (grpsO gs :: rowC r' T_audit_spot te.size s.cells 1 :: l.eraseIdx i) w := h2
    have h4 := h3.join2 (p := grpsO (gs ++ [⟨id, r', [s]⟩])) fun hh hst => by
      rw [grpsO, List.map_append]
      refine stars_snoc _ _ _ ?_
      rw [hsz] at hst
      have e : rows Spot.cells [s] = s.cells := by simp [rows]
      show star (stars (gs.map Grp.row)) (rowC r' T_audit_spot 2 (rows Spot.cells [s]) 1) hh
      rw [e]; exact hst
    have h5 := h4.unfront hil
    have e : gput gs id r' ([] ++ [s]) = gs ++ [⟨id, r', [s]⟩] := by rw [gput, if_neg (by rw [h1]; decide)]; rfl
    rw [e]; exact h5
  · have hjl := (List.getElem?_eq_some_iff.1 hj).1
    refine eo_pre (H1 := S w0 (gs.map Grp.row ++ l.eraseIdx i)) (fun w hw => S.spread (hw.front hi)) ?_
    refine eo_post (eo_append j (r := g.r) (xs := rows Spot.cells g.sp) (n' := g.sp.length) s.cells ho hd hn hx hy ht hk hE hz ?_ (by rw [hsz]; rfl) (fun w hw => hnews w ?_) rfl (by decide) (by rw [hby]; omega) (by simp only [maxLen]; omega) fun r' => ?_)
    · rw [List.getElem?_append_left (by simpa using hjl), List.getElem?_map, hj, hsz]; rfl
    · have h2 := (S.gather hw).unfront hil
      have h3 : S w0 (l.set i (grpsO gs)) w := h2
      rw [set_perm_front _ _ _ hi] at h3; exact h3
    refine ⟨_, fun w hw => ?_, h r'⟩
    rw [gput_set hnd hj h1]
    rw [List.set_append_left _ _ (by simpa using hjl), hsz, ← rows_snoc] at hw
    have e : (gs.map Grp.row).set j (rowC r' T_audit_spot 2 (rows Spot.cells (g.sp ++ [s])) (g.sp.length + 1)) = (gs.set j ⟨g.id, r', g.sp ++ [s]⟩).map Grp.row := by
      rw [List.map_set]
      congr 1
      simp [Grp.row]
    rw [e] at hw
    exact (S.gather hw).unfront hil

end Go.Proofs.Ytkpbpjnabbfdiaa
