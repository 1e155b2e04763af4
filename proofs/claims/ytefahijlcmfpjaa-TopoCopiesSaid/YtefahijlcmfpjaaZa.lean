/- The rows. -/
import Derived.Test.YtefahijlcmfpjaaRq
import Derived.Test.YtefahijlcmfpjaaSEg
import Derived.Test.YtefahijlcmfpjaaRows
namespace Go.Proofs.Ytefahijlcmfpjaa
open Go Go.SE

theorem own : ownKnob Try.prog.godebug = none := by kernel_rfl
theorem laidOut : laidOutB Try.prog = true := by kernel_rfl
theorem ubool : Try.prog.underlying 4 = some .bool := by kernel_rfl

theorem flat_u64s (xs : List Nat) : (xs.map fun m => [u64 m]).flatten = u64s xs := by
  induction xs with
  | nil => rfl
  | cons m xs ih => simp [u64s] at ih ⊢; exact ih
theorem read_u64 {W : World} (t : Nat) {ti : TI} (ht : lay.ti t = some ti) (hk : ti.kind = .int .u64) {f : Nat} (cs : List Value) (h : rd lay W (f + 1) t cs) : ∃ m : Nat, cs = [u64 m] ∧ m < 18446744073709551616 := by
  obtain ⟨n, rfl, h1, h2⟩ := rd_int ht hk h
  simp only [IntKind.min, IntKind.max] at h1 h2
  have h1 : 0 ≤ n := h1
  have h2 : n ≤ 18446744073709551615 := h2
  exact ⟨n.toNat, by simp [u64, Int.toNat_of_nonneg h1], by omega⟩
theorem open_masks {W : World} {v : Value} (h : Arg lay W T_S_uint64 v) : ∃ (a : Option Addr) (xs : List Nat) (c : Nat), v = .slice a xs.length c ∧ ∀ l i, l[i]? = some (old W) → Masks W l i a xs := by
  obtain ⟨a, xs, c, h1, h2, h3, h4, h5⟩ := arg_list (fun m : Nat => [u64 m]) (· < 18446744073709551616) rfl rfl rfl (fun cs h => read_u64 _ rfl rfl cs h) h
  rw [flat_u64s] at h3
  exact ⟨a, xs, c, h1, fun l i hi => ⟨h2, h3, hi, h5⟩⟩

theorem read_act {W : World} {f : Nat} (cs : List Value) (h : rd lay W (f + 2) T_law05_Act cs) : ∃ x : Doing, cs = x.cells ∧ True := by
  obtain ⟨h1, h2⟩ := rd_struct (L := lay) (ti := _) rfl rfl h
  have a1 := h2 (3, 0) (by simp) _ rfl
  have a2 := h2 (4, 1) (by simp) _ rfl
  obtain ⟨n, e1, _⟩ := rd_int (L := lay) rfl rfl a1
  obtain ⟨u, e2⟩ := rd_bool (L := lay) rfl rfl a2
  match cs, h1 with
  | [x, y], _ =>
    have e1 : [x] = [int n] := e1
    have e2 : [y] = [.bool u] := e2
    simp only [List.cons.injEq, and_true] at e1 e2
    exact ⟨⟨n, u⟩, by rw [e1, e2], trivial⟩
theorem open_acts {W : World} {v : Value} (h : Arg lay W T_S_law05_Act v) : ∃ (a : Option Addr) (ds : List Doing) (c : Nat), v = .slice a ds.length c ∧ ∀ l i, l[i]? = some (old W) → Told W l i a ds := by
  obtain ⟨a, xs, c, h1, _, h3, _, _⟩ := arg_list (fun x : Doing => x.cells) (fun _ => True) rfl rfl rfl (fun cs h => read_act (f := 17) cs h) h
  exact ⟨a, xs, c, h1, fun l i hi => ⟨h3, hi⟩⟩
theorem open_ask {W : World} {v : Value} (h : Arg lay W T_law05_Ask v) : ∃ (d : Int) (s : Nat), v = .agg #[int d, u64 s] ∧ s < 18446744073709551616 := by
  obtain ⟨x, h1, h2⟩ := arg_agg (fun x : Int × Nat => [int x.1, u64 x.2]) (fun x => x.2 < 18446744073709551616) rfl rfl (fun cs h => by
    obtain ⟨h1, h2⟩ := rd_struct (L := lay) (f := 19) (ti := _) rfl rfl h
    have a1 := h2 (3, 0) (by simp) _ rfl
    have a2 := h2 (37, 1) (by simp) _ rfl
    obtain ⟨n, e1, _⟩ := rd_int (L := lay) rfl rfl a1
    obtain ⟨u, e2, hu⟩ := read_u64 37 rfl rfl _ a2
    match cs, h1 with
    | [x, y], _ =>
      have e1 : [x] = [int n] := e1
      have e2 : [y] = [u64 u] := e2
      simp only [List.cons.injEq, and_true] at e1 e2
      exact ⟨(n, u), by rw [e1, e2], hu⟩) h
  exact ⟨x.1, x.2, h1, h2⟩

theorem TopoNews_lawful : Lawful Rows.topoNewsSpec 1 := ⟨rfl, fun H ds h => by
  match ds, h with
  | [d], _ => rfl⟩
set_option maxRecDepth 100000 in
theorem TopoNews_lifted (os : Os) (started : os.Started) (H : Type) (enc : TypeId × Value → H) :
    ReturnsInHanded {} Try.checked os F_law05_TopoNews .any (Rows.topoNewsSpec.pre6 enc Try.prog B_law05_TopoNews Rows.topoNewsRow.domain false) (Rows.topoNewsSpec.post enc Try.prog B_law05_TopoNews false true false false) :=
  law_lifted cx (K := Try.checked) rfl TopoNews_lawful own started (by kernel_rfl) fn_law05_TopoNews
    (ChangeSpec.witness6 (enc := enc) (C := Try.checked) false ⟨#[], #[.slice none 0 0], []⟩ 8 (by kernel_rfl) (by kernel_rfl) (by kernel_rfl) (by kernel_rfl))
    laidOut (by kernel_rfl) rfl rfl ubool fun W args hA => by
      obtain ⟨v, rfl, h⟩ := args1 (t := T_S_uint64) hA
      obtain ⟨a, xs, c, rfl, hM⟩ := open_masks h
      exact News_any xs (hM _ 0 rfl)

theorem TopoNews_holds : Rows.TopoNewsSaid :=
  OpenClaim.holds_of_wide F_law05_TopoNews B_law05_TopoNews rfl rfl rfl rfl rfl rfl rfl ⟨rfl, rfl, rfl, rfl, rfl⟩ rfl rfl rfl rfl rfl (by kernel_rfl) fn_law05_TopoNews (by kernel_rfl)
    (of_decide_eq_true (by kernel_rfl)) (by unfold Func.isWrapper; rw [if_neg (by decide +kernel)]; exact ⟨rfl, rfl⟩)
    (fun os started H enc _ => TopoNews_lifted os started H enc)
#print axioms TopoNews_holds

theorem TopoPlays_lawful : Lawful Rows.topoPlaysSpec 2 := ⟨rfl, fun H ds h => by
  match ds, h with
  | [d, d2], _ => rfl⟩
set_option maxRecDepth 100000 in
theorem TopoPlays_lifted (os : Os) (started : os.Started) (H : Type) (enc : TypeId × Value → H) :
    ReturnsInHanded {} Try.checked os F_law05_TopoPlays .any (Rows.topoPlaysSpec.pre6 enc Try.prog B_law05_TopoPlays Rows.topoPlaysRow.domain false) (Rows.topoPlaysSpec.post enc Try.prog B_law05_TopoPlays false true false false) :=
  law_lifted cx (K := Try.checked) rfl TopoPlays_lawful own started (by kernel_rfl) fn_law05_TopoPlays
    (ChangeSpec.witness6 (enc := enc) (C := Try.checked) false ⟨#[], #[.slice none 0 0, .slice none 0 0], []⟩ 8 (by kernel_rfl) (by kernel_rfl) (by kernel_rfl) (by kernel_rfl))
    laidOut (by kernel_rfl) rfl rfl ubool fun W args hA => by
      obtain ⟨v, v2, rfl, h, h2⟩ := args2 (t := T_S_uint64) (t2 := T_S_law05_Act) hA
      obtain ⟨a, xs, c, rfl, hM⟩ := open_masks h
      obtain ⟨a2, ds, c2, rfl, hT⟩ := open_acts h2
      exact Plays_any xs ds (hM _ 0 rfl) (hT _ 0 rfl)

theorem TopoPlays_holds : Rows.TopoPlaysSaid :=
  OpenClaim.holds_of_wide F_law05_TopoPlays B_law05_TopoPlays rfl rfl rfl rfl rfl rfl rfl ⟨rfl, rfl, rfl, rfl, rfl⟩ rfl rfl rfl rfl rfl (by kernel_rfl) fn_law05_TopoPlays (by kernel_rfl)
    (of_decide_eq_true (by kernel_rfl)) (by unfold Func.isWrapper; rw [if_neg (by decide +kernel)]; exact ⟨rfl, rfl⟩)
    (fun os started H enc _ => TopoPlays_lifted os started H enc)
#print axioms TopoPlays_holds

theorem TopoParts_lawful : Lawful Rows.topoPartsSpec 2 := ⟨rfl, fun H ds h => by
  match ds, h with
  | [d, d2], _ => rfl⟩
set_option maxRecDepth 100000 in
theorem TopoParts_lifted (os : Os) (started : os.Started) (H : Type) (enc : TypeId × Value → H) :
    ReturnsInHanded {} Try.checked os F_law05_TopoParts .any (Rows.topoPartsSpec.pre6 enc Try.prog B_law05_TopoParts Rows.topoPartsRow.domain false) (Rows.topoPartsSpec.post enc Try.prog B_law05_TopoParts false true false false) :=
  law_lifted cx (K := Try.checked) rfl TopoParts_lawful own started (by kernel_rfl) fn_law05_TopoParts
    (ChangeSpec.witness6 (enc := enc) (C := Try.checked) false ⟨#[], #[.slice none 0 0, .slice none 0 0], []⟩ 8 (by kernel_rfl) (by kernel_rfl) (by kernel_rfl) (by kernel_rfl))
    laidOut (by kernel_rfl) rfl rfl ubool fun W args hA => by
      obtain ⟨v, v2, rfl, h, h2⟩ := args2 (t := T_S_uint64) (t2 := T_S_law05_Act) hA
      obtain ⟨a, xs, c, rfl, hM⟩ := open_masks h
      obtain ⟨a2, ds, c2, rfl, hT⟩ := open_acts h2
      exact Parts_any xs ds (hM _ 0 rfl) (hT _ 0 rfl)

theorem TopoParts_holds : Rows.TopoPartsSaid :=
  OpenClaim.holds_of_wide F_law05_TopoParts B_law05_TopoParts rfl rfl rfl rfl rfl rfl rfl ⟨rfl, rfl, rfl, rfl, rfl⟩ rfl rfl rfl rfl rfl (by kernel_rfl) fn_law05_TopoParts (by kernel_rfl)
    (of_decide_eq_true (by kernel_rfl)) (by unfold Func.isWrapper; rw [if_neg (by decide +kernel)]; exact ⟨rfl, rfl⟩)
    (fun os started H enc _ => TopoParts_lifted os started H enc)
#print axioms TopoParts_holds

theorem TopoCopies_lawful : Lawful Rows.topoCopiesSpec 3 := ⟨rfl, fun H ds h => by
  match ds, h with
  | [d, d2, d3], _ => rfl⟩
set_option maxRecDepth 100000 in
theorem TopoCopies_lifted (os : Os) (started : os.Started) (H : Type) (enc : TypeId × Value → H) :
    ReturnsInHanded {} Try.checked os F_law05_TopoCopies .any (Rows.topoCopiesSpec.pre6 enc Try.prog B_law05_TopoCopies Rows.topoCopiesRow.domain false) (Rows.topoCopiesSpec.post enc Try.prog B_law05_TopoCopies false true false false) :=
  law_lifted cx (K := Try.checked) rfl TopoCopies_lawful own started (by kernel_rfl) fn_law05_TopoCopies
    (ChangeSpec.witness6 (enc := enc) (C := Try.checked) false ⟨#[], #[.slice none 0 0, .slice none 0 0, .slice none 0 0], []⟩ 8 (by kernel_rfl) (by kernel_rfl) (by kernel_rfl) (by kernel_rfl))
    laidOut (by kernel_rfl) rfl rfl ubool fun W args hA => by
      obtain ⟨v, v2, v3, rfl, h, h2, h3⟩ := args3 (t := T_S_uint64) (t2 := T_S_law05_Act) (t3 := T_S_law05_Act) hA
      obtain ⟨a, xs, c, rfl, hM⟩ := open_masks h
      obtain ⟨a2, ds, c2, rfl, hT⟩ := open_acts h2
      obtain ⟨a3, es, c3, rfl, hU⟩ := open_acts h3
      exact Copies_any xs ds es (hM _ 0 rfl) (hT _ 0 rfl) (hU _ 0 rfl)

theorem TopoCopies_holds : Rows.TopoCopiesSaid :=
  OpenClaim.holds_of_wide F_law05_TopoCopies B_law05_TopoCopies rfl rfl rfl rfl rfl rfl rfl ⟨rfl, rfl, rfl, rfl, rfl⟩ rfl rfl rfl rfl rfl (by kernel_rfl) fn_law05_TopoCopies (by kernel_rfl)
    (of_decide_eq_true (by kernel_rfl)) (by unfold Func.isWrapper; rw [if_neg (by decide +kernel)]; exact ⟨rfl, rfl⟩)
    (fun os started H enc _ => TopoCopies_lifted os started H enc)
#print axioms TopoCopies_holds

theorem TopoMasks_lawful : Lawful Rows.topoMasksSpec 3 := ⟨rfl, fun H ds h => by
  match ds, h with
  | [d, d2, d3], _ => rfl⟩
set_option maxRecDepth 100000 in
theorem TopoMasks_lifted (os : Os) (started : os.Started) (H : Type) (enc : TypeId × Value → H) :
    ReturnsInHanded {} Try.checked os F_law05_TopoMasks .any (Rows.topoMasksSpec.pre6 enc Try.prog B_law05_TopoMasks Rows.topoMasksRow.domain false) (Rows.topoMasksSpec.post enc Try.prog B_law05_TopoMasks false true false false) :=
  law_lifted cx (K := Try.checked) rfl TopoMasks_lawful own started (by kernel_rfl) fn_law05_TopoMasks
    (ChangeSpec.witness6 (enc := enc) (C := Try.checked) false ⟨#[], #[.slice none 0 0, .slice none 0 0, .agg #[.int .i64 0, .int .u64 0]], []⟩ 8 (by kernel_rfl) (by kernel_rfl) (by kernel_rfl) (by kernel_rfl))
    laidOut (by kernel_rfl) rfl rfl ubool fun W args hA => by
      obtain ⟨v, v2, v3, rfl, h, h2, h3⟩ := args3 (t := T_S_uint64) (t2 := T_S_law05_Act) (t3 := T_law05_Ask) hA
      obtain ⟨a, xs, c, rfl, hM⟩ := open_masks h
      obtain ⟨a2, ds, c2, rfl, hT⟩ := open_acts h2
      obtain ⟨d, s, rfl, hs⟩ := open_ask h3
      exact Masks_any xs ds d s hs (hM _ 0 rfl) (hT _ 0 rfl)

theorem TopoMasks_holds : Rows.TopoMasksSaid :=
  OpenClaim.holds_of_wide F_law05_TopoMasks B_law05_TopoMasks rfl rfl rfl rfl rfl rfl rfl ⟨rfl, rfl, rfl, rfl, rfl⟩ rfl rfl rfl rfl rfl (by kernel_rfl) fn_law05_TopoMasks (by kernel_rfl)
    (of_decide_eq_true (by kernel_rfl)) (by unfold Func.isWrapper; rw [if_neg (by decide +kernel)]; exact ⟨rfl, rfl⟩)
    (fun os started H enc _ => TopoMasks_lifted os started H enc)
#print axioms TopoMasks_holds

end Go.Proofs.Ytefahijlcmfpjaa
