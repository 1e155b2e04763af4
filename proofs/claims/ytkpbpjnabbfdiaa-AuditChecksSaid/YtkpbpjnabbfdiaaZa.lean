/- AuditChecks and AuditOrders: whatever the view, each law answers true, and leaves what it was given as it was. -/
import Derived.Test.YtkpbpjnabbfdiaaFa
import Derived.Test.YtkpbpjnabbfdiaaSEg
import Derived.Test.YtkpbpjnabbfdiaaRows
namespace Go.Proofs.Ytkpbpjnabbfdiaa
open Go Go.SE

theorem own : ownKnob Try.prog.godebug = none := by kernel_rfl
theorem laidOut : laidOutB Try.prog = true := by kernel_rfl
theorem ubool : Try.prog.underlying 4 = some .bool := by kernel_rfl

theorem read_u64 {W : World} (t : Nat) {ti : TI} (ht : lay.ti t = some ti) (hk : ti.kind = .int .u64) {f : Nat} (cs : List Value) (h : rd lay W (f + 1) t cs) : ∃ m : Nat, cs = [u64 m] ∧ m < 18446744073709551616 := by
  obtain ⟨n, rfl, h1, h2⟩ := rd_int ht hk h
  simp only [IntKind.min, IntKind.max] at h1 h2
  have h1 : 0 ≤ n := h1
  have h2 : n ≤ 18446744073709551615 := h2
  exact ⟨n.toNat, by simp [u64, Int.toNat_of_nonneg h1], by omega⟩
theorem read_d {W : World} {f : Nat} (cs : List Value) (h : rd lay W (f + 2) T_ref21_D cs) : ∃ x : Dm, cs = x.cells ∧ x.Ok := by
  obtain ⟨h1, h2⟩ := rd_struct (L := lay) (ti := _) rfl rfl h
  have a1 := h2 (48, 0) (by simp) _ rfl
  have a2 := h2 (48, 1) (by simp) _ rfl
  have a3 := h2 (3, 2) (by simp) _ rfl
  obtain ⟨n1, e1, u1⟩ := read_u64 48 rfl rfl _ a1
  obtain ⟨n2, e2, u2⟩ := read_u64 48 rfl rfl _ a2
  obtain ⟨n3, e3, _⟩ := rd_int (L := lay) rfl rfl a3
  match cs, h1 with
  | [x, y, z], _ =>
    have e1 : [x] = [u64 n1] := e1
    have e2 : [y] = [u64 n2] := e2
    have e3 : [z] = [int n3] := e3
    simp only [List.cons.injEq, and_true] at e1 e2 e3
    exact ⟨⟨n1, n2, n3⟩, by rw [e1, e2, e3], ⟨u1, u2⟩⟩
theorem flat_ints (xs : List Int) : (xs.map fun m => [int m]).flatten = ints xs := by
  induction xs with
  | nil => rfl
  | cons m xs ih => simp at ih ⊢; exact ih
theorem read_c {W : World} {f : Nat} (cs : List Value) (h : rd lay W (f + 3) T_ref21_C cs) : ∃ x : Cr, cs = x.cells ∧ View W [old W] 1 x.a (ints x.lane) x.lane.length x.cap := by
  obtain ⟨h1, h2⟩ := rd_struct (L := lay) (ti := _) rfl rfl h
  have a1 := h2 (3, 0) (by simp) _ rfl
  have a2 := h2 (3, 1) (by simp) _ rfl
  have a3 := h2 (44, 2) (by simp) _ rfl
  obtain ⟨n1, e1, _⟩ := rd_int (L := lay) rfl rfl a1
  obtain ⟨n2, e2, _⟩ := rd_int (L := lay) rfl rfl a2
  obtain ⟨a, xs, c, e3, _, h5, h6⟩ := rd_list (L := lay) (fun n : Int => [int n]) (fun _ => True) rfl rfl rfl (fun cs h => by
    obtain ⟨n, e, _⟩ := rd_int (L := lay) rfl rfl h
    exact ⟨n, e, trivial⟩) a3
  rw [flat_ints] at h5
  match cs, h1 with
  | [x, y, z], _ =>
    have e1 : [x] = [int n1] := e1
    have e2 : [y] = [int n2] := e2
    have e3 : [z] = [.slice a xs.length c] := e3
    simp only [List.cons.injEq, and_true] at e1 e2 e3
    exact ⟨⟨n1, n2, xs, a, c⟩, by rw [e1, e2, e3], View.of_old (i := 0) h5 h6 rfl⟩
theorem read_t {W : World} {f : Nat} (cs : List Value) (h : rd lay W (f + 2) T_ref21_T cs) : ∃ x : Th, cs = x.doc ∧ x.mask < 18446744073709551616 ∧ x.tag ≤ 9223372036854775807 := by
  obtain ⟨h1, h2⟩ := rd_struct (L := lay) (ti := _) rfl rfl h
  have a1 := h2 (3, 0) (by simp) _ rfl
  have a2 := h2 (3, 1) (by simp) _ rfl
  have a3 := h2 (48, 2) (by simp) _ rfl
  have a4 := h2 (4, 3) (by simp) _ rfl
  have a5 := h2 (4, 4) (by simp) _ rfl
  have a6 := h2 (3, 5) (by simp) _ rfl
  have a7 := h2 (3, 6) (by simp) _ rfl
  have a8 := h2 (3, 7) (by simp) _ rfl
  have a9 := h2 (3, 8) (by simp) _ rfl
  obtain ⟨n1, e1, _⟩ := rd_int (L := lay) rfl rfl a1
  obtain ⟨n2, e2, _⟩ := rd_int (L := lay) rfl rfl a2
  obtain ⟨n3, e3, hm⟩ := read_u64 48 rfl rfl _ a3
  obtain ⟨n4, e4⟩ := rd_bool (L := lay) rfl rfl a4
  obtain ⟨n5, e5⟩ := rd_bool (L := lay) rfl rfl a5
  obtain ⟨n6, e6, _⟩ := rd_int (L := lay) rfl rfl a6
  obtain ⟨n7, e7, _, ht⟩ := rd_int (L := lay) rfl rfl a7
  obtain ⟨n8, e8, _⟩ := rd_int (L := lay) rfl rfl a8
  obtain ⟨n9, e9, _⟩ := rd_int (L := lay) rfl rfl a9
  simp only [IntKind.max] at ht
  have ht : n7 ≤ 9223372036854775807 := ht
  match cs, h1 with
  | [x1, x2, x3, x4, x5, x6, x7, x8, x9], _ =>
    have e1 : [x1] = [int n1] := e1
    have e2 : [x2] = [int n2] := e2
    have e3 : [x3] = [u64 n3] := e3
    have e4 : [x4] = [.bool n4] := e4
    have e5 : [x5] = [.bool n5] := e5
    have e6 : [x6] = [int n6] := e6
    have e7 : [x7] = [int n7] := e7
    have e8 : [x8] = [int n8] := e8
    have e9 : [x9] = [int n9] := e9
    simp only [List.cons.injEq, and_true] at e1 e2 e3 e4 e5 e6 e7 e8 e9
    exact ⟨⟨n1, n2, n3, n4, n5, n6, n7, n8, n9⟩, by rw [e1, e2, e3, e4, e5, e6, e7, e8, e9], hm, ht⟩
structure Vw where
  v : Hd
  ds : List Dm
  cs : List Cr
  ts : List Th
theorem read_v {W : World} (cs : List Value) (h : rd lay W 20 T_ref21_V cs) : ∃ x : Vw, cs = Hd.cells x.v ∧ DoL W (old W) x.v x.ds x.cs x.ts ∧ ∀ t ∈ x.ts, t.tag ≤ 9223372036854775807 := by
  obtain ⟨h1, h2⟩ := rd_struct (L := lay) (f := 19) (ti := _) rfl rfl h
  have a1 := h2 (3, 0) (by simp) _ rfl
  have a2 := h2 (22, 1) (by simp) _ rfl
  have a3 := h2 (23, 2) (by simp) _ rfl
  have a4 := h2 (24, 3) (by simp) _ rfl
  obtain ⟨q, e1, _⟩ := rd_int (L := lay) rfl rfl a1
  obtain ⟨ad, ds, cd, e2, d1, d2, d3⟩ := rd_list (L := lay) (f := 18) (fun x : Dm => x.cells) (fun x => x.Ok) rfl rfl rfl (fun cs h => read_d (f := 16) cs h) a2
  obtain ⟨ac, rs, cc, e3, c1, c2, c3⟩ := rd_list (L := lay) (f := 18) (fun x : Cr => x.cells) (fun x => View W [old W] 1 x.a (ints x.lane) x.lane.length x.cap) rfl rfl rfl (fun cs h => read_c (f := 15) cs h) a3
  obtain ⟨at', ts, ct, e4, t1, t2, t3⟩ := rd_list (L := lay) (f := 18) (fun x : Th => x.doc) (fun x => x.mask < 18446744073709551616 ∧ x.tag ≤ 9223372036854775807) rfl rfl rfl (fun cs h => read_t (f := 16) cs h) a4
  match cs, h1 with
  | [x, y, z, w], _ =>
    have e1 : [x] = [int q] := e1
    have e2 : [y] = [.slice ad ds.length cd] := e2
    have e3 : [z] = [.slice ac rs.length cc] := e3
    have e4 : [w] = [.slice at' ts.length ct] := e4
    simp only [List.cons.injEq, and_true] at e1 e2 e3 e4
    exact ⟨⟨⟨q, ad, ds.length, cd, ac, rs.length, cc, at', ts.length, ct⟩, ds, rs, ts⟩, by rw [e1, e2, e3, e4],
      ⟨⟨View.of_old (i := 0) d2 d3 rfl, View.of_old (i := 0) c2 c3 rfl, c1, View.of_old (i := 0) t2 t3 rfl, d1, fun t ht => (t1 t ht).1⟩, rfl, rfl, rfl⟩, fun t ht => (t1 t ht).2⟩

theorem AuditChecks_lawful : Lawful Rows.auditChecksSpec 1 := ⟨rfl, fun H ds h => by
  match ds, h with
  | [d], _ => rfl⟩
set_option maxRecDepth 100000 in
theorem AuditChecks_lifted (os : Os) (started : os.Started) (H : Type) (enc : TypeId × Value → H) :
    ReturnsInHanded {} Try.checked os F_law21_AuditChecks .any (Rows.auditChecksSpec.pre6 enc Try.prog B_law21_AuditChecks Rows.auditChecksRow.domain false) (Rows.auditChecksSpec.post enc Try.prog B_law21_AuditChecks false true false false) :=
  law_lifted cx (K := Try.checked) rfl AuditChecks_lawful own started (by kernel_rfl) fn_law21_AuditChecks
    (ChangeSpec.witness6 (enc := enc) (C := Try.checked) false ⟨#[], #[.agg #[int 0, .slice none 0 0, .slice none 0 0, .slice none 0 0]], []⟩ 8 (by kernel_rfl) (by kernel_rfl) (by kernel_rfl) (by kernel_rfl))
    laidOut (by kernel_rfl) rfl rfl ubool fun W args hA => by
      obtain ⟨v, rfl, h⟩ := args1 (t := T_ref21_V) hA
      obtain ⟨x, rfl, h1, h2⟩ := arg_agg (fun x : Vw => Hd.cells x.v) (fun x => DoL W (old W) x.v x.ds x.cs x.ts ∧ ∀ t ∈ x.ts, t.tag ≤ 9223372036854775807) rfl rfl (fun cs h => read_v cs h) h
      exact AuditChecks_any (i := 0) h2 rfl h1

theorem AuditChecks_holds : Rows.AuditChecksSaid :=
  OpenClaim.holds_of_wide F_law21_AuditChecks B_law21_AuditChecks rfl rfl rfl rfl rfl rfl rfl ⟨rfl, rfl, rfl, rfl, rfl⟩ rfl rfl rfl rfl rfl (by kernel_rfl) fn_law21_AuditChecks (by kernel_rfl)
    (of_decide_eq_true (by kernel_rfl)) (by unfold Func.isWrapper; rw [if_neg (by decide +kernel)]; exact ⟨rfl, rfl⟩)
    (fun os started H enc _ => AuditChecks_lifted os started H enc)
#print axioms AuditChecks_holds

theorem AuditOrders_lawful : Lawful Rows.auditOrdersSpec 1 := ⟨rfl, fun H ds h => by
  match ds, h with
  | [d], _ => rfl⟩
set_option maxRecDepth 100000 in
theorem AuditOrders_lifted (os : Os) (started : os.Started) (H : Type) (enc : TypeId × Value → H) :
    ReturnsInHanded {} Try.checked os F_law21_AuditOrders .any (Rows.auditOrdersSpec.pre6 enc Try.prog B_law21_AuditOrders Rows.auditOrdersRow.domain false) (Rows.auditOrdersSpec.post enc Try.prog B_law21_AuditOrders false true false false) :=
  law_lifted cx (K := Try.checked) rfl AuditOrders_lawful own started (by kernel_rfl) fn_law21_AuditOrders
    (ChangeSpec.witness6 (enc := enc) (C := Try.checked) false ⟨#[], #[.agg #[int 0, .slice none 0 0, .slice none 0 0, .slice none 0 0]], []⟩ 8 (by kernel_rfl) (by kernel_rfl) (by kernel_rfl) (by kernel_rfl))
    laidOut (by kernel_rfl) rfl rfl ubool fun W args hA => by
      obtain ⟨v, rfl, h⟩ := args1 (t := T_ref21_V) hA
      obtain ⟨x, rfl, h1, h2⟩ := arg_agg (fun x : Vw => Hd.cells x.v) (fun x => DoL W (old W) x.v x.ds x.cs x.ts ∧ ∀ t ∈ x.ts, t.tag ≤ 9223372036854775807) rfl rfl (fun cs h => read_v cs h) h
      exact AuditOrders_any (i := 0) h2 rfl h1

theorem AuditOrders_holds : Rows.AuditOrdersSaid :=
  OpenClaim.holds_of_wide F_law21_AuditOrders B_law21_AuditOrders rfl rfl rfl rfl rfl rfl rfl ⟨rfl, rfl, rfl, rfl, rfl⟩ rfl rfl rfl rfl rfl (by kernel_rfl) fn_law21_AuditOrders (by kernel_rfl)
    (of_decide_eq_true (by kernel_rfl)) (by unfold Func.isWrapper; rw [if_neg (by decide +kernel)]; exact ⟨rfl, rfl⟩)
    (fun os started H enc _ => AuditOrders_lifted os started H enc)
#print axioms AuditOrders_holds

end Go.Proofs.Ytkpbpjnabbfdiaa
