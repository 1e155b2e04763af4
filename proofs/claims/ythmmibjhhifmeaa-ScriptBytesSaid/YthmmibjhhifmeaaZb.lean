/- ScriptBytes: whatever the commands, the law answers true, and leaves what it was given as it was. -/
import Derived.Test.YthmmibjhhifmeaaSr
import Derived.Test.YthmmibjhhifmeaaZa
namespace Go.Proofs.Ythmmibjhhifmeaa
open Go Go.SE

theorem read_u64 {W : World} (t : Nat) {ti : TI} (ht : lay.ti t = some ti) (hk : ti.kind = .int .u64) {f : Nat} (cs : List Value) (h : rd lay W (f + 1) t cs) : ∃ m : Nat, cs = [u64 m] ∧ m < 18446744073709551616 := by
  obtain ⟨n, rfl, h1, h2⟩ := rd_int ht hk h
  simp only [IntKind.min, IntKind.max] at h1 h2
  have h1 : 0 ≤ n := h1
  have h2 : n ≤ 18446744073709551615 := h2
  exact ⟨n.toNat, by simp [u64, Int.toNat_of_nonneg h1], by omega⟩
theorem read_raw {W : World} {f : Nat} (cs : List Value) (h : rd lay W (f + 2) T_ref22_C cs) : ∃ x : Raw, cs = x.cells ∧ x.m < 18446744073709551616 := by
  obtain ⟨h1, h2⟩ := rd_struct (L := lay) (ti := _) rfl rfl h
  have a1 := h2 (3, 0) (by simp) _ rfl
  have a2 := h2 (3, 1) (by simp) _ rfl
  have a3 := h2 (3, 2) (by simp) _ rfl
  have a4 := h2 (27, 3) (by simp) _ rfl
  obtain ⟨n1, e1, _⟩ := rd_int (L := lay) rfl rfl a1
  obtain ⟨n2, e2, _⟩ := rd_int (L := lay) rfl rfl a2
  obtain ⟨n3, e3, _⟩ := rd_int (L := lay) rfl rfl a3
  obtain ⟨u, e4, hu⟩ := read_u64 27 rfl rfl _ a4
  match cs, h1 with
  | [x, y, z, w], _ =>
    have e1 : [x] = [int n1] := e1
    have e2 : [y] = [int n2] := e2
    have e3 : [z] = [int n3] := e3
    have e4 : [w] = [u64 u] := e4
    simp only [List.cons.injEq, and_true] at e1 e2 e3 e4
    exact ⟨⟨n1, n2, n3, u⟩, by rw [e1, e2, e3, e4], hu⟩

theorem ScriptBytes_lawful : Lawful Rows.scriptBytesSpec 1 := ⟨rfl, fun H ds h => by
  match ds, h with
  | [d], _ => rfl⟩
set_option maxRecDepth 100000 in
theorem ScriptBytes_lifted (os : Os) (started : os.Started) (H : Type) (enc : TypeId × Value → H) :
    ReturnsInHanded {} Try.checked os F_law24_ScriptBytes .any (Rows.scriptBytesSpec.pre6 enc Try.prog B_law24_ScriptBytes Rows.scriptBytesRow.domain false) (Rows.scriptBytesSpec.post enc Try.prog B_law24_ScriptBytes false true false false) :=
  law_lifted cx (K := Try.checked) rfl ScriptBytes_lawful own started (by kernel_rfl) fn_law24_ScriptBytes
    (ChangeSpec.witness6 (enc := enc) (C := Try.checked) false ⟨#[], #[.slice none 0 0], []⟩ 8 (by kernel_rfl) (by kernel_rfl) (by kernel_rfl) (by kernel_rfl))
    laidOut (by kernel_rfl) rfl rfl ubool fun W args hA => by
      obtain ⟨v, rfl, h⟩ := args1 (t := T_S_ref22_C) hA
      obtain ⟨a, xs, c, rfl, h2, h3, h4, h5⟩ := arg_list (fun x : Raw => x.cells) (fun x => x.m < 18446744073709551616) rfl rfl rfl (fun cs h => read_raw (f := 17) cs h) h
      exact ScriptBytes_any xs h2 h3 h4

theorem ScriptBytes_holds : Rows.ScriptBytesSaid :=
  OpenClaim.holds_of_wide F_law24_ScriptBytes B_law24_ScriptBytes rfl rfl rfl rfl rfl rfl rfl ⟨rfl, rfl, rfl, rfl, rfl⟩ rfl rfl rfl rfl rfl (by kernel_rfl) fn_law24_ScriptBytes (by kernel_rfl)
    (of_decide_eq_true (by kernel_rfl)) (by unfold Func.isWrapper; rw [if_neg (by decide +kernel)]; exact ⟨rfl, rfl⟩)
    (fun os started H enc _ => ScriptBytes_lifted os started H enc)
#print axioms ScriptBytes_holds

end Go.Proofs.Ythmmibjhhifmeaa
