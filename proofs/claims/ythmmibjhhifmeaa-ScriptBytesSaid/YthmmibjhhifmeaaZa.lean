/- ScriptSteps: whatever the bytes, the law answers true, and leaves what it was given as it was. -/
import Derived.Test.YthmmibjhhifmeaaSn
import Derived.Test.YthmmibjhhifmeaaSEg
import Derived.Test.YthmmibjhhifmeaaRows
namespace Go.Proofs.Ythmmibjhhifmeaa
open Go Go.SE

theorem own : ownKnob Try.prog.godebug = none := by kernel_rfl
theorem laidOut : laidOutB Try.prog = true := by kernel_rfl
theorem ubool : Try.prog.underlying 4 = some .bool := by kernel_rfl

theorem flat_u8s (xs : List Nat) : (xs.map fun m => [u8 m]).flatten = u8s xs := by
  induction xs with
  | nil => rfl
  | cons m xs ih => simp [u8s] at ih ⊢; exact ih
theorem read_u8 {W : World} (t : Nat) {ti : TI} (ht : lay.ti t = some ti) (hk : ti.kind = .int .u8) {f : Nat} (cs : List Value) (h : rd lay W (f + 1) t cs) : ∃ m : Nat, cs = [u8 m] ∧ m < 256 := by
  obtain ⟨n, rfl, h1, h2⟩ := rd_int ht hk h
  simp only [IntKind.min, IntKind.max] at h1 h2
  have h1 : 0 ≤ n := h1
  have h2 : n ≤ 255 := h2
  exact ⟨n.toNat, by simp [Int.toNat_of_nonneg h1], by omega⟩

theorem ScriptSteps_lawful : Lawful Rows.scriptStepsSpec 1 := ⟨rfl, fun H ds h => by
  match ds, h with
  | [d], _ => rfl⟩
set_option maxRecDepth 100000 in
theorem ScriptSteps_lifted (os : Os) (started : os.Started) (H : Type) (enc : TypeId × Value → H) :
    ReturnsInHanded {} Try.checked os F_law24_ScriptSteps .any (Rows.scriptStepsSpec.pre6 enc Try.prog B_law24_ScriptSteps Rows.scriptStepsRow.domain false) (Rows.scriptStepsSpec.post enc Try.prog B_law24_ScriptSteps false true false false) :=
  law_lifted cx (K := Try.checked) rfl ScriptSteps_lawful own started (by kernel_rfl) fn_law24_ScriptSteps
    (ChangeSpec.witness6 (enc := enc) (C := Try.checked) false ⟨#[], #[.slice none 0 0], []⟩ 8 (by kernel_rfl) (by kernel_rfl) (by kernel_rfl) (by kernel_rfl))
    laidOut (by kernel_rfl) rfl rfl ubool fun W args hA => by
      obtain ⟨v, rfl, h⟩ := args1 (t := T_S_uint8) hA
      obtain ⟨a, xs, c, rfl, h2, h3, h4, h5⟩ := arg_list (fun m : Nat => [u8 m]) (· < 256) rfl rfl rfl (fun cs h => read_u8 _ rfl rfl cs h) h
      rw [flat_u8s] at h3
      exact ScriptSteps_any xs h2 h3 h4

theorem ScriptSteps_holds : Rows.ScriptStepsSaid :=
  OpenClaim.holds_of_wide F_law24_ScriptSteps B_law24_ScriptSteps rfl rfl rfl rfl rfl rfl rfl ⟨rfl, rfl, rfl, rfl, rfl⟩ rfl rfl rfl rfl rfl (by kernel_rfl) fn_law24_ScriptSteps (by kernel_rfl)
    (of_decide_eq_true (by kernel_rfl)) (by unfold Func.isWrapper; rw [if_neg (by decide +kernel)]; exact ⟨rfl, rfl⟩)
    (fun os started H enc _ => ScriptSteps_lifted os started H enc)
#print axioms ScriptSteps_holds

end Go.Proofs.Ythmmibjhhifmeaa
