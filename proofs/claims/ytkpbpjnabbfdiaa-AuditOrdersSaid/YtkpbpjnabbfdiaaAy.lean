/- Findings, sorted. -/
import Derived.Test.YtkpbpjnabbfdiaaAx
import Derived.Test.YtkpbpjnabbfdiaaSEk
import Derived.Shelf.SlSortCmp.NoneTotal
namespace Go.Proofs.Ytkpbpjnabbfdiaa
open Go Go.SE

variable {w0 : World} {l : List HP} {i : Nat} {r : Option (Nat × Nat)}

theorem cmpF_lt (x y : Fnd) : ltOf cmpF x y = decide (x.kind < y.kind ∨ x.kind = y.kind ∧ x.num < y.num) := by
  unfold ltOf cmpF cmpI
  apply decide_eq_decide.2
  by_cases h1 : x.kind < y.kind
  · simp [h1]
  · by_cases h2 : y.kind < x.kind
    · simp [h1, h2]; omega
    · have h3 : x.kind = y.kind := by omega
      by_cases h4 : x.num < y.num
      · simp [h3, h4]
      · by_cases h5 : y.num < x.num <;> simp [h3, h4, h5]
theorem swoF : Sort.SWO (ltOf cmpF) where
  irrefl x := by rw [cmpF_lt]; simp
  trans x y z h1 h2 := by rw [cmpF_lt] at *; simp only [decide_eq_true_eq] at *; omega
  ntrans x y z h1 h2 := by rw [cmpF_lt] at *; simp only [decide_eq_false_iff_not] at *; omega
def leF (x y : Fnd) : Bool := !(ltOf cmpF y x)
def sortF (out : List Fnd) : List Fnd := out.mergeSort leF

theorem cmpLays {W : World} (blk off size : Nat) : CmpLays Try.prog 16 #[] Fnd.cells 2 cmpF blk off size W := by
  intro m os dk _ x y
  have h := cmp_any (w0 := sortWorldK Fnd.cells 2 W blk off m dk os) (l := [old (sortWorldK Fnd.cells 2 W blk off m dk os)]) x y _ (S.begin _)
  refine Calls.mono h ?_
  rintro e w' ⟨v, rfl, rfl, hS⟩
  exact ⟨rfl, hS.grown⟩

theorem sort_any (out : List Fnd) (hl : out.length < 4611686018427387904) (hi : l[i]? = some (rowC r T_audit_Finding 2 (rows Fnd.cells out) out.length)) :
    Does cx F_slices_SortFunc_audit_Finding_audit_Finding [sv r out.length, .func (.func 16) #[] #[]] (S w0 l) fun v w => v = .tuple #[] ∧ S w0 (l.set i (rowC r T_audit_Finding 2 (rows Fnd.cells (sortF out)) out.length)) w := by
  intro w hw
  match r, hi with
  | none, hi =>
    obtain ⟨h1, h2⟩ := hw.row_nil hi
    have hout : out = [] := List.eq_nil_of_length_eq_zero h2
    subst hout
    refine (AnyF.slices_SortFunc_none sortFinding none 0 (.func (.func 16) #[] #[]) w).mono ?_
    rintro e w' ⟨rfl, rfl⟩
    exact ⟨_, rfl, rfl, by rw [show sortF [] = [] by simp [sortF], set_perm_front _ _ _ hi]; exact hw⟩
  | some (g, c), hi =>
    obtain ⟨rest, hS, h1, h2, h3, h4⟩ := row_open hw hi
    have hil := (List.getElem?_eq_some_iff.1 hi).1
    have hg : w.heap[g]? = some (.cells (rows Fnd.cells out ++ rest).toArray T_audit_Finding (0, 0)) := hS.cells (i := i) (by simp [hil])
    have hsl : (sortF out).length = out.length := by simp [sortF]
    have hH : Sort.HoldsK Fnd.cells 2 w g 0 out.toArray := by
      intro j hj
      have hj' : j < out.length * 2 := by simpa using hj
      have hf := flat_rows Fnd.cells 2 fnd2 out
      have h5 : (Sort.flatK Fnd.cells 2 out.toArray)[j]? = (rows Fnd.cells out)[j]? := by rw [← hf, Array.getElem?_toList]
      have h6 : j < (rows Fnd.cells out).length := by rw [h1]; exact hj'
      rw [Array.getElem?_eq_getElem hj, List.getElem?_eq_getElem h6] at h5
      simp only [Option.some.injEq] at h5
      rw [getElem!_pos _ j hj, Nat.zero_add]
      refine ⟨?_, hS.frozen (i := i) (T := T_audit_Finding) (cs := rows Fnd.cells out ++ rest) (by simp [hil])⟩
      rw [h5]
      exact hS.cell (i := i) (T := T_audit_Finding) (cs := rows Fnd.cells out ++ rest) (by simp [hil]) (by rw [List.getElem?_append_left h6, List.getElem?_eq_getElem h6]; rfl)
    have eg : ∀ args w, (callFunc 16 args).run Try.prog w = .ok (.enter 16 args) w := enters_of Try.func16 (by kernel_rfl) rfl
    have aE : ∀ w, (isAgg 43).run Try.prog w = .ok true w := fun w => isAgg_run (cx.ok 43 _ rfl) w
    have zE : ∀ w, (Go.sizeOf 43).run Try.prog w = .ok 2 w := fun w => sizeOf_run (cx.ok 43 _ rfl) w
    have hT : ∀ x y, (ltOf cmpF) x y = false → (ltOf cmpF) y x = false → x = y := by
      intro x y h5 h6
      rw [cmpF_lt] at h5 h6
      simp only [decide_eq_false_iff_not] at h5 h6
      cases x; cases y; simp only at h5 h6
      congr 1 <;> omega
    refine (AnyQ.slices_SortFunc_total sortFinding 2 aE zE Fnd.cells fnd2 (fun x v hv => by simp at hv; rcases hv with rfl | rfl <;> rfl) cmpF swoF 16 #[] g 0 c out.toArray w eg (cmpLays g 0 _) hH (Array.getElem?_eq_some_iff.1 hg).1 (by simpa using hl) hT).mono ?_
    rintro e w' ⟨rfl, m, os, rfl⟩
    refine ⟨_, rfl, rfl, ?_⟩
    exact hw.sorted fnd2 hsl hi m os

end Go.Proofs.Ytkpbpjnabbfdiaa
