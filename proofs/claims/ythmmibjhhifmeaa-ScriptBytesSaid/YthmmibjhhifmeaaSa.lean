/- Commands' shapes: what the program and the document say of them. -/
import Derived.Test.YthmmibjhhifmeaaNm
import Derived.Test.YthmmibjhhifmeaaSEh
namespace Go.Proofs.Ythmmibjhhifmeaa
open Go Go.SE

variable {w0 : World} {l : List HP}

abbrev ptr (b : Nat) : Value := .pointer (some ⟨b, 0, none⟩)
abbrev int (i : Int) : Value := .int .i64 i
abbrev u8 (x : Nat) : Value := .int .u8 (x : Int)

def shapeL : List (List UInt8 × Nat × Nat × Nat) := [([], 0, 0, 0),
  ([116, 105, 99, 107], 1, 0, 0),
  ([115, 112, 97, 119, 110], 4, 2, 8),
  ([98, 108, 111, 99, 107], 4, 0, 0),
  ([119, 97, 107, 101], 4, 0, 0),
  ([121, 105, 101, 108, 100], 4, 0, 0),
  ([101, 120, 105, 116], 4, 0, 0),
  ([119, 101, 105, 103, 104, 116], 4, 2, 0),
  ([109, 97, 115, 107], 4, 0, 8),
  ([109, 111, 118, 101], 4, 4, 0),
  ([111, 110, 108, 105, 110, 101], 1, 0, 0),
  ([111, 102, 102, 108, 105, 110, 101], 1, 0, 0),
  ([110, 101, 119, 103, 114, 111, 117, 112], 4, 2, 0),
  ([100, 114, 111, 112, 103, 114, 111, 117, 112], 4, 0, 0),
  ([103, 114, 111, 117, 112, 119, 101, 105, 103, 104, 116], 4, 2, 0),
  ([103, 114, 111, 117, 112, 109, 111, 118, 101], 4, 4, 0),
  ([116, 104, 114, 101, 97, 100], 4, 0, 0),
  ([99, 111, 114, 101], 1, 0, 0),
  ([103, 114, 111, 117, 112], 4, 0, 0),
  ([100, 111, 109, 97, 105, 110], 1, 0, 0)]
abbrev shapeC (x : List UInt8 × Nat × Nat × Nat) : List Value := [.string ⟨x.1.toArray⟩, int x.2.1, int x.2.2.1, int x.2.2.2]
def tab : List Value := (shapeL.map shapeC).flatten
def sh (op : Nat) : List UInt8 × Nat × Nat × Nat := shapeL.getD op ([], 0, 0, 0)
/-- an op's widths; none beyond the ops -/
def wA (op : Nat) : Nat := (sh op).2.1
def wB (op : Nat) : Nat := (sh op).2.2.1
def wM (op : Nat) : Nat := (sh op).2.2.2
def isOp (op : Nat) : Prop := 1 ≤ op ∧ op ≤ 19
instance (op : Nat) : Decidable (isOp op) := inferInstanceAs (Decidable (_ ∧ _))
def shapeOf (op : Nat) : List Value := shapeC (sh op)

theorem tab_length : tab.length = 80 := by decide
theorem ops (p : Nat → Prop) (h : p 1 ∧ p 2 ∧ p 3 ∧ p 4 ∧ p 5 ∧ p 6 ∧ p 7 ∧ p 8 ∧ p 9 ∧ p 10 ∧ p 11 ∧ p 12 ∧ p 13 ∧ p 14 ∧ p 15 ∧ p 16 ∧ p 17 ∧ p 18 ∧ p 19) (op : Nat) (ho : isOp op) : p op := by
  obtain ⟨h1, h2⟩ := ho
  obtain ⟨a1, a2, a3, a4, a5, a6, a7, a8, a9, b0, b1, b2, b3, b4, b5, b6, b7, b8, b9⟩ := h
  rcases (by omega : op = 1 ∨ op = 2 ∨ op = 3 ∨ op = 4 ∨ op = 5 ∨ op = 6 ∨ op = 7 ∨ op = 8 ∨ op = 9 ∨ op = 10 ∨ op = 11 ∨ op = 12 ∨ op = 13 ∨ op = 14 ∨ op = 15 ∨ op = 16 ∨ op = 17 ∨ op = 18 ∨ op = 19) with
    rfl | rfl | rfl | rfl | rfl | rfl | rfl | rfl | rfl | rfl | rfl | rfl | rfl | rfl | rfl | rfl | rfl | rfl | rfl <;> assumption
theorem shape_one (op : Nat) : (shapeOf op).all one = true := by simp [shapeOf, one]
theorem sh_none (op : Nat) (h : ¬ isOp op) : sh op = ([], 0, 0, 0) := by
  unfold isOp at h
  rcases (by omega : op = 0 ∨ 20 ≤ op) with rfl | h1
  · rfl
  · rw [sh, List.getD_eq_getElem?_getD, List.getElem?_eq_none (by exact h1)]; rfl
theorem w_le (op : Nat) : wA op ≤ 4 ∧ wB op ≤ 4 ∧ wM op ≤ 8 := by
  by_cases h : isOp op
  · exact ops (fun op => wA op ≤ 4 ∧ wB op ≤ 4 ∧ wM op ≤ 8) (by refine ⟨?_, ?_, ?_, ?_, ?_, ?_, ?_, ?_, ?_, ?_, ?_, ?_, ?_, ?_, ?_, ?_, ?_, ?_, ?_⟩ <;> decide) op h
  · simp [wA, wB, wM, sh_none op h]
theorem w_some (op : Nat) : (wA op = 0 ∨ wA op = 1 ∨ wA op = 2 ∨ wA op = 4) ∧ (wB op = 0 ∨ wB op = 1 ∨ wB op = 2 ∨ wB op = 4) := by
  by_cases h : isOp op
  · exact ops (fun op => (wA op = 0 ∨ wA op = 1 ∨ wA op = 2 ∨ wA op = 4) ∧ (wB op = 0 ∨ wB op = 1 ∨ wB op = 2 ∨ wB op = 4)) (by refine ⟨?_, ?_, ?_, ?_, ?_, ?_, ?_, ?_, ?_, ?_, ?_, ?_, ?_, ?_, ?_, ?_, ?_, ?_, ?_⟩ <;> decide) op h
  · simp [wA, wB, sh_none op h]
theorem tab_at (op : Nat) (h : isOp op) : cellsAt tab (op * 4) 4 = shapeOf op := by
  refine ops (fun op => cellsAt tab (op * 4) 4 = shapeOf op) ?_ op h
  exact ⟨rfl, rfl, rfl, rfl, rfl, rfl, rfl, rfl, rfl, rfl, rfl, rfl, rfl, rfl, rfl, rfl, rfl, rfl, rfl⟩

theorem shapes_any : Does cx F_code_shapes [] (S w0 l) fun v w => v = .agg tab.toArray ∧ S w0 l w := by
  refine fn_enter (n := N_code_shapes) fn_code_shapes rfl rfl rfl ?_
  refine ej_seq (ej_region (el_cons rfl (eo_alloc rfl rfl rfl rfl fun b => ?_)))
  (repeat (first | refine el_pure rfl rfl rfl rfl ?_ | refine ej_seq ?_ | refine ej_region ?_ | refine el_nil ?_ | refine eq_seq ?_ | refine eq_calm ?_ | refine ej_true rfl ?_ | refine ej_false rfl ?_ | refine el_skip rfl rfl rfl ?_ | refine ej_ret ?_ | refine ej_skip ?_ | refine ej_exit ?_ | refine ej_block ?_ | refine eq_seq_ret ?_ | refine eq_seq_exit ?_ | refine eq_block ?_ | refine eq_block_exit ?_ | refine eq_block_ret ?_ | refine eq_block_exit_ne rfl ?_ | refine eq_back_ret ?_ | refine eq_back_exit ?_))
  iterate 19 refine el_cons rfl (eo_build rfl rfl rfl rfl rfl rfl rfl rfl ?_)
  refine el_cons rfl (eo_buildA (cs := tab) rfl rfl rfl rfl rfl rfl rfl (by kernel_rfl) ?_)
  refine el_cons rfl (eo_stA 0 rfl rfl rfl rfl rfl tab_length (by kernel_rfl) rfl rfl ?_)
  (repeat (first | refine el_pure rfl rfl rfl rfl ?_ | refine ej_seq ?_ | refine ej_region ?_ | refine el_nil ?_ | refine eq_seq ?_ | refine eq_calm ?_ | refine ej_true rfl ?_ | refine ej_false rfl ?_ | refine el_skip rfl rfl rfl ?_ | refine ej_ret ?_ | refine ej_skip ?_ | refine ej_exit ?_ | refine ej_block ?_ | refine eq_seq_ret ?_ | refine eq_seq_exit ?_ | refine eq_block ?_ | refine eq_block_exit ?_ | refine eq_block_ret ?_ | refine eq_block_exit_ne rfl ?_ | refine eq_back_ret ?_ | refine eq_back_exit ?_))
  exact eq_ret _ (rvs_cell 0 rfl rfl rfl rfl tab_length rvs_nil) fun w hw => ⟨rfl, hw.drop 1⟩

end Go.Proofs.Ythmmibjhhifmeaa
