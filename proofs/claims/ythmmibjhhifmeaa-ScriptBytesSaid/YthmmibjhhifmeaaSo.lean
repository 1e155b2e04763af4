/- Bytes of commands, read again: the commands. -/
import Derived.Test.YthmmibjhhifmeaaSn
namespace Go.Proofs.Ythmmibjhhifmeaa
open Go Go.SE

variable {w0 : World} {l : List HP} {i : Nat} {r : Option (Nat × Nat)}

theorem foldl_num (bs : List Nat) : ∀ x, bs.foldl (fun n x => n * 256 + x) x = x * 256 ^ bs.length + num bs := by
  induction bs with
  | nil => intro x; simp [num]
  | cons b bs ih =>
    intro x
    rw [List.foldl_cons, ih, show num (b :: bs) = List.foldl (fun n x => n * 256 + x) (0 * 256 + b) bs from rfl, ih (0 * 256 + b), List.length_cons, Nat.pow_succ, Nat.add_mul, Nat.mul_assoc, Nat.mul_comm 256, Nat.zero_mul, Nat.zero_add, Nat.add_assoc]
theorem num_cons (x : Nat) (bs : List Nat) : num (x :: bs) = x * 256 ^ bs.length + num bs := by
  rw [num, List.foldl_cons, foldl_num]; simp
theorem num_be (n : Nat) : ∀ w, num (be n w) = n % 256 ^ w
  | 0 => by simp [be, num, Nat.mod_one]
  | w + 1 => by rw [be, num_cons, be_length, num_be n w, Nat.mod_pow_succ, Nat.mul_comm, Nat.add_comm]
theorem wM_some (op : Nat) : wM op = 0 ∨ wM op = 8 := by
  by_cases h : isOp op
  · exact ops (fun op => wM op = 0 ∨ wM op = 8) (by refine ⟨?_, ?_, ?_, ?_, ?_, ?_, ?_, ?_, ?_, ?_, ?_, ?_, ?_, ?_, ?_, ?_, ?_, ?_, ?_⟩ <;> decide) op h
  · simp [wM, sh_none op h]
theorem num_fits {x : Int} {w : Nat} (h : fitsN x w) : ((num (be x.toNat w) : Nat) : Int) = x := by
  obtain ⟨h1, h2⟩ := h
  obtain ⟨q, rfl⟩ := Int.eq_ofNat_of_zero_le h1
  have h2 : q < 2 ^ (8 * w) := by exact_mod_cast h2
  rw [num_be, Int.toNat_natCast, pow256, Nat.mod_eq_of_lt h2]
theorem dec_enc (c : Cmd) (hc : c.Ok) (hg : c.good) (rest : List Nat) : decOk (c.enc ++ rest) ∧ decN (c.enc ++ rest) = sizeOfOp c.op ∧ decC (c.enc ++ rest) = c := by
  obtain ⟨ho, hA, hB, hM⟩ := hg
  have hop : opOf (c.enc ++ rest) = c.op := rfl
  have hl : (c.enc ++ rest).length = sizeOfOp c.op + rest.length := by rw [List.length_append, enc_length]
  have hok : decOk (c.enc ++ rest) := ⟨ho, by rw [hop, hl]; omega⟩
  have h1 : 1 ≤ sizeOfOp c.op := by unfold sizeOfOp; omega
  refine ⟨hok, ?_, ?_⟩
  · rw [decN, if_neg (by omega), hop, if_pos ho, hl, Nat.min_eq_right (by omega)]
  · rw [decC, if_pos hok, hop]
    have e1 : (c.enc ++ rest).drop 1 = be c.a.toNat (wA c.op) ++ (be c.b.toNat (wB c.op) ++ (be c.m (wM c.op) ++ rest)) := by simp [Cmd.enc]
    rw [e1, List.take_left' (be_length _ _), List.drop_left' (be_length _ _), List.take_left' (be_length _ _), List.drop_left' (be_length _ _), List.take_left' (be_length _ _), num_fits hA, num_fits hB]
    have hm : num (be c.m (wM c.op)) = c.m := by
      rw [num_be]
      rcases wM_some c.op with h | h
      · rw [h]
        have : c.m = 0 := by rcases hM with h2 | h2 <;> omega
        rw [this]
      · rw [h]; exact Nat.mod_eq_of_lt hc.m
    rw [hm]

def encs (cs : List Cmd) : List Nat := (cs.map Cmd.enc).flatten
theorem encs_snoc (cs : List Cmd) (c : Cmd) : encs (cs ++ [c]) = encs cs ++ c.enc := by simp [encs]
theorem encs_cons (c : Cmd) (cs : List Cmd) : encs (c :: cs) = c.enc ++ encs cs := by simp [encs]
theorem size_le (op : Nat) : sizeOfOp op ≤ 17 := by have := w_le op; unfold sizeOfOp; omega
theorem encs_length (cs : List Cmd) : (encs cs).length ≤ 17 * cs.length := by
  induction cs with
  | nil => simp [encs]
  | cons c cs ih => rw [encs_cons, List.length_append, enc_length, List.length_cons]; have := size_le c.op; omega
theorem stepsI_encs : ∀ (cs : List Cmd) (pre : List Nat) (f : Nat), (∀ c ∈ cs, c.Ok ∧ c.good) → (encs cs).length ≤ f → (stepsI (pre ++ encs cs) f pre.length).map (fun s => (s.ok, s.cmd)) = cs.map fun c => (true, c)
  | [], pre, f, _, _ => by
    have : stepsI (pre ++ encs []) f pre.length = [] := by
      cases f with
      | zero => rfl
      | succ f => rw [stepsI, if_neg (by simp [encs])]
    rw [this]; rfl
  | c :: cs, pre, f, h, hf => by
    obtain ⟨hc, hg⟩ := h c (by simp)
    rw [encs_cons, List.length_append, enc_length] at hf
    have h1 : 1 ≤ sizeOfOp c.op := by unfold sizeOfOp; omega
    obtain ⟨f, rfl⟩ : ∃ g, f = g + 1 := ⟨f - 1, by omega⟩
    obtain ⟨d1, d2, d3⟩ := dec_enc c hc hg (encs cs)
    have ih := stepsI_encs cs (pre ++ c.enc) f (fun c h' => h c (by simp [h'])) (by omega)
    rw [List.append_assoc, List.length_append, enc_length] at ih
    rw [encs_cons, stepsI, if_pos (by simp [enc_length]; omega), List.drop_left, d2, d3, List.map_cons, List.map_cons, ih, decide_eq_true d1]
theorem steps_encs (cs : List Cmd) (h : ∀ c ∈ cs, c.Ok ∧ c.good) : (steps (encs cs)).map (fun s => (s.ok, s.cmd)) = cs.map fun c => (true, c) := by
  have := stepsI_encs cs [] (encs cs).length h (Nat.le_refl _)
  simpa [steps] using this

end Go.Proofs.Ythmmibjhhifmeaa
