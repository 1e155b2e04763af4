/- How many bits a number has: what bits.OnesCount64 reckons is just that. -/
import Derived.Test.YtefahijlcmfpjaaTp
namespace Go.Proofs.Ytefahijlcmfpjaa
open Go Go.SE

def bit (x i : Nat) : Nat := if x.testBit i then 1 else 0
/-- how many of the first k bits are set -/
def popN (x : Nat) : Nat → Nat
  | 0 => 0
  | k + 1 => popN x k + bit x k
def pop (x : Nat) : Nat := popN x 64

/-- lanes of w bits each -/
def lanes (w : Nat) (f : Nat → Nat) : Nat → Nat
  | 0 => 0
  | p + 1 => f 0 + 2 ^ w * lanes w (fun j => f (j + 1)) p

theorem and_lane {w a b c d : Nat} (ha : a < 2 ^ w) (hc : c < 2 ^ w) : (a + 2 ^ w * b) &&& (c + 2 ^ w * d) = (a &&& c) + 2 ^ w * (b &&& d) := by
  apply Nat.eq_of_testBit_eq
  intro i
  have hac : a &&& c < 2 ^ w := Nat.and_lt_two_pow _ hc
  rw [Nat.testBit_and, Nat.add_comm a, Nat.add_comm c, Nat.add_comm (a &&& c), Nat.testBit_two_pow_mul_add _ ha, Nat.testBit_two_pow_mul_add _ hc, Nat.testBit_two_pow_mul_add _ hac]
  split
  · rw [Nat.testBit_and]
  · rw [Nat.testBit_and]
theorem lanes_and (w : Nat) : ∀ (p : Nat) (f g : Nat → Nat), (∀ j, f j < 2 ^ w) → (∀ j, g j < 2 ^ w) → lanes w f p &&& lanes w g p = lanes w (fun j => f j &&& g j) p := by
  intro p
  induction p with
  | zero => intro f g _ _; simp [lanes]
  | succ p ih =>
    intro f g hf hg
    simp only [lanes]
    rw [and_lane (hf 0) (hg 0), ih _ _ (fun j => hf _) (fun j => hg _)]
theorem lanes_add (w : Nat) : ∀ (p : Nat) (f g : Nat → Nat), lanes w f p + lanes w g p = lanes w (fun j => f j + g j) p := by
  intro p
  induction p with
  | zero => intro f g; rfl
  | succ p ih =>
    intro f g
    simp only [lanes]
    rw [← ih, Nat.mul_add]
    omega
theorem lanes_congr (w : Nat) : ∀ (p : Nat) (f g : Nat → Nat), (∀ j, j < p → f j = g j) → lanes w f p = lanes w g p := by
  intro p
  induction p with
  | zero => intro f g _; rfl
  | succ p ih =>
    intro f g h
    simp only [lanes]
    rw [h 0 (by omega), ih _ _ (fun j hj => h (j + 1) (by omega))]
/-- two lanes are one -/
theorem lanes_two (w : Nat) : ∀ (p : Nat) (f : Nat → Nat), lanes w f (2 * p) = lanes (2 * w) (fun j => f (2 * j) + 2 ^ w * f (2 * j + 1)) p := by
  intro p
  induction p with
  | zero => intro f; rfl
  | succ p ih =>
    intro f
    rw [show 2 * (p + 1) = 2 * p + 1 + 1 by omega]
    simp only [lanes]
    rw [ih]
    rw [show (2 : Nat) ^ (2 * w) = 2 ^ w * 2 ^ w by rw [← Nat.pow_add]; congr 1; omega]
    rw [Nat.mul_add, Nat.mul_assoc, Nat.add_assoc]
    congr 2
/-- a lane shifted out -/
theorem lanes_shift (w : Nat) (p : Nat) (f : Nat → Nat) (h : f 0 < 2 ^ w) : lanes w f (p + 1) >>> w = lanes w (fun j => f (j + 1)) p := by
  simp only [lanes]
  rw [Nat.shiftRight_eq_div_pow, Nat.add_mul_div_left _ _ (Nat.two_pow_pos w), Nat.div_eq_of_lt h, Nat.zero_add]
theorem lanes_last (w : Nat) : ∀ (p : Nat) (f : Nat → Nat), f p = 0 → lanes w f (p + 1) = lanes w f p := by
  intro p
  induction p with
  | zero => intro f h; simp [lanes, h]
  | succ p ih =>
    intro f h
    simp only [lanes] at ih ⊢
    have := ih (fun j => f (j + 1)) h
    rw [this]

theorem lanes_bits : ∀ (p x : Nat), x < 2 ^ p → lanes 1 (bit x) p = x := by
  intro p
  induction p with
  | zero => intro x h; simp at h; subst h; rfl
  | succ p ih =>
    intro x h
    simp only [lanes]
    have h1 : lanes 1 (fun j => bit x (j + 1)) p = x / 2 := by
      rw [← ih (x / 2) (by omega)]
      exact lanes_congr _ _ _ _ fun j _ => by simp [bit, Nat.testBit_succ]
    rw [h1]
    have : bit x 0 = x % 2 := by
      simp only [bit, Nat.testBit_zero]
      rcases Nat.mod_two_eq_zero_or_one x with h | h <;> simp [h]
    rw [this]; omega

/-- one step: neighbours added, lanes of 2w bits -/
theorem step (w p : Nat) (f : Nat → Nat) (h : ∀ j, f j < 2 ^ w) (hp : f (2 * p) = 0) :
    (lanes w f (2 * p) >>> w &&& lanes (2 * w) (fun _ => 2 ^ w - 1) p) + (lanes w f (2 * p) &&& lanes (2 * w) (fun _ => 2 ^ w - 1) p) = lanes (2 * w) (fun j => f (2 * j) + f (2 * j + 1)) p := by
  have e : (2 : Nat) ^ (2 * w) = 2 ^ w * 2 ^ w := by rw [← Nat.pow_add]; congr 1; omega
  have hw := Nat.two_pow_pos w
  have hlt : ∀ a b, a < 2 ^ w → b < 2 ^ w → a + 2 ^ w * b < 2 ^ (2 * w) := fun a b ha hb => by
    rw [e]
    have : 2 ^ w * (b + 1) ≤ 2 ^ w * 2 ^ w := Nat.mul_le_mul_left _ hb
    rw [Nat.mul_add] at this
    omega
  have hm : (2 ^ w - 1) < 2 ^ (2 * w) := by
    have := hlt (2 ^ w - 1) 0 (by omega) hw
    simpa using this
  have pick : ∀ a b, a < 2 ^ w → (a + 2 ^ w * b) &&& (2 ^ w - 1) = a := fun a b ha => by
    have := and_lane (w := w) (a := a) (b := b) (c := 2 ^ w - 1) (d := 0) ha (by omega)
    simp only [Nat.mul_zero, Nat.add_zero, Nat.and_zero] at this
    rw [this, Nat.and_two_pow_sub_one_of_lt_two_pow ha]
  have a1 : lanes w f (2 * p) &&& lanes (2 * w) (fun _ => 2 ^ w - 1) p = lanes (2 * w) (fun j => f (2 * j)) p := by
    rw [lanes_two, lanes_and _ _ _ _ (fun j => hlt _ _ (h _) (h _)) (fun _ => hm)]
    exact lanes_congr _ _ _ _ fun j _ => pick _ _ (h _)
  have a2 : lanes w f (2 * p) >>> w &&& lanes (2 * w) (fun _ => 2 ^ w - 1) p = lanes (2 * w) (fun j => f (2 * j + 1)) p := by
    have h1 : lanes w f (2 * p) >>> w = lanes w (fun j => f (j + 1)) (2 * p) := by
      rw [← lanes_last w (2 * p) f hp, lanes_shift _ _ _ (h 0)]
    rw [h1, lanes_two, lanes_and _ _ _ _ (fun j => hlt _ _ (h _) (h _)) (fun _ => hm)]
    exact lanes_congr _ _ _ _ fun j _ => pick _ _ (h _)
  rw [a1, a2, lanes_add]
  exact lanes_congr _ _ _ _ fun j _ => by omega

theorem ones (x : Nat) (hx : x < 18446744073709551616) :
    let x1 := (x >>> 1 &&& 6148914691236517205) + (x &&& 6148914691236517205)
    let x2 := (x1 >>> 2 &&& 3689348814741910323) + (x1 &&& 3689348814741910323)
    let x3 := (x2 >>> 4) + x2
    x1 < 18446744073709551616 ∧ x2 < 18446744073709551616 ∧ x3 < 18446744073709551616 ∧ ∃ f : Nat → Nat, (∀ j, f j ≤ 8) ∧ x3 &&& 1085102592571150095 = lanes 8 f 8 ∧ pop x = f 0 + f 1 + f 2 + f 3 + f 4 + f 5 + f 6 + f 7 := by
  intro x1 x2 x3
  let f0 : Nat → Nat := bit x
  have b0 : ∀ j, f0 j ≤ 1 := fun j => by simp only [f0, bit]; split <;> omega
  have z0 : f0 64 = 0 := by
    simp only [f0, bit]
    rw [Nat.testBit_lt_two_pow (i := 64) (by simpa using hx)]; rfl
  have z0' : ∀ j, 64 ≤ j → f0 j = 0 := fun j hj => by
    simp only [f0, bit]
    rw [Nat.testBit_lt_two_pow (i := j) (Nat.lt_of_lt_of_le (show x < 2 ^ 64 by simpa using hx) (Nat.pow_le_pow_right (by omega) hj))]; rfl
  let f1 : Nat → Nat := fun j => f0 (2 * j) + f0 (2 * j + 1)
  have b1 : ∀ j, f1 j ≤ 2 := fun j => by have := b0 (2 * j); have := b0 (2 * j + 1); simp only [f1]; omega
  let f2 : Nat → Nat := fun j => f1 (2 * j) + f1 (2 * j + 1)
  have b2 : ∀ j, f2 j ≤ 4 := fun j => by have := b1 (2 * j); have := b1 (2 * j + 1); simp only [f2]; omega
  let f3 : Nat → Nat := fun j => f2 (2 * j) + f2 (2 * j + 1)
  have b3 : ∀ j, f3 j ≤ 8 := fun j => by have := b2 (2 * j); have := b2 (2 * j + 1); simp only [f3]; omega
  have e0 : x = lanes 1 f0 64 := (lanes_bits 64 x (by simpa using hx)).symm
  have e1 : x1 = lanes 2 f1 32 := by
    have := step 1 32 f0 (fun j => by have := b0 j; omega) z0
    simp only [show 2 * 32 = 64 from rfl, ← e0] at this
    exact this
  have e2 : x2 = lanes 4 f2 16 := by
    have := step 2 16 f1 (fun j => by have := b1 j; omega) (by simp only [f1]; rw [z0' _ (by omega), z0' _ (by omega)])
    simp only [show 2 * 16 = 32 from rfl, ← e1] at this
    exact this
  have lt : ∀ (w p : Nat) (f : Nat → Nat), (∀ j, f j < 2 ^ w) → lanes w f p < 2 ^ (w * p) := by
    intro w p
    induction p with
    | zero => intro f _; simp [lanes]
    | succ p ih =>
      intro f h
      have h1 := ih (fun j => f (j + 1)) (fun j => h _)
      have h0 := h 0
      simp only [lanes]
      rw [Nat.mul_succ, Nat.pow_add]
      have : 2 ^ w * (lanes w (fun j => f (j + 1)) p + 1) ≤ 2 ^ w * 2 ^ (w * p) := Nat.mul_le_mul_left _ h1
      rw [Nat.mul_add, Nat.mul_comm (2 ^ w) (2 ^ (w * p))] at this
      omega
  have e3 : x3 = lanes 8 (fun j => (f2 (2 * j) + f2 (2 * j + 1)) + 2 ^ 4 * (f2 (2 * j + 1) + f2 (2 * j + 1 + 1))) 8 := by
    have h1 : x2 >>> 4 = lanes 4 (fun j => f2 (j + 1)) 16 := by
      rw [e2, ← lanes_last 4 16 f2 (by simp only [f2, f1]; rw [z0' _ (by omega), z0' _ (by omega), z0' _ (by omega), z0' _ (by omega)]), lanes_shift _ _ _ (by have := b2 0; omega)]
    show x2 >>> 4 + x2 = _
    rw [h1, e2, show 16 = 2 * 8 from rfl, lanes_two, lanes_two, lanes_add]
    exact lanes_congr _ _ _ _ fun j _ => by omega
  refine ⟨?_, ?_, ?_, f3, b3, ?_, ?_⟩
  · rw [e1]; exact lt 2 32 f1 (fun j => by have := b1 j; omega)
  · rw [e2]; exact lt 4 16 f2 (fun j => by have := b2 j; omega)
  · rw [e3]
    refine lt 8 8 _ (fun j => ?_)
    have := b2 (2 * j); have := b2 (2 * j + 1); have := b2 (2 * j + 1 + 1)
    omega
  · rw [e3, show (1085102592571150095 : Nat) = lanes 8 (fun _ => 2 ^ 4 - 1) 8 from rfl, lanes_and _ _ _ _ (fun j => by
      have := b2 (2 * j); have := b2 (2 * j + 1); have := b2 (2 * j + 1 + 1); omega) (fun _ => by decide)]
    refine lanes_congr _ _ _ _ fun j _ => ?_
    have h1 : f2 (2 * j) + f2 (2 * j + 1) < 2 ^ 4 := by have := b2 (2 * j); have := b2 (2 * j + 1); omega
    have := and_lane (w := 4) (a := f2 (2 * j) + f2 (2 * j + 1)) (b := f2 (2 * j + 1) + f2 (2 * j + 1 + 1)) (c := 2 ^ 4 - 1) (d := 0) h1 (by omega)
    simp only [Nat.mul_zero, Nat.add_zero, Nat.and_zero] at this
    rw [this, Nat.and_two_pow_sub_one_of_lt_two_pow h1]
  · simp only [pop, popN, f3, f2, f1, f0, Nat.reduceMul, Nat.reduceAdd]
    omega

end Go.Proofs.Ytefahijlcmfpjaa
