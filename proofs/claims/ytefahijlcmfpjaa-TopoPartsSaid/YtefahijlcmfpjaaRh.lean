/- THE PLAIN LAW: the program's topologies and the document's, side by side. No program in sight. -/
import Derived.Test.YtefahijlcmfpjaaRg
namespace Go.Proofs.Ytefahijlcmfpjaa
open Go Go.SE

theorem has_bit {s k : Nat} (hk : k < 64) : has s (k : Int) = s.testBit k := by
  have : core (k : Int) := ⟨by omega, by omega⟩
  simp [has, this]
theorem has_core {s : Nat} {c : Int} (h : has s c = true) : core c := by
  unfold has at h; simp only [Bool.and_eq_true, decide_eq_true_eq] at h; exact h.1
theorem core_nat {c : Int} (h : core c) : ∃ k : Nat, k < 64 ∧ c = k := ⟨c.toNat, by unfold core at h; omega, by unfold core at h; omega⟩

theorem idx_neg {doms : List Nat} {c : Int} : idxOf doms c < 0 ↔ ∀ m ∈ doms, has m c = false := by
  unfold idxOf
  split
  · rename_i i hi
    rw [List.findIdx?_eq_some_iff_getElem] at hi
    obtain ⟨h1, h2, _⟩ := hi
    constructor
    · intro h; omega
    · intro h; rw [h _ (List.getElem_mem h1)] at h2; cases h2
  · rename_i hi
    rw [List.findIdx?_eq_none_iff] at hi
    exact ⟨fun _ => hi, fun _ => by decide⟩
theorem idx_pos {doms : List Nat} {c : Int} (h : ¬ idxOf doms c < 0) : ∃ d : Nat, idxOf doms c = d ∧ d < doms.length ∧ has (doms.getD d 0) c = true := by
  unfold idxOf at *
  split at h
  · rename_i i hi
    rw [List.findIdx?_eq_some_iff_getElem] at hi
    obtain ⟨h1, h2, _⟩ := hi
    refine ⟨i, rfl, h1, ?_⟩
    rw [List.getD_eq_getElem?_getD, List.getElem?_eq_getElem h1]; exact h2
  · exact absurd (by decide) h
theorem idx_snoc (doms : List Nat) (m : Nat) (c : Int) : idxOf (doms ++ [m]) c = if idxOf doms c < 0 then (if has m c then (doms.length : Int) else -1) else idxOf doms c := by
  unfold idxOf
  rw [List.findIdx?_append]
  cases h : doms.findIdx? (has · c) with
  | none =>
    simp only [Option.none_or]
    by_cases hm : has m c <;> simp [List.findIdx?_cons, hm]
  | some i =>
    simp only [Option.some_or]
    rw [if_neg (by omega)]

theorem ext64 {xs ys : List Bool} (hx : xs.length = 64) (hy : ys.length = 64) (h : ∀ k, k < 64 → xs.getD k false = ys.getD k false) : xs = ys := by
  apply List.ext_getElem (by omega)
  intro k h1 h2
  have := h k (by omega)
  simpa [List.getD_eq_getElem?_getD, h1, h2] using this
theorem bitsL_getD (n : Nat) {k : Nat} (hk : k < 64) : (bitsL n).getD k false = n.testBit k := by
  rw [List.getD_eq_getElem?_getD, List.getElem?_eq_getElem (by rw [bitsL_length]; exact hk), bitsL_get]; rfl
theorem falses_getD (k : Nat) : falses.getD k false = false := by
  simp only [falses, List.getD_eq_getElem?_getD, List.getElem?_replicate]; split <;> rfl
theorem falses_bits : falses = bitsL 0 := ext64 falses_length (bitsL_length 0) fun k hk => by rw [falses_getD, bitsL_getD 0 hk]; simp
theorem bitsL_inj {a b : Nat} (ha : a < 18446744073709551616) (hb : b < 18446744073709551616) (h : bitsL a = bitsL b) : a = b := by rw [← num_bitsL a ha, ← num_bitsL b hb, h]
theorem both_getD (xs ys : List Bool) {k : Nat} (hx : xs.length = 64) (hy : ys.length = 64) (hk : k < 64) : (both xs ys).getD k false = (xs.getD k false && ys.getD k false) := by
  have h1 : k < xs.length := by omega
  have h2 : k < ys.length := by omega
  rw [List.getD_eq_getElem?_getD, both, List.getElem?_eq_getElem (by simp; omega), List.getElem_zipWith]
  simp [List.getD_eq_getElem?_getD, h1, h2]
theorem both_bits (a b : Nat) : both (bitsL a) (bitsL b) = bitsL (a &&& b) :=
  ext64 (both_length _ _ (bitsL_length a) (bitsL_length b)) (bitsL_length _) fun k hk => by
    rw [both_getD _ _ (bitsL_length a) (bitsL_length b) hk, bitsL_getD _ hk, bitsL_getD _ hk, bitsL_getD _ hk, Nat.testBit_and]
theorem and_lt {a b : Nat} (h : a < 18446744073709551616) : a &&& b < 18446744073709551616 := Nat.lt_of_le_of_lt Nat.and_le_left h
theorem both_none {a b : Nat} (h : a < 18446744073709551616) : both (bitsL a) (bitsL b) = falses ↔ a &&& b = 0 := by
  rw [both_bits, falses_bits]
  exact ⟨fun e => bitsL_inj (and_lt h) (by decide) e, fun e => by rw [e]⟩
theorem coresTo_pop (m : Nat) : ∀ k, k ≤ 64 → (coresTo (bitsL m) k).length = popN m k
  | 0, _ => rfl
  | k + 1, h => by
    simp only [coresTo, popN, List.length_append, coresTo_pop m k (by omega), bitsL_getD m (show k < 64 by omega)]
    congr 1
    unfold bit
    split <;> rfl
theorem coresL_pop (m : Nat) : (coresL (bitsL m)).length = pop m := coresTo_pop m 64 (Nat.le_refl _)
theorem bit_lt {m k : Nat} (hm : m < 18446744073709551616) (h : m.testBit k = true) : k < 64 := by
  rcases Nat.lt_or_ge k 64 with hk | hk
  · exact hk
  · rw [Nat.testBit_lt_two_pow (Nat.lt_of_lt_of_le hm (Nat.pow_le_pow_right (show 0 < 2 by decide) hk))] at h; cases h
theorem some_bit {m : Nat} (hm : m < 18446744073709551616) (h : m ≠ 0) : ∃ k, k < 64 ∧ m.testBit k = true := by
  obtain ⟨k, hk⟩ := Nat.exists_testBit_of_ne_zero h
  exact ⟨k, bit_lt hm hk, hk⟩
theorem bit_ne {m k : Nat} (h : m.testBit k = true) : m ≠ 0 := by rintro rfl; simp at h
theorem popN_one {m c : Nat} (hc : m.testBit c = true) (h : ∀ k, m.testBit k = true → k = c) : ∀ k, popN m k = if c < k then 1 else 0
  | 0 => by simp [popN]
  | k + 1 => by
    rw [popN, popN_one hc h k]
    have hb : bit m k = if k = c then 1 else 0 := by
      unfold bit
      by_cases e : k = c
      · subst e
        rw [if_pos rfl, if_pos hc]
      · rw [if_neg e, if_neg (fun h' => e (h k h'))]
    rw [hb]
    split <;> split <;> split <;> omega
theorem pop_one {m c : Nat} (hm : m < 18446744073709551616) (hc : m.testBit c = true) (h : pop m ≠ 1) : ∃ k, k < 64 ∧ k ≠ c ∧ m.testBit k = true := by
  apply Classical.byContradiction
  intro hno
  apply h
  rw [pop, popN_one hc (fun k hk => ?_), if_pos (bit_lt hm hc)]
  apply Classical.byContradiction
  intro hne
  exact hno ⟨k, bit_lt hm hk, hne, hk⟩
theorem with_bit {s : Nat} {c : Int} (hc : core c) (k : Nat) : (withC s c).testBit k = (s.testBit k || decide (k = c.toNat)) := by
  rw [withC, if_pos hc, Nat.testBit_or, Nat.testBit_two_pow]
  congr 1; apply decide_eq_decide.2; exact eq_comm
theorem ones_bit {k : Nat} (hk : k < 64) : (18446744073709551615 : Nat).testBit k = true := by
  rw [show (18446744073709551615 : Nat) = 2 ^ 64 - 1 by decide, Nat.testBit_two_pow_sub_one]; simpa using hk
theorem without_bit {s : Nat} {c : Int} (hc : core c) {k : Nat} (hk : k < 64) : (withoutC s c).testBit k = (s.testBit k && !decide (k = c.toNat)) := by
  rw [withoutC, if_pos hc, Nat.testBit_and, Nat.testBit_xor, ones_bit hk, Nat.testBit_two_pow]
  congr 1
  by_cases e : k = c.toNat
  · simp [e]
  · simp [e, Ne.symm e]

/-- they say the same -/
structure Rel (T : Topo) (t : RT) : Prop where
  okT : T.Ok
  okR : t.Ok
  many : t.many = T.doms.length
  dom : ∀ k : Nat, k < 64 → t.doms.getD k 0 = idxOf T.doms (k : Int)
  on : ∀ k : Nat, k < 64 → t.on.getD k false = T.on.testBit k
  one : ∀ d k : Nat, k < 64 → d < T.doms.length → (T.doms.getD d 0).testBit k = true → idxOf T.doms (k : Int) = d
  live : ∀ d : Nat, d < T.doms.length → T.doms.getD d 0 &&& T.on ≠ 0
  sub : ∀ k : Nat, k < 64 → T.on.testBit k = true → ¬ idxOf T.doms (k : Int) < 0

variable {T : Topo} {t : RT}
theorem not_core {c : Int} (h : ¬ core c) : T.idx c < 0 := by
  rw [Topo.idx, idx_neg]
  intro m _
  simp [has, h]
theorem Rel.there (h : Rel T t) (d : Int) : t.there d ↔ T.there d := by
  unfold RT.there Topo.there; rw [h.many]
theorem Rel.domIff (h : Rel T t) (c : Int) : (core c ∧ 0 ≤ t.doms.getD c.toNat 0) ↔ ¬ T.idx c < 0 := by
  by_cases hc : core c
  · obtain ⟨k, hk, rfl⟩ := core_nat hc
    rw [show ((k : Int)).toNat = k from rfl, h.dom k hk, Topo.idx]
    constructor
    · rintro ⟨_, h⟩; omega
    · intro h; exact ⟨hc, by omega⟩
  · have := not_core (T := T) hc
    constructor
    · intro h; exact absurd h.1 hc
    · intro h; exact absurd this h
theorem Rel.domE (h : Rel T t) (c : Int) : t.domE c = T.ofE c := by
  unfold RT.domE Topo.ofE
  by_cases hi : T.idx c < 0
  · rw [if_neg (fun h' => (h.domIff c).1 h' hi), if_pos hi]
  · rw [if_pos ((h.domIff c).2 hi), if_neg hi]
theorem Rel.domV (h : Rel T t) (c : Int) : t.dom c = T.of c := by
  unfold RT.dom Topo.of
  by_cases hi : T.idx c < 0
  · rw [if_neg (fun h' => (h.domIff c).1 h' hi), if_pos hi]
  · have := (h.domIff c).2 hi
    rw [if_pos this, if_neg hi]
    obtain ⟨k, hk, rfl⟩ := core_nat this.1
    exact h.dom k hk
theorem Rel.onV (h : Rel T t) {c : Int} (hc : core c) : t.on.getD c.toNat false = has T.on c := by
  obtain ⟨k, hk, rfl⟩ := core_nat hc
  rw [has_bit hk]; exact h.on k hk
theorem coresS_getD (h : t.Ok) (d : Int) (on : Bool) {k : Nat} (hk : k < 64) : (t.coresS d on).getD k false = (decide (t.doms.getD k 0 = d) && (!on || t.on.getD k false)) := by
  have h1 : k < t.doms.length := by rw [h.doms]; exact hk
  have h2 : k < t.on.length := by rw [h.on]; exact hk
  rw [List.getD_eq_getElem?_getD, RT.coresS, List.getElem?_eq_getElem (by simp; omega), List.getElem_zipWith]
  simp [List.getD_eq_getElem?_getD, h1, h2]
theorem Rel.bitDom (h : Rel T t) {d k : Nat} (hk : k < 64) (hd : d < T.doms.length) : decide (t.doms.getD k 0 = (d : Int)) = (T.doms.getD d 0).testBit k := by
  rw [h.dom k hk]
  cases hb : (T.doms.getD d 0).testBit k with
  | true => rw [h.one d k hk hd hb]; simp
  | false =>
    rw [decide_eq_false_iff_not]
    intro e
    obtain ⟨d', h1, h2, h3⟩ := idx_pos (doms := T.doms) (c := (k : Int)) (by omega)
    obtain rfl : d' = d := by omega
    rw [has_bit hk, hb] at h3; cases h3
theorem Rel.cores (h : Rel T t) (d : Int) (on : Bool) : t.cores d on = bitsL (if on then T.online d else T.cores d) := by
  refine ext64 (h.okR.cores d on) (bitsL_length _) fun k hk => ?_
  rw [bitsL_getD _ hk]
  unfold RT.cores
  by_cases ht : T.there d
  · rw [if_pos ((h.there d).2 ht), coresS_getD h.okR d on hk, h.on k hk]
    have hdl : d.toNat < T.doms.length := by unfold Topo.there at ht; omega
    have e : d = (d.toNat : Int) := by unfold Topo.there at ht; omega
    have hb := h.bitDom hk hdl
    rw [← e] at hb
    rw [hb]
    cases on
    · simp [Topo.cores, ht]
    · simp [Topo.online, Topo.cores, ht]
  · rw [if_neg (fun h' => ht ((h.there d).1 h')), falses_getD]
    cases on <;> simp [Topo.online, Topo.cores, ht]
theorem Rel.coresE (h : Rel T t) (d : Int) : t.coresE d = T.coresE d := by
  unfold RT.coresE Topo.coresE
  by_cases ht : T.there d
  · rw [if_pos ((h.there d).2 ht), if_pos ht]
  · rw [if_neg (fun h' => ht ((h.there d).1 h')), if_neg ht]
theorem Rel.upE (h : Rel T t) (c : Int) : t.upE c = T.upE c := by
  unfold RT.upE Topo.upE
  rw [h.domE c]
  unfold Topo.ofE
  by_cases hi : T.idx c < 0
  · simp [hi]
  · simp only [if_neg hi, ne_eq, not_true, if_false]
    rw [h.onV ((h.domIff c).2 hi).1]
theorem Rel.up (h : Rel T t) (c : Int) : Rel (T.up c) (t.up c) := by
  unfold RT.up
  rw [h.upE c]
  unfold Topo.up Topo.upE
  by_cases hi : T.idx c < 0
  · simpa [hi] using h
  · have hc := ((h.domIff c).2 hi).1
    by_cases ho : has T.on c = true
    · simpa [hi, ho] using h
    · simp only [if_neg hi, if_neg ho, if_true]
      refine ⟨⟨h.okT.doms, withC_lt c h.okT.on, h.okT.few⟩, ⟨h.okR.doms, by simp [h.okR.on]⟩, h.many, h.dom, fun k hk => ?_, h.one, fun d hd => ?_, fun k hk hb => ?_⟩
      · rw [with_bit hc, ← h.on k hk]
        have hkl : k < t.on.length := by rw [h.okR.on]; exact hk
        simp only [List.getD_eq_getElem?_getD, List.getElem?_set]
        by_cases e : c.toNat = k
        · subst e; simp [hkl]
        · simp [e, Ne.symm e]
      · obtain ⟨k, hk, hb⟩ := some_bit (and_lt (b := T.on) (by
          have := h.okT.cores d
          simpa [Topo.cores, Topo.there, hd] using this)) (h.live d hd)
        rw [Nat.testBit_and, Bool.and_eq_true] at hb
        refine bit_ne (k := k) ?_
        rw [Nat.testBit_and, with_bit hc, hb.1, hb.2]; rfl
      · rw [with_bit hc, Bool.or_eq_true] at hb
        rcases hb with hb | hb
        · exact h.sub k hk hb
        · rw [decide_eq_true_eq] at hb
          obtain ⟨q, hq, rfl⟩ := core_nat hc
          obtain rfl : k = q := hb
          exact hi

end Go.Proofs.Ytefahijlcmfpjaa
