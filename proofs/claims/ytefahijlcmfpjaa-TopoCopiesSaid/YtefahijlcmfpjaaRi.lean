/- THE PLAIN LAW, on: cores off; masks; a new topology. -/
import Derived.Test.YtefahijlcmfpjaaRh
namespace Go.Proofs.Ytefahijlcmfpjaa
open Go Go.SE

variable {T : Topo} {t : RT}

theorem Rel.lt (h : Rel T t) (d : Nat) : T.doms.getD d 0 < 18446744073709551616 := by
  have := h.okT.cores d
  by_cases hd : d < T.doms.length
  · simpa [Topo.cores, Topo.there, hd] using this
  · simp [List.getD_eq_getElem?_getD, hd]
theorem Rel.idx (_h : Rel T t) {c : Int} (hi : ¬ T.idx c < 0) : ∃ d k : Nat, T.idx c = d ∧ c = k ∧ k < 64 ∧ d < T.doms.length ∧ (T.doms.getD d 0).testBit k = true ∧ T.online (T.idx c) = T.doms.getD d 0 &&& T.on := by
  obtain ⟨d, h1, h2, h3⟩ := idx_pos hi
  obtain ⟨k, hk, rfl⟩ := core_nat (has_core h3)
  have h1 : T.idx k = d := h1
  refine ⟨d, k, h1, rfl, hk, h2, by rw [← has_bit hk]; exact h3, ?_⟩
  rw [h1]
  simp [Topo.online, Topo.cores, Topo.there, h2]
theorem Rel.downE (h : Rel T t) (c : Int) : t.downE c = T.downE c := by
  unfold RT.downE Topo.downE
  rw [h.domE c]
  unfold Topo.ofE
  by_cases hi : T.idx c < 0
  · simp [hi]
  · obtain ⟨d, k, h1, rfl, hk, hd, hb, ho⟩ := h.idx hi
    simp only [if_neg hi, ne_eq, not_true, if_false]
    rw [h.domV, Topo.of, if_neg hi, h.cores, if_pos rfl, coresL_pop, ho, has_bit hk, show ((k : Int)).toNat = k from rfl, h.on k hk, Nat.testBit_and, hb, Bool.true_and]
theorem Rel.down (h : Rel T t) (c : Int) : Rel (T.down c) (t.down c) := by
  unfold RT.down Topo.down
  rw [h.downE c]
  by_cases h0 : T.downE c = 0
  · rw [if_pos h0, if_pos h0]
    unfold Topo.downE at h0
    by_cases hi : T.idx c < 0
    · rw [if_pos hi] at h0; cases h0
    rw [if_neg hi] at h0
    obtain ⟨d, k, h1, rfl, hk, hd, hb, ho⟩ := h.idx hi
    have hc : core (k : Int) := ⟨by omega, by omega⟩
    rw [ho, has_bit hk] at h0
    cases hbo : (T.doms.getD d 0 &&& T.on).testBit k with
    | false => rw [hbo] at h0; simp at h0
    | true =>
      rw [hbo] at h0
      have hp : pop (T.doms.getD d 0 &&& T.on) ≠ 1 := fun hp => by rw [hp] at h0; simp at h0
      have keep : ∀ q, q < 64 → q ≠ k → T.on.testBit q = true → (withoutC T.on (k : Int)).testBit q = true := fun q hq hqk hon => by
        rw [without_bit hc hq, hon]; simp [hqk]
      refine ⟨⟨h.okT.doms, withoutC_lt _ h.okT.on, h.okT.few⟩, ⟨h.okR.doms, by simp [h.okR.on]⟩, h.many, h.dom, fun q hq => ?_, h.one, fun d' hd' => ?_, fun q hq hb' => ?_⟩
      · rw [without_bit hc hq, ← h.on q hq]
        have hql : q < t.on.length := by rw [h.okR.on]; exact hq
        simp only [List.getD_eq_getElem?_getD, List.getElem?_set]
        by_cases e : k = q
        · subst e; simp [hql]
        · simp [e, Ne.symm e]
      · by_cases e : d' = d
        · subst e
          obtain ⟨q, hq, hqk, hqb⟩ := pop_one (and_lt (h.lt d')) hbo hp
          rw [Nat.testBit_and, Bool.and_eq_true] at hqb
          refine bit_ne (k := q) ?_
          rw [Nat.testBit_and, hqb.1, keep q hq hqk hqb.2]; rfl
        · obtain ⟨q, hq, hqb⟩ := some_bit (and_lt (h.lt d')) (h.live d' hd')
          rw [Nat.testBit_and, Bool.and_eq_true] at hqb
          have hqk : q ≠ k := by
            rintro rfl
            have a1 := h.one d q hk hd hb
            have a2 := h.one d' q hk hd' hqb.1
            omega
          refine bit_ne (k := q) ?_
          rw [Nat.testBit_and, hqb.1, keep q hq hqk hqb.2]; rfl
      · rw [without_bit hc hq, Bool.and_eq_true] at hb'
        exact h.sub q hq hb'.1
  · rw [if_neg h0, if_neg h0]; exact h

theorem Rel.checkE (h : Rel T t) (d : Int) (s : Nat) : t.checkE d (bitsL s) = T.checkE d s := by
  unfold RT.checkE Topo.checkE
  rw [h.coresE, h.cores d false]
  simp only [Bool.false_eq_true, if_false, both_none (h.okT.cores d)]
theorem Rel.eff (h : Rel T t) (d : Int) (s : Nat) : t.eff d (bitsL s) = bitsL (T.eff d s) := by
  unfold RT.eff Topo.eff
  rw [h.checkE, h.cores d true]
  simp only [if_true, both_none (h.okT.online d)]
  by_cases h1 : T.checkE d s ≠ 0
  · simp only [if_pos h1, falses_bits]
  · simp only [if_neg h1]
    split
    · rfl
    · exact both_bits _ _

/-! ### A new one -/
theorem mark_dom (d : Nat) (s : List Bool) (t : RT) (ht : t.Ok) (k : Nat) (hk : k < 64) : ∀ c, (mark d s t c).doms.getD k 0 = if k < c ∧ s.getD k false = true then (d : Int) else t.doms.getD k 0
  | 0 => by simp [mark]
  | c + 1 => by
    have ih := mark_dom d s t ht k hk c
    have hl : k < (mark d s t c).doms.length := by rw [(mark_ok ht c).doms]; exact hk
    rw [mark, mark1]
    by_cases hs : s.getD c false = true
    · rw [if_pos hs]
      by_cases e : k = c
      · subst e
        rw [if_pos ⟨by omega, hs⟩]
        simp [List.getD_eq_getElem?_getD, hl]
      · have : ((mark d s t c).doms.set c (d : Int)).getD k 0 = (mark d s t c).doms.getD k 0 := by
          simp [List.getD_eq_getElem?_getD, Ne.symm e]
        rw [this, ih]
        congr 1; simp only [eq_iff_iff]; constructor <;> (rintro ⟨h1, h2⟩; exact ⟨by omega, h2⟩)
    · rw [if_neg hs, ih]
      congr 1; simp only [eq_iff_iff]; constructor
      · rintro ⟨h1, h2⟩; exact ⟨by omega, h2⟩
      · rintro ⟨h1, h2⟩; refine ⟨?_, h2⟩
        rcases Nat.lt_succ_iff_lt_or_eq.1 h1 with h | rfl
        · exact h
        · exact absurd h2 hs
theorem mark_on (d : Nat) (s : List Bool) (t : RT) (ht : t.Ok) (k : Nat) (hk : k < 64) : ∀ c, (mark d s t c).on.getD k false = (t.on.getD k false || (decide (k < c) && s.getD k false))
  | 0 => by simp [mark]
  | c + 1 => by
    have ih := mark_on d s t ht k hk c
    have hl : k < (mark d s t c).on.length := by rw [(mark_ok ht c).on]; exact hk
    rw [mark, mark1]
    by_cases hs : s.getD c false = true
    · rw [if_pos hs]
      by_cases e : k = c
      · subst e
        rw [hs]
        simp [List.getD_eq_getElem?_getD, hl]
      · have : ((mark d s t c).on.set c true).getD k false = (mark d s t c).on.getD k false := by
          simp [List.getD_eq_getElem?_getD, Ne.symm e]
        rw [this, ih, show decide (k < c + 1) = decide (k < c) from decide_eq_decide.2 (by omega)]
    · rw [if_neg hs, ih]
      by_cases e : k = c
      · subst e
        rw [Bool.not_eq_true] at hs
        rw [hs]; simp
      · rw [show decide (k < c + 1) = decide (k < c) from decide_eq_decide.2 (by omega)]
theorem mark_many (d : Nat) (s : List Bool) (t : RT) : ∀ c, (mark d s t c).many = t.many
  | 0 => rfl
  | c + 1 => by
    rw [mark, mark1]
    split
    · exact mark_many d s t c
    · exact mark_many d s t c
theorem any1_iff (s : List Bool) : ∀ c, any1 s c = true ↔ ∃ k, k < c ∧ s.getD k false = true
  | 0 => by simp [any1]
  | c + 1 => by
    rw [any1, Bool.or_eq_true, any1_iff s c]
    constructor
    · rintro (h | ⟨k, hk, h⟩)
      · exact ⟨c, by omega, h⟩
      · exact ⟨k, by omega, h⟩
    · rintro ⟨k, hk, h⟩
      rcases Nat.lt_succ_iff_lt_or_eq.1 hk with hk | rfl
      · exact .inr ⟨k, hk, h⟩
      · exact .inl h

theorem bitsLs_getD (xs : List Nat) (d : Nat) (h : d < xs.length) : (bitsLs xs).getD d [] = bitsL (xs.getD d 0) := by
  simp [List.getD_eq_getElem?_getD, h]

/-- after d domains -/
structure Up (xs : List Nat) (d : Nat) : Prop where
  dom : ∀ k : Nat, k < 64 → (domsTo (bitsLs xs) d).doms.getD k 0 = idxOf (xs.take d) (k : Int)
  on : ∀ k : Nat, k < 64 → (domsTo (bitsLs xs) d).on.getD k false = (orTo xs d).testBit k
  or : ∀ k : Nat, k < 64 → ((orTo xs d).testBit k = true ↔ ¬ idxOf (xs.take d) (k : Int) < 0)

theorem wipe_get {c k : Nat} (h : k < c) : (wipe c).getD k 0 = -1 := by
  rw [wipe, List.getD_eq_getElem?_getD, List.getElem?_append_left (by simpa using h), List.getElem?_replicate, if_pos h]; rfl
theorem up_zero (xs : List Nat) : Up xs 0 := by
  refine ⟨fun k hk => ?_, fun k hk => ?_, fun k hk => ?_⟩
  · have : (wipe 64).getD k 0 = -1 := wipe_get hk
    rw [show (domsTo (bitsLs xs) 0).doms = wipe 64 from rfl, this]; simp [idxOf]
  · rw [show (domsTo (bitsLs xs) 0).on = falses from rfl, falses_getD]; simp [orTo]
  · simp [orTo, idxOf]

variable {xs : List Nat} {d : Nat}
theorem bad_iff (hm : ∀ m ∈ xs, m < 18446744073709551616) (hd : d < xs.length) (h : Up xs d) : badD (bitsLs xs) d ↔ badM xs d := by
  have hx : xs.getD d 0 < 18446744073709551616 := hm _ (List.mem_of_getElem? (by rw [List.getD_eq_getElem?_getD, List.getElem?_eq_getElem hd]; rfl))
  unfold badD badM
  rw [bitsLs_getD xs d hd]
  have hcl : ∀ c, c < 64 → clash d (bitsL (xs.getD d 0)) (domsTo (bitsLs xs) d) c = ((xs.getD d 0).testBit c && (orTo xs d).testBit c) := fun c hc => by
    rw [clash, mark_dom _ _ _ (domsTo_ok _ _) c hc, if_neg (by simp), h.dom c hc, bitsL_getD _ hc]
    congr 1
    have := h.or c hc
    cases hb : (orTo xs d).testBit c with
    | true => rw [decide_eq_true_iff]; have := this.1 hb; omega
    | false =>
      rw [decide_eq_false_iff_not]; intro h'
      rw [this.2 (by omega)] at hb; cases hb
  constructor
  · rintro (⟨c, hc, h1⟩ | h1)
    · rw [hcl c hc] at h1
      exact .inr (bit_ne (k := c) (by rw [Nat.testBit_and]; exact h1))
    · refine .inl ?_
      apply Classical.byContradiction
      intro hne
      obtain ⟨k, hk, hb⟩ := some_bit hx hne
      rw [(any1_iff _ _).2 ⟨k, hk, by rw [bitsL_getD _ hk]; exact hb⟩] at h1; cases h1
  · rintro (h1 | h1)
    · refine .inr ?_
      rw [← Bool.not_eq_true, any1_iff]
      rintro ⟨k, hk, hb⟩
      rw [bitsL_getD _ hk, h1] at hb; simp at hb
    · obtain ⟨k, hk, hb⟩ := some_bit (and_lt hx) h1
      exact .inl ⟨k, hk, by rw [hcl k hk, ← Nat.testBit_and]; exact hb⟩
theorem up_step (_hm : ∀ m ∈ xs, m < 18446744073709551616) (hd : d < xs.length) (h : Up xs d) (hg : ¬ badM xs d) : Up xs (d + 1) := by
  have hidx : ∀ k : Nat, idxOf (xs.take (d + 1)) (k : Int) = if idxOf (xs.take d) (k : Int) < 0 then (if has (xs.getD d 0) (k : Int) then (d : Int) else -1) else idxOf (xs.take d) (k : Int) := fun k => by
    have e : xs[d] = xs.getD d 0 := by simp [List.getD_eq_getElem?_getD, hd]
    rw [List.take_succ_eq_append_getElem hd, idx_snoc, e, List.length_take, Nat.min_eq_left (Nat.le_of_lt hd)]
  have hno : ∀ k, k < 64 → (xs.getD d 0).testBit k = true → idxOf (xs.take d) (k : Int) < 0 := fun k hk hb => by
    apply Classical.byContradiction
    intro h'
    have h2 := (h.or k hk).2 h'
    exact hg (.inr (bit_ne (k := k) (by rw [Nat.testBit_and, hb, h2]; rfl)))
  refine ⟨fun k hk => ?_, fun k hk => ?_, fun k hk => ?_⟩
  · rw [domsTo, mark_dom _ _ _ (domsTo_ok _ _) k hk, bitsLs_getD xs d hd, bitsL_getD _ hk, hidx, h.dom k hk, has_bit hk]
    cases hb : (xs.getD d 0).testBit k with
    | true => simp [hk, hno k hk hb]
    | false =>
      simp only [Bool.false_eq_true, and_false, if_false]
      split
      · rename_i h1
        unfold idxOf at h1 ⊢
        split at h1
        · omega
        · rfl
      · rfl
  · rw [domsTo, mark_on _ _ _ (domsTo_ok _ _) k hk, bitsLs_getD xs d hd, bitsL_getD _ hk, h.on k hk, orTo, Nat.testBit_or]
    simp [hk]
  · rw [orTo, Nat.testBit_or, hidx, has_bit hk, Bool.or_eq_true, h.or k hk]
    by_cases h1 : idxOf (xs.take d) (k : Int) < 0
    · rw [if_pos h1]
      cases hb : (xs.getD d 0).testBit k with
      | true => simp
      | false => simp [h1]
    · rw [if_neg h1]; simp [h1]
theorem up_all (hm : ∀ m ∈ xs, m < 18446744073709551616) : ∀ d, d ≤ xs.length → (∀ d', d' < d → ¬ badM xs d') → Up xs d
  | 0, _, _ => up_zero xs
  | d + 1, h, hg => up_step hm (by omega) (up_all hm d (by omega) fun d' h' => hg d' (by omega)) (hg d (by omega))
theorem bad_any (hm : ∀ m ∈ xs, m < 18446744073709551616) : (∃ d, d < (bitsLs xs).length ∧ badD (bitsLs xs) d) ↔ ∃ d, d < xs.length ∧ badM xs d := by
  have key : ∀ (p q : Nat → Prop), (∀ d, d < xs.length → (∀ d', d' < d → ¬ p d') → (p d ↔ q d)) → (∃ d, d < xs.length ∧ p d) → ∃ d, d < xs.length ∧ q d := by
    rintro p q h ⟨d, hd, hp⟩
    obtain ⟨d0, h0, hmin⟩ : ∃ d0, (d0 < xs.length ∧ p d0) ∧ ∀ d', d' < d0 → ¬ p d' := by
      induction d using Nat.strongRecOn with
      | ind d ih =>
        by_cases hx : ∃ d', d' < d ∧ p d'
        · obtain ⟨d', h1, h2⟩ := hx
          exact ih d' h1 (by omega) h2
        · exact ⟨d, ⟨hd, hp⟩, fun d' h1 h2 => hx ⟨d', h1, h2⟩⟩
    exact ⟨d0, h0.1, (h d0 h0.1 hmin).1 h0.2⟩
  have main : ∀ d, d < xs.length → (∀ d', d' < d → ¬ badM xs d') → (badD (bitsLs xs) d ↔ badM xs d) := fun d hd hg => bad_iff hm hd (up_all hm d (Nat.le_of_lt hd) hg)
  have back : ∀ d, d < xs.length → (∀ d', d' < d → ¬ badD (bitsLs xs) d') → ∀ d', d' ≤ d → ¬ (d' < d ∧ badM xs d') := by
    intro d hd hg d'
    induction d' using Nat.strongRecOn with
    | ind d' ih =>
      rintro hle ⟨hlt, hb⟩
      exact hg d' hlt ((main d' (by omega) fun q hq h' => ih q hq (by omega) ⟨by omega, h'⟩).2 hb)
  rw [List.length_map]
  refine ⟨key _ _ fun d hd hg => main d hd fun q hq h' => back d hd hg q (by omega) ⟨hq, h'⟩, key _ _ fun d hd hg => (main d hd hg).symm⟩
theorem new_E (hm : ∀ m ∈ xs, m < 18446744073709551616) : newE (bitsLs xs) = topoE xs := by
  unfold newE topoE
  have := bad_any hm
  rw [List.length_map] at this ⊢
  split
  · rfl
  · by_cases h : ∃ d, d < xs.length ∧ badM xs d
    · rw [if_pos h, if_pos (this.2 h)]
    · rw [if_neg h, if_neg (fun h' => h (this.1 h'))]
theorem new_T (hm : ∀ m ∈ xs, m < 18446744073709551616) (h0 : topoE xs = 0) : Rel (topoT xs) (newT (bitsLs xs)) := by
  rw [newT, if_pos (by rw [new_E hm, h0])]
  unfold topoE at h0
  split at h0
  · cases h0
  rename_i hl
  split at h0
  · cases h0
  rename_i hg
  have hgood : ∀ d, d < xs.length → ¬ badM xs d := fun d hd hb => hg ⟨d, hd, hb⟩
  have hup := up_all hm xs.length (Nat.le_refl _) hgood
  rw [List.length_map]
  have hone : ∀ d k : Nat, k < 64 → d < xs.length → (xs.getD d 0).testBit k = true → ∀ n, d < n → n ≤ xs.length → idxOf (xs.take n) (k : Int) = d := by
    intro d k hk hd hb n
    induction n with
    | zero => intro h; omega
    | succ n ih =>
      intro h1 h2
      have e : xs[n] = xs.getD n 0 := by simp [List.getD_eq_getElem?_getD, show n < xs.length by omega]
      rw [List.take_succ_eq_append_getElem (by omega), idx_snoc, List.length_take, Nat.min_eq_left (by omega), e, has_bit hk]
      rcases Nat.lt_succ_iff_lt_or_eq.1 h1 with h1 | rfl
      · rw [ih h1 (by omega), if_neg (by omega)]
      · have hupd := up_all hm d (by omega) fun d' h' => hgood d' (by omega)
        have hlt : idxOf (xs.take d) (k : Int) < 0 := by
          apply Classical.byContradiction
          intro h'
          have h2 := (hupd.or k hk).2 h'
          exact hgood d hd (.inr (bit_ne (k := k) (by rw [Nat.testBit_and, hb, h2]; rfl)))
        rw [if_pos hlt, if_pos hb]
  have hall : xs.take xs.length = xs := List.take_length
  refine ⟨topoT_ok hm (by omega), domsTo_ok _ _, ?_, fun k hk => ?_, fun k hk => ?_, fun d k hk hd hb => ?_, fun d hd => ?_, fun k hk hb => ?_⟩
  · have : ∀ d, (domsTo (bitsLs xs) d).many = xs.length := by
      intro d
      induction d with
      | zero => simp [domsTo, RT.base]
      | succ d ih => rw [domsTo, mark_many, ih]
    exact this _
  · rw [hup.dom k hk, hall]; rfl
  · exact hup.on k hk
  · have := hone d k hk hd hb xs.length hd (Nat.le_refl _)
    rw [hall] at this; exact this
  · have hd : d < xs.length := hd
    have hx : xs.getD d 0 < 18446744073709551616 := hm _ (List.mem_of_getElem? (by rw [List.getD_eq_getElem?_getD, List.getElem?_eq_getElem hd]; rfl))
    have hne : xs.getD d 0 ≠ 0 := fun h => hgood d hd (.inl h)
    obtain ⟨k, hk, hb⟩ := some_bit hx hne
    refine bit_ne (k := k) ?_
    have h1 := hone d k hk hd hb xs.length hd (Nat.le_refl _)
    show (xs.getD d 0 &&& orTo xs xs.length).testBit k = true
    rw [Nat.testBit_and, hb, (hup.or k hk).2 (by omega)]; rfl
  · have := (hup.or k hk).1 hb
    rw [hall] at this; exact this

end Go.Proofs.Ytefahijlcmfpjaa
