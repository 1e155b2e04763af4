/- The plain law: what the program finds is what the document finds. -/
import Derived.Test.YtkpbpjnabbfdiaaDb
namespace Go.Proofs.Ytkpbpjnabbfdiaa
open Go Go.SE

/-! ### Findings in order -/
theorem ltB_iff (a x : Fnd) : ltB a x = true ↔ a.kind < x.kind ∨ (a.kind = x.kind ∧ a.num < x.num) := by
  simp [ltB]
theorem leF_iff (x y : Fnd) : leF x y = true ↔ ltB y x = false := by
  unfold leF
  rw [cmpF_lt]
  cases h : ltB y x with
  | true =>
    have := (ltB_iff y x).1 h
    simp only [Bool.not_eq_true', decide_eq_false_iff_not]
    constructor
    · intro h2; exact absurd this h2
    · intro h2; cases h2
  | false =>
    have h1 : ¬ (y.kind < x.kind ∨ (y.kind = x.kind ∧ y.num < x.num)) := fun h2 => by rw [(ltB_iff y x).2 h2] at h; cases h
    simp only [Bool.not_eq_true', decide_eq_false_iff_not]
    exact ⟨fun _ => trivial, fun _ => h1⟩
theorem leF_lt {x y : Fnd} (h : leF x y = true) (hne : x ≠ y) : ltB x y = true := by
  rw [leF_iff] at h
  rw [ltB_iff]
  have h1 : ¬ (y.kind < x.kind ∨ (y.kind = x.kind ∧ y.num < x.num)) := fun h2 => by rw [(ltB_iff y x).2 h2] at h; cases h
  obtain ⟨xk, xn⟩ := x
  obtain ⟨yk, yn⟩ := y
  simp only [ne_eq, Fnd.mk.injEq] at hne
  simp only at h1 ⊢
  omega
theorem lt_le_lt {x y z : Fnd} (h1 : ltB x y = true) (h2 : leF y z = true) : ltB x z = true := by
  rw [leF_iff] at h2
  rw [ltB_iff] at *
  have h3 : ¬ (z.kind < y.kind ∨ (z.kind = y.kind ∧ z.num < y.num)) := fun h => by rw [(ltB_iff z y).2 h] at h2; cases h2
  omega
theorem ltB_irr (x : Fnd) : ltB x x = false := by simp [ltB]
theorem ltB_trans {x y z : Fnd} (h1 : ltB x y = true) (h2 : ltB y z = true) : ltB x z = true := by
  rw [ltB_iff] at *; omega
abbrev ltP (a x : Fnd) : Prop := ltB a x = true

theorem compact_mem : ∀ (L : List Fnd) (y : Fnd), y ∈ compactL L ↔ y ∈ L
  | [], _ => Iff.rfl
  | [_], _ => Iff.rfl
  | x :: z :: r, y => by
    have ih := compact_mem (z :: r) y
    rw [compactL]
    by_cases h : x = z
    · rw [if_pos h, ih]; subst h; simp
    · rw [if_neg h, List.mem_cons, ih, List.mem_cons (l := z :: r)]
theorem compact_lt : ∀ (L : List Fnd), L.Pairwise (fun a b => leF a b = true) → (compactL L).Pairwise ltP
  | [], _ => .nil
  | [_], _ => by simp [compactL]
  | x :: z :: r, h => by
    have ih := compact_lt (z :: r) (List.pairwise_cons.1 h).2
    rw [compactL]
    by_cases hx : x = z
    · rw [if_pos hx]; exact ih
    · rw [if_neg hx, List.pairwise_cons]
      refine ⟨fun y hy => ?_, ih⟩
      rw [compact_mem] at hy
      have hxz := leF_lt ((List.pairwise_cons.1 h).1 z (by simp)) hx
      rcases List.mem_cons.1 hy with rfl | hy
      · exact hxz
      · exact lt_le_lt hxz ((List.pairwise_cons.1 (List.pairwise_cons.1 h).2).1 y hy)
theorem sortF_le (out : List Fnd) : (sortF out).Pairwise (fun a b => leF a b = true) := by
  refine List.pairwise_mergeSort (fun a b c h1 h2 => ?_) (fun a b => ?_) out
  · rw [leF_iff] at *
    have h3 : ¬ (b.kind < a.kind ∨ (b.kind = a.kind ∧ b.num < a.num)) := fun h => by rw [(ltB_iff b a).2 h] at h1; cases h1
    have h4 : ¬ (c.kind < b.kind ∨ (c.kind = b.kind ∧ c.num < b.num)) := fun h => by rw [(ltB_iff c b).2 h] at h2; cases h2
    cases h : ltB c a with
    | false => rfl
    | true => have := (ltB_iff c a).1 h; omega
  · cases h : leF a b with
    | true => rfl
    | false =>
      have h1 : ltB b a = true := by
        cases h2 : ltB b a with
        | true => rfl
        | false => rw [(leF_iff a b).2 h2] at h; cases h
      rw [Bool.false_or, leF_iff]
      cases h2 : ltB a b with
      | false => rfl
      | true => have := ltB_trans h1 h2; rw [ltB_irr] at this; cases this
theorem sorted_ext {A B : List Fnd} (hA : A.Pairwise ltP) (hB : B.Pairwise ltP) (h : ∀ y, y ∈ A ↔ y ∈ B) : A = B := by
  have nd : ∀ {L : List Fnd}, L.Pairwise ltP → L.Nodup := fun h => h.imp fun {a b} hab e => by subst e; rw [ltP, ltB_irr] at hab; cases hab
  refine List.Perm.eq_of_pairwise (le := ltP) (fun a b _ _ h1 h2 => ?_) hA hB ((List.perm_ext_iff_of_nodup (nd hA) (nd hB)).2 h)
  have := ltB_trans h1 h2; rw [ltB_irr] at this; cases this

def insF : List Fnd → Fnd → List Fnd
  | [], x => [x]
  | a :: xs, x => if ltB a x = true then a :: insF xs x else if a = x then a :: xs else x :: a :: xs
theorem putL_ins : ∀ (xs : List Fnd) (x : Fnd), putL xs x = insF xs x
  | [], x => rfl
  | a :: xs, x => by
    rw [insF]
    by_cases h : ltB a x = true
    · have ih := putL_ins xs x
      have e : putAt (a :: xs) x = putAt xs x + 1 := by
        simp only [putAt]
        rw [List.takeWhile_cons_of_pos (p := fun a => ltB a x) h]; rfl
      rw [if_pos h, ← ih, putL, putL, e, List.getElem?_cons_succ, List.take_succ_cons, List.drop_succ_cons]
      split <;> rfl
    · have e : putAt (a :: xs) x = 0 := by
        simp only [putAt]
        rw [List.takeWhile_cons_of_neg (p := fun a => ltB a x) h]; rfl
      rw [if_neg h, putL, e]
      by_cases h2 : a = x
      · rw [if_pos h2, if_pos (by simp [h2])]
      · rw [if_neg h2, if_neg (by simp [h2])]; rfl
theorem ins_mem : ∀ (xs : List Fnd) (x y : Fnd), y ∈ insF xs x ↔ y ∈ xs ∨ y = x
  | [], x, y => by simp [insF]
  | a :: xs, x, y => by
    rw [insF]
    by_cases h : ltB a x = true
    · rw [if_pos h, List.mem_cons, ins_mem xs x y, List.mem_cons, or_assoc]
    · rw [if_neg h]
      by_cases h2 : a = x
      · rw [if_pos h2, List.mem_cons]
        subst h2
        constructor
        · exact Or.inl
        · rintro (h | h)
          · exact h
          · exact .inl h
      · rw [if_neg h2, List.mem_cons]; exact or_comm
theorem ins_lt : ∀ (xs : List Fnd) (x : Fnd), xs.Pairwise ltP → (insF xs x).Pairwise ltP
  | [], x, _ => by simp [insF]
  | a :: xs, x, h => by
    obtain ⟨h1, h2⟩ := List.pairwise_cons.1 h
    rw [insF]
    by_cases hx : ltB a x = true
    · rw [if_pos hx, List.pairwise_cons]
      refine ⟨fun y hy => ?_, ins_lt xs x h2⟩
      rcases (ins_mem xs x y).1 hy with hy | rfl
      · exact h1 y hy
      · exact hx
    · rw [if_neg hx]
      by_cases he : a = x
      · rw [if_pos he]; exact h
      · rw [if_neg he, List.pairwise_cons]
        have hxa : ltB x a = true := leF_lt ((leF_iff x a).2 (by cases hh : ltB a x with | false => rfl | true => exact absurd hh hx)) (Ne.symm he)
        refine ⟨fun y hy => ?_, h⟩
        rcases List.mem_cons.1 hy with rfl | hy
        · exact hxa
        · exact ltB_trans hxa (h1 y hy)
theorem fold_mem : ∀ (F out : List Fnd) (y : Fnd), y ∈ F.foldl putL out ↔ y ∈ out ∨ y ∈ F
  | [], out, y => by simp
  | x :: F, out, y => by rw [List.foldl_cons, fold_mem F, putL_ins, ins_mem, List.mem_cons, or_assoc]
theorem fold_lt : ∀ (F out : List Fnd), out.Pairwise ltP → (F.foldl putL out).Pairwise ltP
  | [], _, h => h
  | x :: F, out, h => by rw [List.foldl_cons]; exact fold_lt F _ (by rw [putL_ins]; exact ins_lt _ _ h)
theorem fs_mem (F : List Fnd) (y : Fnd) : y ∈ fs F ↔ y ∈ F := by rw [fs, fold_mem]; simp
theorem fs_lt (F : List Fnd) : (fs F).Pairwise ltP := fold_lt F [] .nil
theorem found_eq {out F : List Fnd} (h : ∀ y, y ∈ out ↔ y ∈ F) : compactL (sortF out) = fs F :=
  sorted_ext (compact_lt _ (sortF_le out)) (fs_lt F) fun y => by
    rw [compact_mem, fs_mem, ← h y]
    exact (List.mergeSort_perm out leF).mem_iff

/-! ### Where ids are -/
def postsOf (ps : List (Int × Spot)) (id : Int) : List Spot := (ps.filter fun q => decide (q.1 = id)).map (·.2)
structure GI (sp : List (Int × List Spot)) (f : Int → List Spot) : Prop where
  at' : ∀ g ∈ sp, g.2 = f g.1 ∧ g.2 ≠ []
  has : ∀ id, f id ≠ [] → (id, f id) ∈ sp
theorem GI.spot {sp : List (Int × List Spot)} {f : Int → List Spot} (h : GI sp f) (id : Int) : spotOf sp id = f id := by
  unfold spotOf
  cases hf : sp.find? (fun g => decide (g.1 = id)) with
  | some g =>
    have h1 := List.mem_of_find?_eq_some hf
    have h2 : g.1 = id := by simpa using List.find?_some hf
    have := (h.at' g h1).1
    rw [h2] at this
    simpa using this
  | none =>
    have h1 := List.find?_eq_none.1 hf
    by_cases h2 : f id = []
    · rw [h2]; rfl
    · exact absurd (by simp) (h1 _ (h.has id h2))
theorem GI.add {sp : List (Int × List Spot)} {f : Int → List Spot} (h : GI sp f) (id : Int) (s : Spot) : GI (gadd sp id s) (fun x => if x = id then f id ++ [s] else f x) := by
  unfold gadd
  by_cases ha : sp.any (fun g => decide (g.1 = id)) = true
  · rw [if_pos ha]
    refine ⟨fun g hg => ?_, fun x hx => ?_⟩
    · obtain ⟨g0, h0, rfl⟩ := List.mem_map.1 hg
      obtain ⟨h1, h2⟩ := h.at' g0 h0
      by_cases hi : g0.1 = id
      · rw [if_pos hi]
        refine ⟨?_, by simp⟩
        show g0.2 ++ [s] = if id = id then f id ++ [s] else f id
        rw [if_pos rfl, h1, hi]
      · rw [if_neg hi]
        refine ⟨?_, h2⟩
        show g0.2 = if g0.1 = id then f id ++ [s] else f g0.1
        rw [if_neg hi, h1]
    · by_cases hi : x = id
      · subst hi
        rw [if_pos rfl]
        obtain ⟨g0, h0, h3⟩ := List.any_eq_true.1 ha
        have h3 : g0.1 = x := by simpa using h3
        refine List.mem_map.2 ⟨g0, h0, ?_⟩
        rw [if_pos h3, (h.at' g0 h0).1, h3]
      · simp only [if_neg hi] at hx ⊢
        exact List.mem_map.2 ⟨_, h.has x hx, by rw [if_neg hi]⟩
  · rw [if_neg ha]
    have hno : ∀ g ∈ sp, g.1 ≠ id := fun g hg e => ha (List.any_eq_true.2 ⟨g, hg, by simpa using e⟩)
    have hnil : f id = [] := by
      by_cases h2 : f id = []
      · exact h2
      · exact absurd rfl (hno _ (h.has id h2))
    refine ⟨fun g hg => ?_, fun x hx => ?_⟩
    · rcases List.mem_append.1 hg with hg | hg
      · show g.2 = (if g.1 = id then f id ++ [s] else f g.1) ∧ _
        rw [if_neg (hno g hg)]; exact h.at' g hg
      · simp at hg; subst hg
        refine ⟨?_, by simp⟩
        show [s] = if id = id then f id ++ [s] else f id
        rw [if_pos rfl, hnil]; rfl
    · by_cases hi : x = id
      · subst hi; rw [if_pos rfl, hnil]; simp
      · simp only [if_neg hi] at hx ⊢
        exact List.mem_append_left _ (h.has x hx)
theorem GI.all : ∀ (ps : List (Int × Spot)) (sp : List (Int × List Spot)) (f : Int → List Spot), GI sp f → GI (ps.foldl (fun sp q => gadd sp q.1 q.2) sp) (fun x => f x ++ postsOf ps x)
  | [], sp, f, h => by
    have e : (fun x => f x ++ postsOf [] x) = f := by funext x; simp [postsOf]
    rw [e]; exact h
  | q :: ps, sp, f, h => by
    have ih := GI.all ps _ _ (h.add q.1 q.2)
    have e : (fun x => f x ++ postsOf (q :: ps) x) = fun x => (if x = q.1 then f q.1 ++ [q.2] else f x) ++ postsOf ps x := by
      funext x
      by_cases hx : x = q.1
      · subst hx; simp [postsOf]
      · simp [postsOf, hx, Ne.symm hx]
    rw [List.foldl_cons, e]
    exact ih
abbrev posts (cs : List Cr) : List (Int × Spot) := (cs.map coreP).flatten
theorem spOf_gi (cs : List Cr) : GI (spOf cs) (postsOf (posts cs)) := by
  have h := GI.all (posts cs) [] (fun _ => []) ⟨by simp, by simp⟩
  simp only [List.nil_append] at h
  exact h
theorem core_count (c : Cr) (id : Int) : (postsOf (coreP c) id).length = inC c id := by
  rw [postsOf, coreP, List.filter_append, List.length_map, List.length_append, inC]
  congr 1
  · unfold curP
    by_cases h0 : c.cur = 0
    · rw [if_pos h0, if_neg (by rintro ⟨h1, h2⟩; exact h2 (by rw [← h1, h0]))]; rfl
    · rw [if_neg h0]
      by_cases h1 : c.cur = id
      · rw [if_pos ⟨h1, by rw [← h1]; exact h0⟩]; simp [h1]
      · rw [if_neg (fun h => h1 h.1)]; simp [h1]
  · unfold laneP
    rw [List.filter_map, List.length_map, List.count_eq_countP, ← List.countP_eq_length_filter]
    refine List.countP_congr fun x _ => ?_
    simp
theorem posts_count : ∀ (cs : List Cr) (id : Int), (postsOf (posts cs) id).length = placesN cs id
  | [], _ => rfl
  | c :: cs, id => by
    have ih := posts_count cs id
    have h1 := core_count c id
    simp only [postsOf, posts, List.length_map, placesN] at ih h1 ⊢
    rw [List.map_cons, List.flatten_cons, List.filter_append, List.length_append, ih, h1, List.map_cons, List.sum_cons]
theorem mem_posts (cs : List Cr) (id : Int) (s : Spot) : s ∈ postsOf (posts cs) id ↔ ∃ c ∈ cs, (id, s) ∈ coreP c := by
  simp only [postsOf, posts, List.mem_map, List.mem_filter, List.mem_flatten, decide_eq_true_eq]
  constructor
  · rintro ⟨q, ⟨⟨L, ⟨c, hc, rfl⟩, hq⟩, h⟩, rfl⟩
    exact ⟨c, hc, by rw [← h]; exact hq⟩
  · rintro ⟨c, hc, h⟩
    exact ⟨(id, s), ⟨⟨_, ⟨c, hc, rfl⟩, h⟩, rfl⟩, rfl⟩
theorem mem_core (c : Cr) (id : Int) (s : Spot) : (id, s) ∈ coreP c ↔ (c.cur = id ∧ id ≠ 0 ∧ s = ⟨c.num, true⟩) ∨ (id ∈ c.lane ∧ s = ⟨c.num, false⟩) := by
  rw [coreP, List.mem_append]
  constructor
  · rintro (h | h)
    · unfold curP at h
      by_cases h0 : c.cur = 0
      · rw [if_pos h0] at h; cases h
      · rw [if_neg h0] at h
        simp at h
        exact .inl ⟨h.1.symm, by rw [h.1]; exact h0, h.2⟩
    · unfold laneP at h
      obtain ⟨a, ha, he⟩ := List.mem_map.1 h
      simp only [Prod.mk.injEq] at he
      exact .inr ⟨by rw [← he.1]; exact ha, he.2.symm⟩
  · rintro (⟨h1, h2, h3⟩ | ⟨h1, h2⟩)
    · left
      unfold curP
      rw [if_neg (by rw [h1]; exact h2), h1, h3]; simp
    · right
      unfold laneP
      simp [h1, h2]
theorem mem_ids (c : Cr) (id : Int) : id ∈ idsC c ↔ ∃ s, (id, s) ∈ coreP c := by
  unfold idsC
  rw [List.mem_append]
  constructor
  · rintro (h | h)
    · exact ⟨_, (mem_core c id _).2 (.inr ⟨h, rfl⟩)⟩
    · by_cases h0 : c.cur ≠ 0
      · rw [if_pos h0] at h
        simp at h; subst h
        exact ⟨_, (mem_core c _ _).2 (.inl ⟨rfl, h0, rfl⟩)⟩
      · rw [if_neg h0] at h; cases h
  · rintro ⟨s, h⟩
    rcases (mem_core c id s).1 h with ⟨h1, h2, _⟩ | ⟨h1, _⟩
    · right; rw [if_pos (by rw [h1]; exact h2), h1]; simp
    · exact .inl h1

/-! ### Who is awake -/
theorem up_eq (ts : List Th) (id : Int) : (findT (ts.filter (·.awake)) id).isSome = ts.any (isUp id) := by
  unfold findT
  rw [List.find?_filter]
  induction ts with
  | nil => rfl
  | cons t ts ih =>
    rw [List.find?_cons, List.any_cons]
    by_cases h : t.awake = true <;> by_cases h2 : t.id = id <;> simp [isUp, h, h2] at ih ⊢ <;> exact ih
theorem find_up (ts : List Th) (id : Int) : ts.find? (isUp id) = findT (ts.filter (·.awake)) id := by
  unfold findT
  rw [List.find?_filter]
  congr 1
  funext t
  simp [isUp, Bool.and_comm]
def tagO (ts : List Th) (id : Int) : Option Int := (findT (ts.filter (·.awake)) id).map (·.tag)
theorem turned_iff (ts : List Th) : ∀ (lane : List Int) (last : Int) (some' : Bool),
    turnedF (ts.filter (·.awake)) last some' lane = true ↔ ¬ (if some' = true then last :: lane.filterMap (tagO ts) else lane.filterMap (tagO ts)).Pairwise (· ≤ ·)
  | [], last, some' => by
    rw [turnedF]
    cases some' <;> simp
  | id :: lane, last, some' => by
    rw [turnedF]
    cases h : findT (ts.filter (·.awake)) id with
    | none =>
      have e : tagO ts id = none := by rw [tagO, h]; rfl
      simp only [List.filterMap_cons, e]
      exact turned_iff ts lane last some'
    | some t =>
      have e : tagO ts id = some t.tag := by rw [tagO, h]; rfl
      have ih := turned_iff ts lane t.tag true
      rw [if_pos rfl] at ih
      simp only [List.filterMap_cons, e]
      generalize lane.filterMap (tagO ts) = L at *
      cases some' with
      | false =>
        rw [if_neg (by simp), if_neg (by simp)]
        exact ih
      | true =>
        rw [if_pos rfl]
        by_cases hlt : t.tag < last
        · rw [if_pos ⟨rfl, hlt⟩]
          simp only [true_iff]
          intro hp
          have := (List.pairwise_cons.1 hp).1 t.tag (by simp)
          omega
        · rw [if_neg (fun hh => hlt hh.2), ih]
          constructor
          · intro hn hp; exact hn (List.pairwise_cons.1 hp).2
          · intro hn hp
            refine hn (List.pairwise_cons.2 ⟨fun y hy => ?_, hp⟩)
            rcases List.mem_cons.1 hy with rfl | hy
            · omega
            · have := (List.pairwise_cons.1 hp).1 y hy; omega
theorem pair_iff (ts : List Th) (x y : Int) : pairBad ts x y = true ↔ ¬ ∀ a, tagO ts x = some a → ∀ b, tagO ts y = some b → a ≤ b := by
  unfold pairBad tagOf tagO
  rw [find_up, find_up]
  cases findT (ts.filter (·.awake)) x with
  | none => simp
  | some t =>
    cases findT (ts.filter (·.awake)) y with
    | none => simp
    | some u => simp
theorem order_iff (ts : List Th) (lane : List Int) : orderB ts lane lane.length = true ↔ ¬ (lane.filterMap (tagO ts)).Pairwise (· ≤ ·) := by
  rw [List.pairwise_filterMap, List.pairwise_iff_getElem]
  have hD : ∀ (k : Nat) (hk : k < lane.length), lane.getD k 0 = lane[k] := fun k hk => by rw [List.getD_eq_getElem?_getD, List.getElem?_eq_getElem hk]; rfl
  constructor
  · intro h hall
    obtain ⟨m, hm, h2⟩ := List.any_eq_true.1 h
    obtain ⟨j, hj, h3⟩ := List.any_eq_true.1 h2
    have hm := List.mem_range.1 hm
    have hj := List.mem_range.1 hj
    rw [hD m hm, hD j (by omega)] at h3
    exact (pair_iff ts _ _).1 h3 (hall j m (by omega) hm hj)
  · intro h
    cases hb : orderB ts lane lane.length with
    | true => rfl
    | false =>
      refine absurd (fun j m hj hm hjm => ?_) h
      have h1 : orderTo ts lane (lane.getD m 0) m = false := by
        have := List.any_eq_false.1 hb m (List.mem_range.2 hm)
        simpa using this
      have h2 : pairBad ts (lane.getD j 0) (lane.getD m 0) = false := by
        have := List.any_eq_false.1 h1 j (List.mem_range.2 hjm)
        simpa using this
      rw [hD m hm, hD j hj] at h2
      exact Decidable.byContradiction fun hn => by rw [(pair_iff ts _ _).2 hn] at h2; cases h2
theorem turned_order (ts : List Th) (lane : List Int) : turnedF (ts.filter (·.awake)) 0 false lane = orderB ts lane lane.length := by
  have h1 := turned_iff ts lane 0 false
  rw [if_neg (by simp), ← order_iff] at h1
  exact Bool.eq_iff_iff.2 h1

/-! ### A thread's findings -/
theorem mem_one {b : Bool} {k n : Int} {y : Fnd} : y ∈ one1 b k n ↔ b = true ∧ y = ⟨k, n⟩ := by cases b <;> simp [one1]
theorem mem_k1 {b : Bool} {k n : Int} : n ∈ k1 b k ↔ b = true ∧ n = k := by cases b <;> simp [k1]
theorem here_iff (c : Cr) (t : Th) : hereOk c t = true ↔ ∀ s, (t.id, s) ∈ coreP c → s = ⟨t.core, t.running⟩ := by
  simp only [mem_core, hereOk, Bool.and_eq_true, Bool.not_eq_true', List.all_eq_true]
  constructor
  · rintro ⟨h1, h2⟩ s (⟨e1, e2, rfl⟩ | ⟨e1, rfl⟩)
    · simp only [curBad, e1, e2, ne_eq, not_false_eq_true, and_self, decide_true, Bool.true_and, Bool.not_eq_false', Bool.and_eq_true, decide_eq_true_eq] at h1
      rw [h1.1, h1.2]
    · have := h2 _ e1
      simp only [laneBad, decide_true, Bool.true_and, Bool.not_eq_false', Bool.and_eq_true, decide_eq_true_eq, Bool.not_eq_true'] at this
      rw [this.1, this.2]
  · intro h
    refine ⟨?_, fun x hx => ?_⟩
    · unfold curBad
      by_cases h1 : c.cur = t.id ∧ t.id ≠ 0
      · have := h _ (.inl ⟨h1.1, h1.2, rfl⟩)
        simp only [Spot.mk.injEq] at this
        simp [this.1, ← this.2]
      · simp [h1]
    · unfold laneBad
      by_cases h1 : x = t.id
      · subst h1
        have := h _ (.inr ⟨hx, rfl⟩)
        simp only [Spot.mk.injEq] at this
        simp [this.1, ← this.2]
      · simp [h1]
theorem all_here (cs : List Cr) (t : Th) : (cs.all fun c => hereOk c t) = true ↔ ∀ s ∈ postsOf (posts cs) t.id, s = ⟨t.core, t.running⟩ := by
  rw [List.all_eq_true]
  constructor
  · intro h s hs
    obtain ⟨c, hc, h2⟩ := (mem_posts cs t.id s).1 hs
    exact (here_iff c t).1 (h c hc) s h2
  · intro h c hc
    exact (here_iff c t).2 fun s hs => h s ((mem_posts cs t.id s).2 ⟨c, hc, hs⟩)
theorem bad_spot (ds : List Dm) (cs : List Cr) (t : Th) (d : Dm) (hd : domOf ds t.dom = some d) : badSpot d (postsOf (posts cs) t.id) t = true ↔ placesN cs t.id = 1 ∧ placedB ds cs t = false := by
  have hall := all_here cs t
  have hdom : hasDom ds t = has d.cores t.core := by rw [hasDom, hd]
  rw [← posts_count, placedB, hdom]
  generalize postsOf (posts cs) t.id = L at *
  match L, hall with
  | [], _ => simp [badSpot]
  | [x], hall =>
    simp only [List.mem_singleton, forall_eq] at hall
    simp only [badSpot, List.length_singleton, true_and]
    generalize (cs.all fun c => hereOk c t) = A at *
    by_cases hx : x = ⟨t.core, t.running⟩
    · have hA : A = true := hall.2 hx
      rw [hA]
      simp [hx]
    · have hA : A = false := by cases A with
        | false => rfl
        | true => exact absurd (hall.1 rfl) hx
      rw [hA]
      simp [hx]
  | _ :: _ :: _, _ => simp [badSpot]
theorem th_mem (ds : List Dm) (cs : List Cr) (q : Int) (t : Th) (y : Fnd) : y ∈ thF ds (spOf cs) q t ↔ y ∈ (thR ds cs q t).map fun k => (⟨k, t.id⟩ : Fnd) := by
  have hsp := (spOf_gi cs).spot t.id
  have hn := posts_count cs t.id
  have h0 : postsOf (posts cs) t.id = [] ↔ placesN cs t.id = 0 := by rw [← hn]; exact List.length_eq_zero_iff.symm
  have hkd : kn ds t = (domOf ds t.dom).isSome := by
    unfold kn domOf
    by_cases h : 0 ≤ t.dom ∧ t.dom < ds.length
    · rw [if_pos h, List.getElem?_eq_getElem (by omega), decide_eq_true h]; rfl
    · rw [if_neg h, decide_eq_false h]; rfl
  simp only [thF, thR, List.mem_map, List.mem_append, mem_one, mem_k1, hsp]
  cases hd : domOf ds t.dom with
  | none =>
    have e1 : badMask ds t = false := by rw [badMask, hd]
    have e2 : badRound ds t = false := by rw [badRound, hd]
    have e3 : placedB ds cs t = false := by rw [placedB, hasDom, hd]; rfl
    rw [hd] at hkd
    rw [e1, e2, e3, hkd]
    simp only [h0, decide_eq_true_eq, List.mem_singleton, Option.isSome_none, Bool.not_false, Bool.and_true, Bool.not_eq_true', decide_eq_false_iff_not]
    constructor
    · rintro (⟨h, rfl⟩ | ⟨h, rfl⟩ | rfl)
      · exact ⟨3, by simp [h], rfl⟩
      · exact ⟨9, by simp [h], rfl⟩
      · refine ⟨6, ?_, rfl⟩
        by_cases h1 : placesN cs t.id = 1 <;> simp [h1]
    · rintro ⟨k, h, rfl⟩
      rcases h with ((((⟨h, rfl⟩ | ⟨h, rfl⟩) | ⟨h, rfl⟩) | ⟨h, rfl⟩) | ⟨h, rfl⟩) | ⟨h, rfl⟩
      · exact .inl ⟨h, rfl⟩
      · exact .inr (.inr rfl)
      · exact .inr (.inr rfl)
      · cases h
      · cases h
      · exact .inr (.inl ⟨h, rfl⟩)
  | some d =>
    have e1 : badMask ds t = !has (effM d t.mask) t.core := by rw [badMask, hd]
    have e2 : badRound ds t = !decide (roundOk d t) := by rw [badRound, hd]
    have hb := bad_spot ds cs t d hd
    rw [hd] at hkd
    rw [e1, e2, hkd]
    simp only [List.mem_append, mem_one, hb, h0, decide_eq_true_eq, Option.isSome_some, Bool.not_true, Bool.and_false, Bool.and_eq_true, Bool.not_eq_true']
    constructor
    · rintro (⟨h, rfl⟩ | ⟨h, rfl⟩ | ⟨h, rfl⟩ | ⟨h, rfl⟩ | ⟨h, rfl⟩)
      · exact ⟨3, by simp [h], rfl⟩
      · exact ⟨9, by simp [h], rfl⟩
      · exact ⟨6, by simp [h.1, h.2], rfl⟩
      · exact ⟨7, by simp [h], rfl⟩
      · exact ⟨8, by simp [h], rfl⟩
    · rintro ⟨k, h, rfl⟩
      rcases h with ((((⟨h, rfl⟩ | ⟨h, rfl⟩) | ⟨h, rfl⟩) | ⟨h, rfl⟩) | ⟨h, rfl⟩) | ⟨h, rfl⟩
      · exact .inl ⟨h, rfl⟩
      · exact .inr (.inr (.inl ⟨h, rfl⟩))
      · cases h
      · exact .inr (.inr (.inr (.inl ⟨h, rfl⟩)))
      · exact .inr (.inr (.inr (.inr ⟨h, rfl⟩)))
      · exact .inr (.inl ⟨h, rfl⟩)

/-! ### All of it -/
theorem grp_id (cs : List Cr) (ts : List Th) (id : Int) : grpF (ts.filter (·.awake)) (id, postsOf (posts cs) id) = idR cs ts id := by
  have h1 := posts_count cs id
  have h2 := up_eq ts id
  simp only [grpF, idR, h1, h2]
theorem core_at (ds : List Dm) (ts : List Th) (c : Cr) : coreAt ds (ts.filter (·.awake)) c = one1 (offC ds c) 5 c.num ++ one1 (orderB ts c.lane c.lane.length) 11 c.num := by
  rw [coreAt, turned_order]
theorem spOf_cpy (qs : List QC) : spOf (qs.map cpyQ) = spOf (qs.map (·.1)) := by
  unfold spOf
  congr 2
  rw [List.map_map, List.map_map]
  exact List.map_congr_left fun _ _ => rfl
theorem all_same {ds : List Dm} {qs : List QC} {cs : List Cr} {ts : List Th} {q : Int} {dn : List (Int × List Spot)} {aw' : List Th} (hq : qs.map (·.1) = cs) (h1 : dn.Perm (spOf (qs.map cpyQ))) (h2 : aw'.Perm (ts.filter (·.awake))) :
    compactL (sortF (domT (ts.filter (·.awake)) ds ds.length ++ (dn.map (grpF (ts.filter (·.awake)))).flatten ++ ((qs.map cpyQ).map (coreAt ds (ts.filter (·.awake)))).flatten ++ (aw'.map (thF ds (spOf (qs.map cpyQ)) q)).flatten)) = fs (docL ds cs ts q) := by
  rw [spOf_cpy, hq] at h1 ⊢
  have hc : (qs.map cpyQ).map (coreAt ds (ts.filter (·.awake))) = cs.map (coreAt ds (ts.filter (·.awake))) := by
    rw [← hq, List.map_map, List.map_map]
    exact List.map_congr_left fun _ _ => rfl
  rw [hc]
  have hg := spOf_gi cs
  refine found_eq fun y => ?_
  rw [docL]
  simp only [List.mem_append, List.mem_flatten, List.mem_map]
  constructor
  · rintro (((h | ⟨L, ⟨g, hgm, rfl⟩, hy⟩) | ⟨L, ⟨c, hcm, rfl⟩, hy⟩) | ⟨L, ⟨t, htm, rfl⟩, hy⟩)
    · exact .inl (.inl h)
    · obtain ⟨e1, e2⟩ := hg.at' g (h1.mem_iff.1 hgm)
      obtain ⟨gid, gsp⟩ := g
      have e1 : gsp = postsOf (posts cs) gid := e1
      subst e1
      rw [grp_id] at hy
      obtain ⟨s, hs⟩ := List.exists_mem_of_ne_nil _ e2
      obtain ⟨c, hcm, hp⟩ := (mem_posts cs gid s).1 hs
      refine .inl (.inr ⟨_, ⟨c, hcm, rfl⟩, ?_⟩)
      rw [crR, List.mem_append, List.mem_append]
      exact .inl (.inl (List.mem_flatten.2 ⟨_, List.mem_map.2 ⟨gid, (mem_ids c gid).2 ⟨s, hp⟩, rfl⟩, hy⟩))
    · refine .inl (.inr ⟨_, ⟨c, hcm, rfl⟩, ?_⟩)
      rw [core_at] at hy
      rw [crR, List.append_assoc]
      exact List.mem_append_right _ hy
    · have htf := List.mem_filter.1 (h2.mem_iff.1 htm)
      refine .inr ⟨_, ⟨t, htf.1, rfl⟩, ?_⟩
      rw [thK, if_pos htf.2]
      exact (th_mem ds cs q t y).1 hy
  · rintro ((h | ⟨L, ⟨c, hcm, rfl⟩, hy⟩) | ⟨L, ⟨t, htm, rfl⟩, hy⟩)
    · exact .inl (.inl (.inl h))
    · rw [crR, List.append_assoc] at hy
      rcases List.mem_append.1 hy with hy | hy
      · obtain ⟨L, hL, hy⟩ := List.mem_flatten.1 hy
        obtain ⟨id, hid, rfl⟩ := List.mem_map.1 hL
        obtain ⟨s, hp⟩ := (mem_ids c id).1 hid
        have hs := (mem_posts cs id s).2 ⟨c, hcm, hp⟩
        have hne : postsOf (posts cs) id ≠ [] := List.ne_nil_of_mem hs
        refine .inl (.inl (.inr ⟨_, ⟨(id, postsOf (posts cs) id), h1.mem_iff.2 (hg.has id hne), rfl⟩, ?_⟩))
        rw [grp_id]; exact hy
      · rw [← core_at] at hy
        exact .inl (.inr ⟨_, ⟨c, hcm, rfl⟩, hy⟩)
    · rw [thK] at hy
      by_cases ha : t.awake = true
      · rw [if_pos ha] at hy
        exact .inr ⟨_, ⟨t, h2.mem_iff.2 (List.mem_filter.2 ⟨htm, ha⟩), rfl⟩, (th_mem ds cs q t y).2 hy⟩
      · rw [if_neg ha] at hy; cases hy

end Go.Proofs.Ytkpbpjnabbfdiaa
