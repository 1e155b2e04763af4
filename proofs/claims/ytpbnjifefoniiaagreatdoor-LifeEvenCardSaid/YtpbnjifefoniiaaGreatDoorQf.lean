/- Proved: LifeEvenCard_holds of this seat, for every input that its row lets in. Merged by a program of mine (merge.py) of my texts. -/
import Derived.Test.YtpbnjifefoniiaaGreatDoorQe
import Derived.ProofKit
import Derived.SizedLaws
import Derived.OpenShut
import Derived.ChangeCalls
import Derived.Deep.Slices
import Derived.Handed
import Derived.LaidLaws
import Derived.LaidHandle
import Derived.LaidMore
import Derived.Stop.Joined
import Derived.Test.YtpbnjifefoniiaaGreatDoorCards
import Derived.Test.YtpbnjifefoniiaaGreatDoorTie
import Derived.SevenTiedAt
namespace Go.Proofs.YtpbnjifefoniiaaGreatDoor
open Go Go.SE
variable {s s' : Sys} {D : Nat} {low K : Int} {L : List En}
theorem kfind_map {α : Type} {key : α → Int} {f : α → α} (hf : ∀ a, key (f a) = key a) (L : List α) (x : Int) : kfind key (L.map f) x = (kfind key L x).map f := by
  simp only [kfind, List.find?_map]
  congr 1
  refine congrFun (congrArg List.find? (funext fun a => ?_)) L
  simp [hf]
structure EnOk (low : Int) (e : En) : Prop where
  tag : e.tag = low ∨ e.tag = low + 1
  left : 0 ≤ e.left ∧ e.left ≤ e.slice
  slice : 1 ≤ e.slice ∧ e.slice ≤ 1000
  spent : e.left = 0 → e.tag = low + 1
def Has (low : Int) (L : List En) : Prop := L ≠ [] → ∃ e ∈ L, e.tag = low
theorem stuck_not (h : stuckB low L = false) : Has low L := fun hne => by
  rw [stuckB] at h
  have h1 : (L.all fun e => !decide (e.tag = low)) = false := by
    cases hl : L.isEmpty with
    | true => exact absurd (List.isEmpty_iff.1 hl) hne
    | false => rw [hl] at h; simpa using h
  rw [List.all_eq_false] at h1
  obtain ⟨e, he, h2⟩ := h1
  exact ⟨e, he, by simpa using h2⟩
theorem stuck_is (h : stuckB low L = true) : L ≠ [] ∧ ∀ e ∈ L, e.tag ≠ low := by
  rw [stuckB, Bool.and_eq_true] at h
  refine ⟨fun e => by rw [e] at h; exact absurd h.1 (by decide), fun e he => ?_⟩
  have := List.all_eq_true.1 h.2 e he
  simpa using this
def set1 (low : Int) (L : List En) : List En := if stuckB low L then stepB (low + 1) L else L
def out1 (low : Int) (L : List En) : List Int := if stuckB low L then outB (low + 1) L else []
theorem settle_is (h : ∀ e ∈ L, EnOk low e) (n : Nat) : ∃ k : Nat, k ≤ 2 ∧ settleR (n + 3) low L [] = (low + k, set1 low L, out1 low L) ∧ Due (n + 3) low L ∧ (∀ e ∈ set1 low L, EnOk (low + k) e) ∧ Has (low + k) (set1 low L) := by
  cases h0 : stuckB low L with
  | false =>
    refine ⟨0, by decide, ?_, fun h1 => absurd h1 (by rw [h0]; decide), ?_, ?_⟩
    · rw [settleR, h0, set1, out1, h0, if_neg (by decide), if_neg (by decide), if_neg (by decide)]; simp
    · rw [set1, h0, if_neg (by decide)]; simpa using h
    · rw [set1, h0, if_neg (by decide)]; simpa using stuck_not h0
  | true =>
    obtain ⟨hne, hno⟩ := stuck_is h0
    have e1 : set1 low L = stepB (low + 1) L := by rw [set1, h0, if_pos rfl]
    have e2 : out1 low L = outB (low + 1) L := by rw [out1, h0, if_pos rfl]
    have hall : ∀ e ∈ L, e.tag = low + 1 := fun e he => (h e he).tag.resolve_left (hno e he)
    have hst : ∀ e' ∈ stepB (low + 1) L, (e'.tag = low + 1 ∧ 0 < e'.left ∧ e'.left ≤ e'.slice ∧ 1 ≤ e'.slice ∧ e'.slice ≤ 1000) ∨ (e'.tag = low + 1 + 1 ∧ e'.left = e'.slice ∧ 1 ≤ e'.slice ∧ e'.slice ≤ 1000) := fun e' he' => by
      obtain ⟨e, he, rfl⟩ := List.mem_map.1 he'
      have h1 := h e he
      have h2 := h1.left
      have h3 := hall e he
      unfold stepE
      split
      · exact .inr ⟨by show e.tag + 1 = _; omega, rfl, h1.slice⟩
      · rename_i hd
        exact .inl ⟨h3, Int.not_le.1 fun h4 => hd ⟨h3, by omega⟩, h2.2, h1.slice⟩
    have hne2 : stepB (low + 1) L ≠ [] := fun e => hne (List.map_eq_nil_iff.1 e)
    rw [e1, e2]
    cases h1 : stuckB (low + 1) (stepB (low + 1) L) with
    | false =>
      refine ⟨1, by decide, ?_, fun _ h2 => absurd h2 (by rw [h1]; decide), fun e' he' => ?_, stuck_not h1⟩
      · rw [settleR, h0, if_pos rfl, settleR, h1, if_neg (by decide)]; rfl
      · show EnOk (low + 1) e'
        rcases hst e' he' with ⟨g1, g2, g3, g4⟩ | ⟨g1, g2, g3⟩
        · exact ⟨.inl g1, ⟨by omega, g3⟩, g4, fun e => by omega⟩
        · exact ⟨.inr g1, ⟨by omega, by omega⟩, g3, fun _ => g1⟩
    | true =>
      obtain ⟨_, hno2⟩ := stuck_is h1
      have hall2 : ∀ e' ∈ stepB (low + 1) L, e'.tag = low + 1 + 1 ∧ e'.left = e'.slice ∧ 1 ≤ e'.slice ∧ e'.slice ≤ 1000 := fun e' he' => by
        rcases hst e' he' with ⟨g1, _⟩ | g
        · exact absurd g1 (hno2 e' he')
        · exact g
      have e3 : stepB (low + 1 + 1) (stepB (low + 1) L) = stepB (low + 1) L := by
        conv => rhs; rw [← List.map_id (stepB (low + 1) L)]
        refine List.map_congr_left fun e' he' => ?_
        have := hall2 e' he'
        unfold stepE
        rw [if_neg fun hd => hd.2 (by omega)]; rfl
      have e4 : outB (low + 1 + 1) (stepB (low + 1) L) = [] := by
        rw [outB, List.map_eq_nil_iff, List.filter_eq_nil_iff]
        intro e' he' hd
        have := hall2 e' he'
        have hd : due (low + 1 + 1) e' := of_decide_eq_true hd
        exact hd.2 (by omega)
      have h2 : stuckB (low + 1 + 1) (stepB (low + 1) L) = false := by
        cases hh : stuckB (low + 1 + 1) (stepB (low + 1) L) with
        | false => rfl
        | true =>
          obtain ⟨_, hno3⟩ := stuck_is hh
          obtain ⟨e', he'⟩ := List.exists_mem_of_ne_nil _ hne2
          exact absurd (hall2 e' he').1 (hno3 e' he')
      have e5 : low + ((2 : Nat) : Int) = low + 1 + 1 := by omega
      refine ⟨2, by decide, ?_, fun _ _ => ?_, fun e' he' => ?_, by rw [e5]; exact stuck_not h2⟩
      · rw [settleR, h0, if_pos rfl, settleR, h1, if_pos rfl, e3, e4, settleR, h2, if_neg (by decide), e5]; simp
      · show Due (n + 1) (low + 1 + 1) (stepB (low + 1 + 1) (stepB (low + 1) L))
        rw [e3]
        intro hh; rw [h2] at hh; cases hh
      · rw [e5]
        obtain ⟨g1, g2, g3⟩ := hall2 e' he'
        exact ⟨.inl g1, ⟨by omega, by omega⟩, g3, fun e => by omega⟩
theorem set1_ids : (set1 low L).map En.id = L.map En.id := by
  unfold set1
  split
  · rw [stepB, List.map_map]
    exact List.map_congr_left fun e _ => stepE_id _ e
  · rfl
theorem set1_sz : (set1 low L).map En.slice = L.map En.slice := by
  unfold set1
  split
  · rw [stepB, List.map_map]
    refine List.map_congr_left fun e _ => ?_
    show (stepE (low + 1) e).slice = e.slice
    unfold stepE; split <;> rfl
  · rfl
theorem set1_keep {id : Int} {e : En} (he : kfind En.id L id = some e) (h : id ∉ out1 low L ∨ 0 < e.left) : kfind En.id (set1 low L) id = some e := by
  unfold set1
  unfold out1 at h
  split
  · rename_i hs
    rw [if_pos hs] at h
    rw [stepB, kfind_map (fun e => stepE_id _ e), he]
    simp only [Option.map_some]
    congr 1
    unfold stepE
    rw [if_neg fun hd => ?_]
    rcases h with h | h
    · exact h (List.mem_map.2 ⟨e, List.mem_filter.2 ⟨kfind_mem he, decide_eq_true hd⟩, kfind_key he⟩)
    · exact hd.2 h
  · exact he
structure BkN (K b : Int) (L : List En) (I : List Int) : Prop where
  ids : L.map En.id = I
  low : 1 ≤ b ∧ b ≤ K
  ent : ∀ e ∈ L, EnOk b e
theorem awakeI_srt (hB : s.Base D) (d : Int) : (s.awakeI d).Pairwise (· < ·) := List.Pairwise.sublist (List.filter_sublist.map Th.id) hB.srt
theorem awakeI_mem {d id : Int} : id ∈ s.awakeI d ↔ ∃ t ∈ s.ths, t.id = id ∧ t.awake = true ∧ s.dom t.group = d := by
  rw [Sys.awakeI, List.mem_map]
  exact ⟨fun ⟨t, h, e⟩ => ⟨t, (Sys.mem_awake.1 h).1, e, (Sys.mem_awake.1 h).2⟩, fun ⟨t, h1, e, h2⟩ => ⟨t, Sys.mem_awake.2 ⟨h1, h2⟩, e⟩⟩
theorem BkN.nod {I : List Int} (h : BkN K low L I) (hI : I.Pairwise (· < ·)) : Nod En.id L := by
  unfold Nod; rw [h.ids]; exact hI.imp fun h e => by omega
theorem kfind_ids {id : Int} (h : id ∈ L.map En.id) : ∃ e, kfind En.id L id = some e := by
  cases he : kfind En.id L id with
  | some e => exact ⟨e, rfl⟩
  | none =>
    obtain ⟨a, ha, e⟩ := List.mem_map.1 h
    exact absurd e (kfind_none.1 he a ha)
namespace Sys
structure OkX (s : Sys) (D : Nat) (K : Int) (P Q : Nat → Prop) : Prop where
  base : s.Base D
  bl : s.bs.length = D
  pl : s.Placed 0
  tags : s.Tags []
  on : s.OnOk 0
  bk : ∀ d : Nat, d < D → BkN K (s.book d).1 (s.book d).2 (s.awakeI d)
  sz : ∀ d : Nat, d < D → Q d → (s.book d).2.map En.slice = s.sizesL d
  has : ∀ d : Nat, d < D → P d → Has (s.book d).1 (s.book d).2
  sleep : ∀ t ∈ s.ths, t.awake = false → t.core = -1
  was : ∀ t ∈ s.ths, 0 ≤ t.tag ∧ t.tag ≤ (s.book (s.dom t.group)).1 + 1 ∧ 0 ≤ t.left ∧ t.left ≤ 1000
  left : ∀ t ∈ s.ths, t.running = true → ∃ e, kfind En.id (s.book (s.dom t.group)).2 t.id = some e ∧ 0 < e.left
  fit : ∀ t ∈ s.ths, s.T.checkE (s.dom t.group) t.mask = 0
abbrev Ok (s : Sys) (D : Nat) (K : Int) : Prop := s.OkX D K (fun _ => True) fun _ => True
variable {P Q : Nat → Prop}
theorem OkX.ents (h : s.OkX D K P Q) : s.Ents := fun t ht ha => by
  obtain ⟨d, hd, hdD⟩ := h.base.domT ht
  rw [hd]
  refine kfind_ids ?_
  rw [(h.bk d hdD).ids]
  exact awakeI_mem.2 ⟨t, ht, rfl, ha, hd⟩
theorem OkX.bookAt (h : s.OkX D K P Q) {d : Nat} (hd : d < D) : s.bs[d]? = some (s.book d) := by
  show _ = some (s.bs.getD (d : Int).toNat (0, []))
  rw [Int.toNat_natCast, List.getD_eq_getElem?_getD, List.getElem?_eq_getElem (by rw [h.bl]; exact hd)]; rfl
theorem book_set {d d' : Nat} {b : Int × List En} (hd : d < s.bs.length) : (s.setBook d b).book d' = if d' = d then b else s.book d' := by
  show (s.bs.set (d : Int).toNat b).getD (d' : Int).toNat (0, []) = _
  rw [Int.toNat_natCast, Int.toNat_natCast, List.getD_eq_getElem?_getD]
  split
  · rename_i e
    rw [e, List.getElem?_set_self hd]; rfl
  · rename_i e
    rw [List.getElem?_set_ne (fun h => e h.symm), ← List.getD_eq_getElem?_getD]; rfl
theorem OkX.few (h : s.OkX D K P Q) {d : Nat} (hd : d < D) : (s.book d).2.length ≤ 64 := by
  have h1 := congrArg List.length (h.bk d hd).ids
  rw [List.length_map, awakeI, List.length_map] at h1
  have := awake_few s d
  have := h.base.few
  omega
theorem book_bs {d : Int} (hb : s'.bs = s.bs) : s'.book d = s.book d := by rw [book, book, hb]
theorem agains_bs : ∀ (ids : List Int) (s : Sys), (ids.foldl Sys.again s).bs = s.bs
  | [], _ => rfl
  | id :: r, s => (agains_bs r (s.again id)).trans (again_bs id)
theorem OkX.settled {d : Nat} (h : s.OkX D K (fun d' => d' ≠ d) Q) (hK : K ≤ 4611686018427387000) (hd : d < D) :
    (s.settled d).OkX D (K + 2) (fun _ => True) Q ∧ SetlOk D s d (s.book d).1 (s.book d).2 ∧ Moved s (s.settled d) := by
  have hb := h.bk d hd
  have hB := h.base
  have hat := h.bookAt hd
  have hfew := h.few hd
  have hset : s.settled d = (sortI (settleR 100 (s.book d).1 (s.book d).2 []).2.2).foldl Sys.again (s.setBook d ((settleR 100 (s.book d).1 (s.book d).2 []).1, (settleR 100 (s.book d).1 (s.book d).2 []).2.1)) := rfl
  generalize hlow : (s.book d).1 = low at *
  generalize hL : (s.book d).2 = L at *
  obtain ⟨k, hk, hR, hDue, hEn, hHas⟩ := settle_is hb.ent 97
  have hR : settleR 100 low L [] = (low + k, set1 low L, out1 low L) := hR
  have hN := hb.nod (awakeI_srt hB d)
  have hNi := hb.nod (awakeI_srt hB d)
  rw [hR] at hset
  simp only at hset
  have hsort : ∀ id, id ∈ sortI (out1 low L) ↔ id ∈ out1 low L := fun id => (sortI_p _).mem_iff
  have hbl : d < s.bs.length := by rw [h.bl]; exact hd
  have hb0 : ∀ d' : Nat, (s.setBook d (low + k, set1 low L)).book d' = if d' = d then (low + k, set1 low L) else s.book d' := fun d' => book_set hbl
  have hk0 : Skel s (s.setBook d (low + k, set1 low L)) := Skel.setBook d _
  have hmid : (s.setBook d (low + k, set1 low L)).Mid D (sortI (out1 low L)) := by
    refine ⟨hk0.base hB, by show (s.bs.set _ _).length = D; rw [List.length_set]; exact h.bl, ⟨h.pl.curl, h.pl.lsl, h.pl.tgl, h.pl.core, h.pl.runs, h.pl.cur, h.pl.curOf, h.pl.lane, h.pl.laneOf, h.pl.nod, h.pl.srt⟩, fun t ht ha hr hn => ?_, h.on, fun t ht ha => ?_⟩
    · rw [show (s.setBook d (low + k, set1 low L)).tg = s.tg from rfl, h.tags t ht ha hr (by simp)]
      obtain ⟨d', hd', hdD⟩ := hB.domT ht
      rw [tagOf, tagOf, hk0.dom, hd', hb0]
      by_cases e0 : d' = d
      · subst e0
        rw [if_pos rfl]
        obtain ⟨e, he⟩ := h.ents t ht ha
        rw [hd', hL] at he
        simp only [hL]
        rw [set1_keep he (.inl fun hh => hn ((hsort _).2 hh)), he]
      · rw [if_neg e0]
    · obtain ⟨d', hd', hdD⟩ := hB.domT ht
      rw [hk0.dom, hd', hb0]
      split
      · rename_i e; subst e
        refine kfind_ids ?_
        show t.id ∈ (set1 low L).map En.id
        rw [set1_ids, hb.ids]
        exact awakeI_mem.2 ⟨t, ht, rfl, ha, hd'⟩
      · rw [← hd']; exact h.ents t ht ha
  obtain ⟨hM, hmv, hSet⟩ := Mid.agains (sortI (out1 low L)) _ hmid fun id hid => by
    have h1 := (hsort id).1 hid
    obtain ⟨a, ha, e⟩ : ∃ a ∈ L, a.id = id := by
      unfold out1 at h1
      split at h1
      · obtain ⟨a, ha, e⟩ := List.mem_map.1 h1
        exact ⟨a, (List.mem_filter.1 ha).1, e⟩
      · cases h1
    have h2 : id ∈ s.awakeI d := by rw [← hb.ids]; exact List.mem_map.2 ⟨a, ha, e⟩
    obtain ⟨t, ht, rfl, hta, _⟩ := awakeI_mem.1 h2
    exact ⟨t, kfind_of hB.nod ht, hta⟩
  rw [← hset] at hM hmv
  have hsk : Skel s (s.settled d) := Skel.settled d
  have hbs : ∀ d' : Nat, (s.settled d).book d' = if d' = d then (low + k, set1 low L) else s.book d' := fun d' => by
    rw [← hb0 d', hset]; exact book_bs (agains_bs _ _)
  refine ⟨⟨hM.base, hM.bl, hM.pl, hM.tags, hM.on, fun d' hd' => ?_, fun d' hd' hQ => ?_, fun d' hd' _ => ?_, fun t ht ha => ?_, fun t ht => ?_, fun t ht hr => ?_, fun t ht => ?_⟩, ⟨hat.trans (congrArg some (Prod.ext hlow hL)), hDue, ⟨hN, by omega, fun e he => ?_, ?_⟩, ?_, ?_⟩, hmv⟩
  · rw [hbs, hsk.awakeI]
    split
    · rename_i e; subst e
      exact ⟨set1_ids.trans hb.ids, by have := hb.low; show 1 ≤ low + (k : Int) ∧ low + (k : Int) ≤ K + 2; omega, hEn⟩
    · have := h.bk d' hd'
      exact ⟨this.ids, by have := this.low; omega, this.ent⟩
  · have := h.sz d' hd' hQ
    rw [hbs, hsk.sizesL, ← this]
    split
    · rename_i e; subst e
      rw [hL]; exact set1_sz
    · rfl
  · rw [hbs]
    split
    · exact hHas
    · rename_i e; exact h.has d' hd' e
  · obtain ⟨u, hu, e⟩ := hmv t ht
    have e1 := e.asleep ha
    subst e1
    exact h.sleep t hu ha
  · obtain ⟨u, hu, e⟩ := hmv t ht
    have h1 := h.was u hu
    obtain ⟨d', hd', hdD⟩ := hB.domT hu
    rw [← e.tag, ← e.left, hsk.dom, ← e.sk.group, hd', hbs]
    rw [hd'] at h1
    split
    · rename_i e; subst e
      rw [hlow] at h1
      show _ ∧ _ ≤ low + (k : Int) + 1 ∧ _
      omega
    · exact h1
  · obtain ⟨u, hu, e⟩ := hmv t ht
    have e1 := e.run hr
    subst e1
    obtain ⟨f, hf, hfl⟩ := h.left t hu hr
    obtain ⟨d', hd', hdD⟩ := hB.domT hu
    rw [hsk.dom, hd', hbs]
    rw [hd'] at hf
    split
    · rename_i e; subst e
      rw [hL] at hf
      exact ⟨f, set1_keep hf (.inr hfl), hfl⟩
    · exact ⟨f, hf, hfl⟩
  · obtain ⟨u, hu, e⟩ := hmv t ht
    rw [hsk.T, hsk.dom, ← e.sk.group, ← e.sk.mask]; exact h.fit u hu
  · have h1 := hb.ent e he
    have h2 := h1.tag
    have h3 := hb.low
    show 0 ≤ e.tag ∧ e.tag + ((100 : Nat) : Int) ≤ _
    omega
  · have h3 := hb.low
    show 0 ≤ low ∧ low + ((100 : Nat) : Int) ≤ _
    omega
  · rw [hR]; exact hSet
  · rw [hR]
    have h1 : (out1 low L).length ≤ L.length := by
      unfold out1
      split
      · rw [outB, List.length_map]; exact List.length_filter_le ..
      · exact Nat.zero_le _
    show (out1 low L).length ≤ _
    omega
end Sys
end Go.Proofs.YtpbnjifefoniiaaGreatDoor
namespace Go.Proofs.YtpbnjifefoniiaaGreatDoor
open Go Go.SE
variable {s s' : Sys} {D : Nat} {low K : Int} {L : List En}
structure Like (F F' : Forest) : Prop where
  path : ∀ g, F'.path g = F.path g
  kids : ∀ g, F'.kids g = F.kids g
  wt : ∀ g, wtG F' g = wtG F g
theorem Like.refl (F : Forest) : Like F F := ⟨fun _ => rfl, fun _ => rfl, fun _ => rfl⟩
theorem Like.upd {F : Forest} {g : Int} {f : Grp → Grp} (hf : ∀ x, (f x).id = x.id) (hp : ∀ x, (f x).parent = x.parent) (hw : ∀ x, (f x).weight = x.weight) : Like F (F.upd g f) := by
  refine ⟨fun i => pathN_upd hf hp 8 i, fun i => Forest.kids_upd hf hp i, fun i => ?_⟩
  rw [wtG, wtG, Forest.get_upd hf]
  cases F.get i with
  | none => rfl
  | some x =>
    simp only [Option.map_some, Option.getD_some]
    split
    · rw [hw]
    · rfl
section
variable {F F' : Forest} {ls : List Leaf} {x0 : Rat}
theorem Like.many (h : Like F F') (g : Int) : many F' ls g = many F ls g := by
  rw [Go.Proofs.YtpbnjifefoniiaaGreatDoor.many, Go.Proofs.YtpbnjifefoniiaaGreatDoor.many]
  congr 1
  exact List.filter_congr fun l _ => by rw [Forest.below, Forest.below, h.path]
theorem Like.chs (h : Like F F') (g : Int) : chs F' ls g = chs F ls g := by
  have e : Go.Proofs.YtpbnjifefoniiaaGreatDoor.many F' ls = Go.Proofs.YtpbnjifefoniiaaGreatDoor.many F ls := funext fun g => h.many g
  rw [Go.Proofs.YtpbnjifefoniiaaGreatDoor.chs, Go.Proofs.YtpbnjifefoniiaaGreatDoor.chs, kidsL, kidsL, h.kids, e]
  congr 1
  exact List.map_congr_left fun c _ => by rw [h.wt]
theorem Like.rateP (h : Like F F') : ∀ p, rateP F' ls x0 p = rateP F ls x0 p
  | [] => rfl
  | [_] => rfl
  | c :: g :: rest => by
    rw [Go.Proofs.YtpbnjifefoniiaaGreatDoor.rateP, Go.Proofs.YtpbnjifefoniiaaGreatDoor.rateP, Like.rateP h (g :: rest), h.chs, h.wt, h.many]
theorem Like.rateL (h : Like F F') (i : Nat) : rateL F' ls x0 i = rateL F ls x0 i := by
  unfold Go.Proofs.YtpbnjifefoniiaaGreatDoor.rateL
  cases ls[i]? with
  | none => rfl
  | some l => simp only [rateG, h.path, h.rateP, h.chs]
end
theorem sizesL_of {d : Int} (hq : s'.q = s.q) (hT : s'.T.online d = s.T.online d) (hF : Like s.F s'.F) (hl : s'.leaves d = s.leaves d) : s'.sizesL d = s.sizesL d := by
  have e : (s'.awakeT d).length = (s.awakeT d).length := by
    have := congrArg List.length hl
    simpa [Sys.leaves] using this
  rw [Sys.sizesL, Sys.sizesL, e, hq, hl, Sys.on, Sys.on, hT]
  exact List.map_congr_left fun i _ => by rw [hF.rateL]
theorem filter_upd {L : List Th} {id : Int} {f : Th → Th} {p p' : Th → Bool} (h1 : ∀ u ∈ L, u.id = id → p' (f u) = false ∧ p u = false) (h2 : ∀ u ∈ L, u.id ≠ id → p' u = p u) : (kupd Th.id L id f).filter p' = L.filter p := by
  induction L with
  | nil => rfl
  | cons a L ih =>
    have ih' := ih (fun u hu => h1 u (by simp [hu])) fun u hu => h2 u (by simp [hu])
    show ((if a.id = id then f a else a) :: kupd Th.id L id f).filter p' = _
    rw [List.filter_cons, List.filter_cons, ih']
    by_cases e : a.id = id
    · obtain ⟨g1, g2⟩ := h1 a (by simp) e
      rw [if_pos e, g1, g2]; rfl
    · rw [if_neg e, h2 a (by simp) e]
theorem awakeT_upd {d : Int} {id : Int} {f : Th → Th} (hd : ∀ g, s'.dom g = s.dom g) (ht : s'.ths = kupd Th.id s.ths id f) (hn : ∀ u ∈ s.ths, u.id = id → (u.awake = false ∨ s.dom u.group ≠ d) ∧ ((f u).awake = false ∨ s.dom (f u).group ≠ d)) : s'.awakeT d = s.awakeT d := by
  rw [Sys.awakeT, Sys.awakeT, ht]
  refine filter_upd (fun u hu e => ?_) fun u _ _ => by rw [hd]
  obtain ⟨h1, h2⟩ := hn u hu e
  rw [hd]
  refine ⟨?_, ?_⟩
  · rcases h2 with h | h
    · rw [h]; rfl
    · simp [h]
  · rcases h1 with h | h
    · rw [h]; rfl
    · simp [h]
theorem zip_look {d : Int} (hB : s.Base D) : (s.awakeI d).map (s.sizeOf d) = s.sizesL d := by
  have hl : (s.awakeI d).length = (s.sizesL d).length := by rw [Sys.awakeI, Sys.sizesL, List.length_map, List.length_map, List.length_range]
  have hnd : Nod cKey (s.sizes d) := sizes_nod hB
  refine List.ext_getElem (by rw [List.length_map, hl]) fun i h1 h2 => ?_
  rw [List.getElem_map]
  have hi : i < (s.awakeI d).length := by simpa using h1
  have hm : ((s.awakeI d)[i], (s.sizesL d)[i]) ∈ s.sizes d := by
    refine List.mem_iff_getElem?.2 ⟨i, ?_⟩
    rw [Sys.sizes, List.getElem?_zip_eq_some]
    exact ⟨List.getElem?_eq_getElem hi, List.getElem?_eq_getElem h2⟩
  rw [Sys.sizeOf, show kfind cKey (s.sizes d) (s.awakeI d)[i] = some ((s.awakeI d)[i], (s.sizesL d)[i]) from kfind_of hnd hm]; rfl
theorem kfind_fst {L : List (Int × Int)} {id : Int} (h : id ∈ L.map Prod.fst) : ∃ z, kfind Prod.fst L id = some z := by
  cases he : kfind Prod.fst L id with
  | some e => exact ⟨e, rfl⟩
  | none =>
    obtain ⟨a, ha, e⟩ := List.mem_map.1 h
    exact absurd e (kfind_none.1 he a ha)
theorem sizes_find {d id : Int} (hB : s.Base D) (h : id ∈ s.awakeI d) : kfind Prod.fst (s.sizes d) id = some (id, s.sizeOf d id) ∧ 1 ≤ s.sizeOf d id ∧ s.sizeOf d id ≤ 1000 := by
  have hl : (s.awakeI d).length = (s.sizesL d).length := by rw [Sys.awakeI, Sys.sizesL, List.length_map, List.length_map, List.length_range]
  obtain ⟨z, hz⟩ := kfind_fst (L := s.sizes d) (id := id) (by
    show id ∈ ((s.awakeI d).zip (s.sizesL d)).map Prod.fst
    rw [List.map_fst_zip (by omega)]; exact h)
  have hk : kfind cKey (s.sizes d) id = some z := hz
  have e : s.sizeOf d id = z.2 := by rw [Sys.sizeOf, hk]; rfl
  have hzk : z.1 = id := kfind_key hz
  have := sizes_mem hB (kfind_mem hz)
  rw [e, hz, ← hzk]
  exact ⟨rfl, this⟩
theorem resized_ok {Z : List (Int × Int)} (hz : ∀ e ∈ L, ∃ z, kfind Prod.fst Z e.id = some (e.id, z) ∧ 1 ≤ z ∧ z ≤ 1000) (h : ∀ e ∈ L, EnOk low e) : ∀ e ∈ resized Z L, EnOk low e := fun e he => by
  obtain ⟨a, ha, rfl⟩ := List.mem_map.1 he
  obtain ⟨z, hz, h1⟩ := hz a ha
  have hO := h a ha
  show EnOk low (match kfind Prod.fst Z a.id with | some z => a.sized z.2 | none => a)
  rw [hz]
  have := hO.left
  refine ⟨hO.tag, ?_, h1, fun h0 => hO.spent ?_⟩
  · show 0 ≤ min a.left z ∧ min a.left z ≤ z
    omega
  · have h0 : min a.left z = 0 := h0
    omega
theorem resized_find {Z : List (Int × Int)} {id : Int} : kfind En.id (resized Z L) id = (kfind En.id L id).map fun e => match kfind Prod.fst Z e.id with | some z => e.sized z.2 | none => e := by
  refine kfind_map (fun e => ?_) L id
  split <;> rfl
theorem comes_ok {e : En} (ht : 0 ≤ e.tag ∧ e.tag ≤ low + 1) (hl : 0 ≤ e.left) (hs : 1 ≤ e.slice ∧ e.slice ≤ 1000) : EnOk low (e.comes low) := by
  unfold En.comes
  split
  · exact ⟨.inl rfl, ⟨by show 0 ≤ e.slice; omega, Int.le_refl _⟩, hs, fun h => by have h : e.slice = 0 := h; omega⟩
  · split
    · rename_i h
      exact ⟨.inr (by show e.tag + 1 = _; omega), ⟨by show 0 ≤ e.slice; omega, Int.le_refl _⟩, hs, fun h => by have h : e.slice = 0 := h; omega⟩
    · rename_i h
      refine ⟨by show e.tag = low ∨ e.tag = low + 1; omega, ?_, hs, fun h0 => ?_⟩
      · show 0 ≤ min e.left e.slice ∧ min e.left e.slice ≤ e.slice; omega
      · have h0 : min e.left e.slice = 0 := h0
        show e.tag = low + 1
        by_cases h2 : e.tag = low
        · exact absurd ⟨by omega, h2⟩ h
        · omega
theorem comes_id (e : En) : (e.comes low).id = e.id ∧ (e.comes low).slice = e.slice := by
  unfold En.comes
  split
  · exact ⟨rfl, rfl⟩
  · split <;> exact ⟨rfl, rfl⟩
theorem kins_find {e : En} {id : Int} (hN : Nod En.id L) (he : kfind En.id L e.id = none) : kfind En.id (kins (key := En.id) L e) id = if id = e.id then some e else kfind En.id L id := by
  have hn : Nod En.id (e :: L) := nod_cons.2 ⟨fun c hc => kfind_none.1 he c hc, hN⟩
  rw [kfind_perm hn (kins_perm (key := En.id) (L := L) (b := e)).symm]
  rw [kfind]
  by_cases h : e.id = id
  · rw [if_pos h.symm, List.find?_cons_of_pos (by simpa using h)]
  · rw [if_neg fun e => h e.symm, List.find?_cons_of_neg (by simpa using h)]; rfl
theorem eff_on {T : TP.Topo} {d : Int} {m k : Nat} (h : (T.eff d m).testBit k = true) : (T.online d).testBit k = true := by
  unfold TP.Topo.eff at h
  split at h
  · simp at h
  · split at h
    · exact h
    · rw [Nat.testBit_and, Bool.and_eq_true] at h; first | exact h.1 | exact h.2
namespace Sys
theorem Placed.same {x : Int} (h : s.Placed x) (hc : s'.cur = s.cur) (hL : s'.Ls = s.Ls) (ht : s'.tg = s.tg) (hsl : s'.sl = s.sl) (hths : s'.ths = s.ths) : s'.Placed x := by
  obtain ⟨a, b, c, d, e, f, g, h1, h2, h3, h4⟩ := h
  exact ⟨hc ▸ a, hL ▸ b, by rw [ht, hsl]; exact c, hths ▸ d, hths ▸ e, by rw [hc, hths]; exact f, by rw [hc, hths]; exact g, by rw [hL, hths]; exact h1, by rw [hL, hths]; exact h2, hL ▸ h3, by rw [hL, ht]; exact h4⟩
theorem woken_mem (hB : s.Base D) {t u : Th} (ht : t ∈ s.ths) (hu : u ∈ (s.woken t).ths) : (u ∈ s.ths ∧ u.id ≠ t.id) ∨ u = { t with awake := true } := by
  rcases upd_mem.1 (show u ∈ (s.upd t.id fun t => { t with awake := true }).ths from hu) with h1 | ⟨v, hv, e, rfl⟩
  · exact .inl h1
  · rw [hB.idI hv ht e]; exact .inr rfl
theorem woken_me {t : Th} (ht : t ∈ s.ths) : { t with awake := true } ∈ (s.woken t).ths := upd_mem.2 (.inr ⟨t, ht, rfl, rfl⟩)
theorem woken_to {t u : Th} (hu : u ∈ s.ths) (hne : u.id ≠ t.id) : u ∈ (s.woken t).ths := upd_mem.2 (.inl ⟨hu, hne⟩)
theorem woken_dom (t : Th) (g : Int) : (s.woken t).dom g = s.dom g := dom_upd (g := t.group) (f := fun x => { x with awake := x.awake + 1 }) rfl (fun _ => rfl) (fun _ => rfl) g
theorem woken_like (t : Th) : Like s.F (s.woken t).F := Like.upd (fun _ => rfl) (fun _ => rfl) fun _ => rfl
theorem Placed.woken (h : s.Placed 0) (hB : s.Base D) {t : Th} (ht : t ∈ s.ths) (ha : t.awake = false) : (s.woken t).Placed t.id := by
  have hno : ∀ u ∈ s.ths, u.awake = true → u.id ≠ t.id := fun u hu h1 e => by rw [hB.idI hu ht e, ha] at h1; cases h1
  have hid : ∀ u ∈ s.ths, u.id ≠ 0 := fun u hu => by have := hB.idr u hu; omega
  have hr : t.running = false := by
    cases hr : t.running with
    | false => rfl
    | true => have := (h.runs t ht hr).1; rw [ha] at this; cases this
  refine ⟨h.curl, h.lsl, h.tgl, fun u hu hua hne => ?_, fun u hu hur => ?_, fun c id hc hid => ?_, fun u hu hur => ?_, fun c q hq n hn => ?_, fun u hu hua hur hne => ?_, h.nod, h.srt⟩
  · rcases woken_mem hB ht hu with ⟨h1, _⟩ | rfl
    · exact h.core u h1 hua (hid u h1)
    · exact absurd rfl hne
  · rcases woken_mem hB ht hu with ⟨h1, h2⟩ | rfl
    · exact ⟨(h.runs u h1 hur).1, h2⟩
    · exact absurd (show t.running = true from hur) (by rw [hr]; decide)
  · obtain ⟨u, h1, h2, h3, h4⟩ := h.cur c id hc hid
    exact ⟨u, woken_to h1 (hno u h1 (h.runs u h1 h3).1), h2, h3, h4⟩
  · rcases woken_mem hB ht hu with ⟨h1, h2⟩ | rfl
    · exact h.curOf u h1 hur
    · exact absurd (show t.running = true from hur) (by rw [hr]; decide)
  · obtain ⟨u, h1, h2, h3, h4, h5, _⟩ := h.lane c q hq n hn
    exact ⟨u, woken_to h1 (hno u h1 h3), h2, h3, h4, h5, hno u h1 h3⟩
  · rcases woken_mem hB ht hu with ⟨h1, h2⟩ | rfl
    · exact h.laneOf u h1 hua hur (hid u h1)
    · exact absurd rfl hne
theorem woken_awakeI (hB : s.Base D) {t : Th} (ht : t ∈ s.ths) {d id : Int} : id ∈ (s.woken t).awakeI d ↔ id ∈ s.awakeI d ∨ (id = t.id ∧ s.dom t.group = d) := by
  rw [awakeI_mem, awakeI_mem]
  constructor
  · rintro ⟨u, hu, e, h1, h2⟩
    rw [woken_dom] at h2
    rcases woken_mem hB ht hu with ⟨g1, _⟩ | rfl
    · exact .inl ⟨u, g1, e, h1, h2⟩
    · exact .inr ⟨e.symm, h2⟩
  · rintro (⟨u, hu, e, h1, h2⟩ | ⟨rfl, h2⟩)
    · by_cases hi : u.id = t.id
      · have e3 := hB.idI hu ht hi
        subst e3
        exact ⟨_, woken_me ht, e, rfl, by rw [woken_dom]; exact h2⟩
      · exact ⟨u, woken_to hu hi, e, h1, by rw [woken_dom]; exact h2⟩
    · exact ⟨_, woken_me ht, rfl, rfl, by rw [woken_dom]; exact h2⟩
end Sys
end Go.Proofs.YtpbnjifefoniiaaGreatDoor
namespace Go.Proofs.YtpbnjifefoniiaaGreatDoor
open Go Go.SE
variable {s s' : Sys} {D : Nat} {low K : Int} {L : List En}
theorem sz_of {d : Int} (hB : s.Base D) (hi : L.map En.id = s.awakeI d) (hs : ∀ e ∈ L, e.slice = s.sizeOf d e.id) : L.map En.slice = s.sizesL d := by
  rw [← zip_look hB, ← hi, List.map_map]
  exact List.map_congr_left hs
theorem resized_slice {d : Int} (hB : s.Base D) (hi : ∀ e ∈ L, e.id ∈ s.awakeI d) : ∀ e ∈ resized (s.sizes d) L, e.slice = s.sizeOf d e.id := fun e he => by
  obtain ⟨a, ha, rfl⟩ := List.mem_map.1 he
  obtain ⟨h1, _⟩ := sizes_find hB (hi a ha)
  show (match kfind Prod.fst (s.sizes d) a.id with | some z => a.sized z.2 | none => a).slice = s.sizeOf d (match kfind Prod.fst (s.sizes d) a.id with | some z => a.sized z.2 | none => a).id
  rw [h1]; rfl
theorem resized_en {d : Int} (hB : s.Base D) (hi : ∀ e ∈ L, e.id ∈ s.awakeI d) (h : ∀ e ∈ L, EnOk low e) : ∀ e ∈ resized (s.sizes d) L, EnOk low e :=
  resized_ok (fun e he => ⟨_, (sizes_find hB (hi e he)).1, (sizes_find hB (hi e he)).2⟩) h
theorem resized_tag {Z : List (Int × Int)} {id : Int} {e : En} (hz : ∀ z ∈ Z, 1 ≤ z.2) (h : kfind En.id L id = some e) : ∃ e', kfind En.id (resized Z L) id = some e' ∧ e'.tag = e.tag ∧ (0 < e.left → 0 < e'.left) := by
  refine ⟨_, by rw [resized_find, h]; rfl, ?_, fun h0 => ?_⟩
  · dsimp only
    split <;> rfl
  · dsimp only
    split
    · rename_i z hz'
      have := hz z (kfind_mem hz')
      show 0 < min e.left z.2
      omega
    · exact h0
namespace Sys
set_option maxHeartbeats 1600000 in
theorem Ok.wakes (h : s.Ok D K) (hK : K ≤ 4611686018427387000) {t : Th} (ht : t ∈ s.ths) (ha : t.awake = false) {c : Int} (hc : TP.has (s.T.eff (s.dom t.group) t.mask) c = true) :
    ∃ d : Nat, WakeOk D s t c d ∧ (s.wake t c).Ok D (K + 2) ∧ Skel (s.woken t) (s.wake t c) ∧ ∀ u ∈ (s.wake t c).ths, ∃ v, ((v ∈ s.ths ∧ v.id ≠ t.id) ∨ v = { t with awake := true, core := c }) ∧ Mv v u := by
  have hB := h.base
  obtain ⟨d, hd, hdD⟩ := hB.domT ht
  obtain ⟨j, hj⟩ := List.getElem?_of_mem ht
  have hB1 := hB.woken hj ha
  have hbk := h.bk d hdD
  have hwas := h.was t ht
  rw [hd] at hwas
  have hat := h.bookAt hdD
  have hcc := TP.has_core hc
  obtain ⟨k, rfl⟩ : ∃ k : Nat, c = k := ⟨c.toNat, by have := hcc.1; omega⟩
  have hk64 : k < 64 := by have := hcc.2; omega
  have hon : (s.T.online (s.dom t.group)).testBit k = true := by rw [TP.has_bit hk64] at hc; exact eff_on hc
  have hbl : d < s.bs.length := by rw [h.bl]; exact hdD
  have hd1 : ∀ g, (s.woken t).dom g = s.dom g := woken_dom t
  generalize hb : s.book d = b at *
  obtain ⟨low, L⟩ := b
  simp only at hbk hwas
  have hI1 : ∀ e ∈ L, e.id ∈ (s.woken t).awakeI d := fun e he => (woken_awakeI hB ht).2 (.inl (by rw [← hbk.ids]; exact List.mem_map.2 ⟨e, he, rfl⟩))
  have hme : t.id ∈ (s.woken t).awakeI d := (woken_awakeI hB ht).2 (.inr ⟨rfl, hd⟩)
  obtain ⟨_, hz1, hz2⟩ := sizes_find hB1 hme
  generalize hz : (s.woken t).sizeOf d t.id = z at hz1 hz2
  have hNo : t.id ∉ s.awakeI d := fun hm => by
    obtain ⟨u, hu, e, h1, _⟩ := awakeI_mem.1 hm
    rw [hB.idI hu ht e, ha] at h1; cases h1
  have hNL := hbk.nod (awakeI_srt hB d)
  have hNr : Nod En.id (resized ((s.woken t).sizes d) L) := by unfold Nod; rw [resized_ids]; exact hNL
  have hnone : kfind En.id (resized ((s.woken t).sizes d) L) t.id = none := kfind_none.2 fun e he hh => by
    have : t.id ∈ (resized ((s.woken t).sizes d) L).map En.id := List.mem_map.2 ⟨e, he, hh⟩
    rw [resized_ids, hbk.ids] at this
    exact hNo this
  have hci := comes_id (low := low) ⟨t.id, t.tag, t.left, z⟩
  have hco := comes_ok (low := low) (e := ⟨t.id, t.tag, t.left, z⟩) ⟨hwas.1, hwas.2.1⟩ hwas.2.2.1 ⟨hz1, hz2⟩
  generalize hcm : (⟨t.id, t.tag, t.left, z⟩ : En).comes low = e1 at hci hco
  have hci1 : e1.id = t.id := hci.1
  have hci2 : e1.slice = z := hci.2
  have hwk : s.wakes t = (s.woken t).setBook d (low, kins (key := En.id) (resized ((s.woken t).sizes d) L) e1) := by
    have hb1 : (s.woken t).book d = (low, L) := hb
    rw [Sys.wakes, hd, Sys.sliced, hb1, Sys.entered, book_set (s := s.woken t) hbl, if_pos rfl, hz]
    simp only [hcm]
    unfold setBook
    simp only [List.set_set]
  generalize hL2 : kins (key := En.id) (resized ((s.woken t).sizes d) L) e1 = L2 at hwk
  have hperm : L2.Perm (e1 :: resized ((s.woken t).sizes d) L) := by rw [← hL2]; exact kins_perm
  have hm2 : ∀ e ∈ L2, e = e1 ∨ e ∈ resized ((s.woken t).sizes d) L := fun e he => by simpa using hperm.mem_iff.1 he
  have hids2 : L2.map En.id = (s.woken t).awakeI d := by
    refine lt_ext ?_ (awakeI_srt hB1 d) fun id => ?_
    · rw [← hL2]
      refine Srt.ins (key := En.id) ?_ fun a ha e => kfind_none.1 hnone a ha (e.trans hci1)
      show ((resized _ L).map En.id).Pairwise (· < ·)
      rw [resized_ids, hbk.ids]; exact awakeI_srt hB d
    · rw [(hperm.map En.id).mem_iff, List.map_cons, resized_ids, hbk.ids, List.mem_cons, hci1, woken_awakeI hB ht]
      constructor
      · rintro (e | e)
        · exact .inr ⟨e, hd⟩
        · exact .inl e
      · rintro (e | ⟨e, _⟩)
        · exact .inr e
        · exact .inl e
  have hsz2 : L2.map En.slice = (s.woken t).sizesL d := sz_of hB1 hids2 fun e he => by
    rcases hm2 e he with rfl | h1
    · rw [hci2, hci1, hz]
    · exact resized_slice hB1 hI1 e h1
  have hbk2 : BkN K low L2 ((s.woken t).awakeI d) := ⟨hids2, hbk.low, fun e he => by
    rcases hm2 e he with rfl | h1
    · exact hco
    · exact resized_en hB1 hI1 hbk.ent e h1⟩
  have hfind2 : ∀ id e, id ≠ t.id → kfind En.id L id = some e → ∃ e', kfind En.id L2 id = some e' ∧ e'.tag = e.tag ∧ (0 < e.left → 0 < e'.left) := fun id e hne he => by
    obtain ⟨e', h1, h2⟩ := resized_tag (Z := (s.woken t).sizes d) (fun z hz => (sizes_mem hB1 hz).1) he
    refine ⟨e', ?_, h2⟩
    rw [← hL2, kins_find hNr (by rw [hci1]; exact hnone), hci1, if_neg hne]; exact h1
  have hB2 : (s.wakes t).Base D := by rw [hwk]; exact (Skel.setBook d _).base hB1
  have hk2 : Skel (s.woken t) (s.wakes t) := by rw [hwk]; exact Skel.setBook d _
  have hbs2 : ∀ d' : Nat, (s.wakes t).book d' = if d' = d then (low, L2) else s.book d' := fun d' => by
    rw [hwk, book_set (s := s.woken t) hbl]; rfl
  have hths2 : (s.wakes t).ths = (s.woken t).ths := by rw [hwk]; rfl
  have hP2 : (s.wakes t).Placed t.id := (h.pl.woken hB ht ha).same (by rw [hwk]; rfl) (by rw [hwk]; rfl) (by rw [hwk]; rfl) (by rw [hwk]; rfl) hths2
  have hme2 : { t with awake := true } ∈ (s.wakes t).ths := by rw [hths2]; exact woken_me ht
  have hE2 : ∃ e, kfind En.id ((s.wakes t).book ((s.wakes t).dom t.group)).2 t.id = some e := by
    rw [hk2.dom, hd1, hd, hbs2, if_pos rfl]
    refine kfind_ids ?_
    show t.id ∈ L2.map En.id
    rw [hids2]; exact hme
  have hT2 : (s.wakes t).T = s.T := by rw [hwk]; rfl
  have hdm2 : ∀ g, (s.wakes t).dom g = s.dom g := fun g => (hk2.dom g).trans (hd1 g)
  have hin2 : ∀ u ∈ (s.wakes t).ths, (u ∈ s.ths ∧ u.id ≠ t.id) ∨ u = { t with awake := true } := fun u hu => woken_mem hB ht (by rw [← hths2]; exact hu)
  have hk3 : Skel (s.wakes t) (s.waking t k) := Skel.inn _ _
  have hin4 : ∀ u ∈ (s.waking t k).ths, (u ∈ s.ths ∧ u.id ≠ t.id) ∨ u = { t with awake := true, core := (k : Int) } := fun u hu => by
    rcases inn_mem hB2 hme2 hu with ⟨h1, h2⟩ | rfl
    · rcases hin2 u h1 with h3 | rfl
      · exact .inl h3
      · exact absurd rfl h2
    · exact .inr rfl
  have hin3 : ∀ u ∈ (s.waking t k).ths, (u ∈ s.ths ∧ u.id ≠ t.id) ∨ (u.id = t.id ∧ u.group = t.group ∧ u.tag = t.tag ∧ u.left = t.left ∧ u.awake = true ∧ u.running = t.running) := fun u hu => by
    rcases hin4 u hu with h1 | rfl
    · exact .inl h1
    · exact .inr ⟨rfl, rfl, rfl, rfl, rfl, rfl⟩
  have hr : t.running = false := by
    cases hr : t.running with
    | false => rfl
    | true => have := (h.pl.runs t ht hr).1; rw [ha] at this; cases this
  have hT1 : ∀ d' : Nat, d' ≠ d → (s.woken t).awakeT d' = s.awakeT d' := fun d' hne => awakeT_upd hd1 rfl fun u hu e => by
    rw [hB.idI hu ht e]
    exact ⟨.inl ha, .inr (by show s.dom t.group ≠ d'; omega)⟩
  have hX : (s.waking t k).OkX D K (fun d' => d' ≠ d) fun _ => True := by
    refine ⟨hk3.base hB2, ?_, Placed.inn (t := { t with awake := true }) hP2 hB2 hme2 rfl hk64, Tags.inn (t := { t with awake := true }) (R := []) ?_ hB2 hP2.tgl hme2 _, OnOk.inn (t := { t with awake := true }) ?_ hB2 hme2 ?_, fun d' hd' => ?_, fun d' hd' _ => ?_, fun d' hd' hne => ?_, fun u hu hua => ?_, fun u hu => ?_, fun u hu hur => ?_, fun u hu => ?_⟩
    · show (s.wakes t).bs.length = D
      rw [hwk]
      show ((s.woken t).bs.set _ _).length = D
      rw [List.length_set]; exact h.bl
    · intro u hu hua hur hn
      rcases hin2 u hu with ⟨h1, h2⟩ | rfl
      · have h3 := h.tags u h1 hua hur (by simp)
        rw [show (s.wakes t).tg = s.tg by rw [hwk]; rfl, h3]
        obtain ⟨d', hd', hdD'⟩ := hB.domT h1
        rw [tagOf, tagOf, hdm2, hd', hbs2]
        by_cases e0 : d' = d
        · subst e0
          rw [if_pos rfl]
          obtain ⟨e, he⟩ := h.ents u h1 hua
          rw [hd', hb] at he
          simp only at he
          obtain ⟨e', g1, g2, _⟩ := hfind2 u.id e h2 he
          rw [hb]
          simp only [he, g1, g2]
        · rw [if_neg e0]
      · exact absurd (List.mem_cons_self ..) hn
    · intro u hu hua hne
      rw [hT2, hdm2]
      rcases hin2 u hu with ⟨h1, h2⟩ | rfl
      · exact h.on u h1 hua (by have := hB.idr u h1; omega)
      · exact absurd rfl hne
    · rw [hT2, hdm2]; exact hon
    · have e3 : (s.waking t k).book d' = (s.wakes t).book d' := rfl
      rw [e3, hbs2, hk3.awakeI, hk2.awakeI]
      split
      · rename_i e; subst e; exact hbk2
      · rename_i hne
        have hi : (s.woken t).awakeI d' = s.awakeI d' := by rw [Sys.awakeI, Sys.awakeI, hT1 d' hne]
        rw [hi]
        exact h.bk d' hd'
    · have e3 : (s.waking t k).book d' = (s.wakes t).book d' := rfl
      rw [e3, hbs2, hk3.sizesL, hk2.sizesL]
      split
      · rename_i e; subst e; exact hsz2
      · rename_i hne
        have hl : (s.woken t).leaves d' = s.leaves d' := by rw [leaves, leaves, hT1 d' hne]
        rw [sizesL_of (s := s) (s' := s.woken t) rfl rfl (woken_like t) hl]
        exact h.sz d' hd' trivial
    · have e3 : (s.waking t k).book d' = (s.wakes t).book d' := rfl
      rw [e3, hbs2, if_neg hne]
      exact h.has d' hd' trivial
    · rcases hin3 u hu with ⟨h1, _⟩ | ⟨_, _, _, _, h2, _⟩
      · exact h.sleep u h1 hua
      · rw [h2] at hua; cases hua
    · have hbd : ∀ v ∈ s.ths, u.group = v.group → u.tag = v.tag → u.left = v.left → 0 ≤ u.tag ∧ u.tag ≤ ((s.waking t k).book ((s.waking t k).dom u.group)).1 + 1 ∧ 0 ≤ u.left ∧ u.left ≤ 1000 := fun v hv e1 e2 e3 => by
        have h2 := h.was v hv
        obtain ⟨d', hd', hdD'⟩ := hB.domT hv
        rw [hk3.dom, hdm2, e1, e2, e3, hd', show (s.waking t k).book d' = (s.wakes t).book d' from rfl, hbs2]
        rw [hd'] at h2
        split
        · rename_i e; subst e
          rw [hb] at h2; exact h2
        · exact h2
      rcases hin3 u hu with ⟨h1, _⟩ | ⟨_, e1, e2, e3, _⟩
      · exact hbd u h1 rfl rfl rfl
      · exact hbd t ht e1 e2 e3
    · rcases hin3 u hu with ⟨h1, hne⟩ | ⟨_, _, _, _, _, h2⟩
      · obtain ⟨e, he, hl⟩ := h.left u h1 hur
        obtain ⟨d', hd', hdD'⟩ := hB.domT h1
        rw [hk3.dom, hdm2, hd', show (s.waking t k).book d' = (s.wakes t).book d' from rfl, hbs2]
        rw [hd'] at he
        split
        · rename_i e; subst e
          rw [hb] at he
          obtain ⟨e', g1, _, g3⟩ := hfind2 u.id e hne he
          exact ⟨e', g1, g3 hl⟩
        · exact ⟨e, he, hl⟩
      · rw [h2, hr] at hur; cases hur
    · obtain ⟨v, hv, e⟩ := (hk2.trans hk3).mem hu
      rw [hk3.T, hT2, hk3.dom, hdm2, ← e.group, ← e.mask]
      rcases woken_mem hB ht hv with ⟨h1, _⟩ | rfl
      · exact h.fit v h1
      · exact h.fit t ht
  obtain ⟨hOk, hSet, hmv⟩ := hX.settled hK hdD
  have hb3 : (s.waking t k).book d = (low, L2) := (hbs2 d).trans (if_pos rfl)
  refine ⟨d, ⟨ha, ?_, hB.mask t ht, hc, hd, hdD, hB1, ⟨low, L, hat, hNL, hnone, ?_, ?_, ?_⟩, ?_, ⟨low, L2, ?_⟩⟩, ?_, ?_, fun u hu => ?_⟩
  · obtain ⟨y, hy⟩ := hB.grp t ht
    have := hB.sleeper hj ha hy
    exact ⟨y, hy, by omega⟩
  · rw [hz]
    have := hbk.low
    exact ⟨⟨hwas.1, by show t.tag ≤ _; omega⟩, ⟨hwas.2.2.1, hwas.2.2.2⟩, ⟨hz1, hz2⟩⟩
  · have := hbk.low; omega
  · exact hwas.2.1
  · exact inOk (t := { t with awake := true }) hP2 hB2 hme2 ⟨rfl, rfl, rfl, rfl, rfl, rfl⟩ hk64 hE2
  · rw [hb3] at hSet; exact hSet
  · rw [Sys.wake, hd]; exact hOk
  · rw [Sys.wake, hd]; exact (hk2.trans hk3).trans (Skel.settled d)
  · rw [Sys.wake, hd] at hu
    obtain ⟨v, hv, e⟩ := hmv u hu
    exact ⟨v, hin4 v hv, e⟩
end Sys
end Go.Proofs.YtpbnjifefoniiaaGreatDoor
namespace Go.Proofs.YtpbnjifefoniiaaGreatDoor
open Go Go.SE
theorem sys0_base {q th gr : Nat} {xs : List Nat} (hm : ∀ m ∈ xs, m < 18446744073709551616) (hn : xs.length ≤ 8) (h0 : TP.topoE xs = 0) (hq : 1 ≤ q ∧ q ≤ 1000) (hth : 1 ≤ th ∧ th ≤ 64) (hgr : 1 ≤ gr ∧ gr ≤ 64) (hD : xs.length ≤ gr) : (sys0 q th gr xs xs.length).Base xs.length := by
  obtain ⟨h1, h2, h3, h4⟩ := rootsN_ok hgr xs.length hD
  have hne : xs.length ≠ 0 := fun e => by
    rw [TP.topoE, if_pos (.inl e)] at h0; exact absurd h0 (by decide)
  have hR := TP.new_T hm h0
  have hnone : ∀ k (y : Grp), y ∈ (rootsN gr k).L → y.members = 0 ∧ y.awake = 0 := fun k => by
    induction k with
    | zero => intro y hy; exact absurd hy (by simp [rootsN])
    | succ k ih =>
      intro y hy
      rcases List.mem_append.1 hy with h | h
      · exact ih y h
      · have e : y = _ := List.mem_singleton.1 h
        rw [e]; exact ⟨rfl, rfl⟩
  refine ⟨hq, ⟨by omega, hn⟩, TP.topoT_ok hm hn, rfl, fun d hd => hR.online_ne hd, h1, ?_, ?_, .nil, by simp [sys0], by simp [sys0], by simp [sys0], by simp [sys0], fun y hy => (hnone _ y hy).1, fun y hy => (hnone _ y hy).2, by simp [sys0], by simp [sys0]⟩
  · show 1 ≤ (List.replicate th (0 : Int)).length ∧ (List.replicate th (0 : Int)).length ≤ 64
    rw [List.length_replicate]; exact hth
  · exact tids_rep th
abbrev T3 : TP.Topo := TP.topoT [3]
def E0 : Sys := ⟨10, T3, ⟨4, 1, [⟨1, -1, 1, 2, 0⟩]⟩, [1, 2, 0, 0], 2, [⟨1, 0, 1, 1, 3, false, false, -1, 0, 0⟩, ⟨2, 1, 1, 3, 3, false, false, -1, 0, 0⟩], [(1, [])], List.replicate 64 [], [0, 0, 0, 0], List.replicate 64 0⟩
def E1 : Sys := ⟨10, T3, ⟨4, 1, [⟨1, -1, 1, 2, 1⟩]⟩, [1, 2, 0, 0], 2, [⟨1, 0, 1, 1, 3, true, false, 0, 0, 0⟩, ⟨2, 1, 1, 3, 3, false, false, -1, 0, 0⟩], [(1, [⟨1, 1, 10, 10⟩])], (List.replicate 64 []).set 0 [0], [1, 0, 0, 0], List.replicate 64 0⟩
end Go.Proofs.YtpbnjifefoniiaaGreatDoor
namespace Go.Proofs.YtpbnjifefoniiaaGreatDoor
open Go Go.SE
variable {s s' : Sys} {D : Nat} {low K : Int} {L : List En}
namespace Sys
theorem add_F {g wt : Int} {m : Nat} (hj : s.F.joinE g = 0) : (s.add g wt m).F = s.F.upd g fun x => { x with members := x.members + 1 } := by
  show s.F.join g = _
  rw [Forest.join, if_pos hj]
theorem add_mem {g wt : Int} {m : Nat} {u : Th} (hu : u ∈ (s.add g wt m).ths) : u ∈ s.ths ∨ u = s.newT g wt m := by
  rcases List.mem_append.1 hu with h | h
  · exact .inl h
  · exact .inr (List.mem_singleton.1 h)
theorem add_to {g wt : Int} {m : Nat} {u : Th} (hu : u ∈ s.ths) : u ∈ (s.add g wt m).ths := List.mem_append_left _ hu
theorem Ok.add (h : s.Ok D K) {g wt : Int} {m : Nat} {y : Grp} (hg : s.F.get g = some y) (hwt : 1 ≤ wt ∧ wt ≤ 10000) (hm : m < 18446744073709551616) (hc : s.T.checkE (s.dom g) m = 0) (hj : s.F.joinE g = 0) (hroom : 0 ∈ s.sl) (hlast : s.last < 2147483648) : (s.add g wt m).Ok D K := by
  have hB := h.base
  have hF := add_F (s := s) (wt := wt) (m := m) hj
  have hd : ∀ i, (s.add g wt m).dom i = s.dom i := dom_upd (g := g) hF (fun _ => rfl) fun _ => rfl
  have hlike : Like s.F (s.add g wt m).F := by rw [hF]; exact Like.upd (fun _ => rfl) (fun _ => rfl) fun _ => rfl
  have hT : ∀ d, (s.add g wt m).awakeT d = s.awakeT d := fun d => by
    show (s.ths ++ [s.newT g wt m]).filter _ = s.ths.filter _
    rw [List.filter_append, List.filter_cons, if_neg (by show ¬ (false && _) = true; simp), List.filter_nil, List.append_nil]
    exact List.filter_congr fun u _ => by rw [hd]
  have hi : ∀ d, (s.add g wt m).awakeI d = s.awakeI d := fun d => by rw [awakeI, awakeI, hT]
  have hz : ∀ d, (s.add g wt m).sizesL d = s.sizesL d := fun d => sizesL_of rfl rfl hlike (by rw [leaves, leaves, hT])
  have P := h.pl
  refine ⟨hB.add hg hwt hm hj hroom hlast, h.bl, ⟨P.curl, P.lsl, ?_, fun u hu ha hn => ?_, fun u hu hr => ?_, fun c id hc hid => ?_, fun u hu hr => ?_, fun c q hq n hn => ?_, fun u hu ha hr hn => ?_, P.nod, P.srt⟩, fun u hu ha hr hn => ?_, fun u hu ha hn => ?_, fun d hd' => ?_, fun d hd' _ => ?_, fun d hd' _ => h.has d hd' trivial, fun u hu ha => ?_, fun u hu => ?_, fun u hu hr => ?_, fun u hu => ?_⟩
  · show s.tg.length = (s.sl.set _ _).length
    rw [List.length_set]; exact P.tgl
  · rcases add_mem hu with h1 | rfl
    · exact P.core u h1 ha hn
    · cases ha
  · rcases add_mem hu with h1 | rfl
    · exact P.runs u h1 hr
    · cases hr
  · obtain ⟨u, h1, h2⟩ := P.cur c id hc hid
    exact ⟨u, add_to h1, h2⟩
  · rcases add_mem hu with h1 | rfl
    · exact P.curOf u h1 hr
    · cases hr
  · obtain ⟨u, h1, h2⟩ := P.lane c q hq n hn
    exact ⟨u, add_to h1, h2⟩
  · rcases add_mem hu with h1 | rfl
    · exact P.laneOf u h1 ha hr hn
    · cases ha
  · rcases add_mem hu with h1 | rfl
    · rw [show (s.add g wt m).tagOf u = s.tagOf u by rw [tagOf, tagOf, hd]; rfl]
      exact h.tags u h1 ha hr hn
    · cases ha
  · rw [hd]
    rcases add_mem hu with h1 | rfl
    · exact h.on u h1 ha hn
    · cases ha
  · rw [hi]; exact h.bk d hd'
  · rw [hz]; exact h.sz d hd' trivial
  · rcases add_mem hu with h1 | rfl
    · exact h.sleep u h1 ha
    · rfl
  · rw [hd]
    rcases add_mem hu with h1 | rfl
    · exact h.was u h1
    · obtain ⟨h1, h2, h3⟩ := dom_there hB.F hg
      obtain ⟨d, hd'⟩ : ∃ d : Nat, s.dom g = d := ⟨(s.dom g).toNat, by omega⟩
      have := (h.bk d (by omega)).low
      show 0 ≤ (0 : Int) ∧ (0 : Int) ≤ (s.book (s.dom g)).1 + 1 ∧ 0 ≤ (0 : Int) ∧ (0 : Int) ≤ 1000
      rw [hd']; omega
  · rw [hd]
    rcases add_mem hu with h1 | rfl
    · exact h.left u h1 hr
    · cases hr
  · rw [hd]
    rcases add_mem hu with h1 | rfl
    · exact h.fit u h1
    · exact hc
theorem sys0_ok {q th gr : Nat} {xs : List Nat} (hm : ∀ m ∈ xs, m < 18446744073709551616) (hn : xs.length ≤ 8) (h0 : TP.topoE xs = 0) (hq : 1 ≤ q ∧ q ≤ 1000) (hth : 1 ≤ th ∧ th ≤ 64) (hgr : 1 ≤ gr ∧ gr ≤ 64) (hD : xs.length ≤ gr) : (sys0 q th gr xs xs.length).Ok xs.length 1 := by
  have hB := sys0_base hm hn h0 hq hth hgr hD
  have hno : ∀ u ∈ (sys0 q th gr xs xs.length).ths, False := fun u hu => by cases hu
  have hbk : ∀ d : Nat, d < xs.length → (sys0 q th gr xs xs.length).book d = (1, []) := fun d hd => by
    show (List.replicate xs.length ((1 : Int), ([] : List En))).getD (d : Int).toNat (0, []) = _
    rw [Int.toNat_natCast, List.getD_eq_getElem?_getD, List.getElem?_replicate, if_pos hd]; rfl
  have hL : ∀ (c : Nat) (q' : List Nat), (sys0 q th gr xs xs.length).Ls[c]? = some q' → q' = [] := fun c q' h => by
    have h : (List.replicate 64 ([] : List Nat))[c]? = some q' := h
    rw [List.getElem?_replicate] at h
    split at h
    · exact (Option.some.inj h).symm
    · cases h
  refine ⟨hB, List.length_replicate, ⟨List.length_replicate, List.length_replicate, by show (List.replicate th (0 : Int)).length = (List.replicate th (0 : Int)).length; rfl, fun u hu => (hno u hu).elim, fun u hu => (hno u hu).elim, fun c id hc hid => ?_, fun u hu => (hno u hu).elim, fun c q' hq n hn => ?_, fun u hu => (hno u hu).elim, fun c q' hq => ?_, fun c q' hq => ?_⟩, fun u hu => (hno u hu).elim, fun u hu => (hno u hu).elim, fun d hd => ?_, fun d hd _ => ?_, fun d hd _ => ?_, fun u hu => (hno u hu).elim, fun u hu => (hno u hu).elim, fun u hu => (hno u hu).elim, fun u hu => (hno u hu).elim⟩
  · have hc : (List.replicate 64 (0 : Int))[c]? = some id := hc
    rw [List.getElem?_replicate] at hc
    split at hc
    · exact absurd (Option.some.inj hc).symm hid
    · cases hc
  · rw [hL c q' hq] at hn; cases hn
  · rw [hL c q' hq]; exact List.nodup_nil
  · rw [hL c q' hq]; exact List.Pairwise.nil
  · rw [hbk d hd]
    exact ⟨rfl, by decide, fun e he => by cases he⟩
  · rw [hbk d hd]; rfl
  · rw [hbk d hd]
    exact fun h => absurd rfl h
def waits (s : Sys) (c : Int) : List Th := s.ths.filter fun t => t.awake && !t.running && decide (t.core = c)
theorem nod_ext : ∀ {a b : List Nat}, a.Nodup → b.Nodup → (∀ x, x ∈ a ↔ x ∈ b) → a.length = b.length
  | [], [], _, _, _ => rfl
  | [], y :: b, _, _, h => absurd ((h y).2 (by simp)) (by simp)
  | x :: a, b, ha, hb, h => by
    have hx : x ∈ b := (h x).1 (by simp)
    have ha' := List.nodup_cons.1 ha
    have h1 := nod_ext ha'.2 (hb.erase x) fun z => by
      rw [hb.mem_erase_iff]
      constructor
      · intro hz
        exact ⟨fun e => ha'.1 (e ▸ hz), (h z).1 (by simp [hz])⟩
      · rintro ⟨hz, h2⟩
        exact (List.mem_cons.1 ((h z).2 h2)).resolve_left hz
    have h2 : 0 < b.length := List.length_pos_of_mem hx
    rw [List.length_erase_of_mem hx] at h1
    rw [List.length_cons]; omega
theorem Placed.count (h : s.Placed 0) (hB : s.Base D) {c : Nat} (hc : c < 64) : (s.lane c).length = (s.waits c).length := by
  have hq := h.laneN hc
  have e : (s.waits c).length = ((s.waits c).map Th.slot).length := by rw [List.length_map]
  rw [e]
  have hnd : ((s.waits c).map Th.slot).Nodup := by
    have h1 : ((s.ths.filter fun t => t.awake && !t.running && decide (t.core = (c : Int))).map Th.id).Nodup := (List.filter_sublist.map Th.id).nodup hB.nod
    have key : ∀ l : List Th, (∀ t ∈ l, t ∈ s.ths) → (l.map Th.id).Nodup → (l.map Th.slot).Nodup := by
      intro l
      induction l with
      | nil => intro _ _; exact List.nodup_nil
      | cons a l ih =>
        intro hm hn
        have hn' := List.nodup_cons.1 hn
        refine List.nodup_cons.2 ⟨fun hh => ?_, ih (fun t ht => hm t (by simp [ht])) hn'.2⟩
        obtain ⟨b, hb, e⟩ := List.mem_map.1 hh
        have := hB.slotI (hm b (by simp [hb])) (hm a (by simp)) e
        subst this
        exact hn'.1 (List.mem_map.2 ⟨b, hb, rfl⟩)
    exact key _ (fun t ht => (List.mem_filter.1 ht).1) h1
  refine nod_ext (h.nod c _ hq) hnd fun n => ?_
  rw [List.mem_map]
  constructor
  · intro hn
    obtain ⟨t, h1, h2, h3, h4, h5, _⟩ := h.lane c _ hq n hn
    exact ⟨t, List.mem_filter.2 ⟨h1, by simp [h3, h4, h5]⟩, h2⟩
  · rintro ⟨t, ht, rfl⟩
    obtain ⟨h1, h2⟩ := List.mem_filter.1 ht
    simp only [Bool.and_eq_true, Bool.not_eq_true', decide_eq_true_eq] at h2
    obtain ⟨q, h3, h4⟩ := h.laneOf t h1 h2.1.1 h2.1.2 (by have := hB.idr t h1; omega)
    rw [h2.2, Int.toNat_natCast, hq] at h3
    rw [Option.some.inj h3]; exact h4
end Sys
end Go.Proofs.YtpbnjifefoniiaaGreatDoor
open Go Go.SE
namespace Go.SE
variable {C : Cx} {n : Nat} {Q : Kont} {e : Env} {H : WP} {ops : Array Oper} {rest : List Oper} {o : Oper} {k : Env → WP → Prop}
theorem wrap_neg {a : Nat} (h : a < 18446744073709551616) : IntKind.u64.wrap (-(a : Int)) = (((18446744073709551616 - a) % 18446744073709551616 : Nat) : Int) := by
  simp [IntKind.wrap, IntKind.signed, IntKind.bits]
  omega
theorem NegN {d a : Nat} {t : TypeId} {x : Operand} (ha : a < 18446744073709551616) (h : EL C n rest ops Q ((d, u64 ((18446744073709551616 - a) % 18446744073709551616)) :: e) H) (hg : want ops e o = some true := by exact rfl) (ho : o.op = .unOp .neg t x := by exact rfl) (hd : o.dst = some d := by exact rfl) (hn : Nat.ble n d = false := by exact rfl)
    (hx : ev e x = some (u64 a) := by exact rfl) : EL C n (o :: rest) ops Q e H :=
  el_cons hg (eo_value hd hn (fun ac w hf hw => by
    rw [show u64 ((18446744073709551616 - a) % 18446744073709551616) = .int .u64 (IntKind.u64.wrap (-(a : Int))) from by rw [u64, wrap_neg ha]]
    unfold execOp
    rw [ho]
    simp [hf.ev hx, u64, Op.unary, Op.intArith]) h)
theorem AndN {d a b : Nat} {t t' : TypeId} {x y : Operand} (ha : a < 18446744073709551616) (hb : b < 18446744073709551616) (h : EL C n rest ops Q ((d, u64 (a &&& b)) :: e) H) (hg : want ops e o = some true := by exact rfl) (ho : o.op = .binOp .and t x y t' := by exact rfl) (hd : o.dst = some d := by exact rfl) (hn : Nat.ble n d = false := by exact rfl)
    (hx : ev e x = some (u64 a) := by exact rfl) (hy : ev e y = some (u64 b) := by exact rfl) : EL C n (o :: rest) ops Q e H :=
  el_cons hg (eo_bits (c := a &&& b) ho hd hn hx hy ha hb rfl h)
theorem SubN {d a b : Nat} {t t' : TypeId} {x y : Operand} (hba : b ≤ a) (ha : a < 18446744073709551616) (h : EL C n rest ops Q ((d, u64 (a - b)) :: e) H) (hg : want ops e o = some true := by exact rfl) (ho : o.op = .binOp .sub t x y t' := by exact rfl) (hd : o.dst = some d := by exact rfl) (hn : Nat.ble n d = false := by exact rfl)
    (hx : ev e x = some (u64 a) := by exact rfl) (hy : ev e y = some (u64 b) := by exact rfl) : EL C n (o :: rest) ops Q e H :=
  el_cons hg (eo_arith (c := (a : Int) - b) ho hd hn hx hy rfl (by simp only [inR]; omega) (by rw [show (a : Int) - b = ((a - b : Nat) : Int) by omega]; exact h))
structure Low (x k : Nat) : Prop where
  at_ : x.testBit k = true
  no : ∀ j, j < k → x.testBit j = false
theorem Low.form {x k : Nat} (h : Low x k) : x = 2 ^ (k + 1) * (x / 2 ^ (k + 1)) + 2 ^ k := by
  apply Nat.eq_of_testBit_eq
  intro i
  rw [Nat.testBit_two_pow_mul_add _ (Nat.pow_lt_pow_right (by decide) (Nat.lt_succ_self k)), Nat.testBit_two_pow]
  by_cases hi : i < k + 1
  · rw [if_pos hi]
    by_cases e : k = i
    · subst e; rw [h.at_]; simp
    · rw [h.no i (by omega)]; simp [e]
  · rw [if_neg hi, Nat.testBit_div_two_pow]
    congr 1; omega
theorem low_ex {x : Nat} (h : x ≠ 0) : ∃ k, Low x k := by
  have : ∃ k, x.testBit k = true := Nat.exists_testBit_of_ne_zero h
  obtain ⟨k, hk⟩ := this
  induction k using Nat.strongRecOn with
  | _ k ih =>
    by_cases hh : ∃ j, j < k ∧ x.testBit j = true
    · obtain ⟨j, h1, h2⟩ := hh
      exact ih j h1 h2
    · exact ⟨k, hk, fun j hj => by
        cases hb : x.testBit j with
        | false => rfl
        | true => exact absurd ⟨j, hj, hb⟩ hh⟩
theorem Low.lt {x k : Nat} (h : Low x k) (hx : x < 18446744073709551616) : k < 64 := by
  apply Classical.byContradiction
  intro hk
  have h1 : x < 2 ^ k := Nat.lt_of_lt_of_le (show x < 2 ^ 64 from hx) (Nat.pow_le_pow_right (by decide) (by omega))
  have h2 := h.at_
  rw [Nat.testBit_lt_two_pow h1] at h2
  cases h2
theorem Low.less {x k : Nat} (h : Low x k) (i : Nat) : (x &&& (x - 1)).testBit i = (x.testBit i && !decide (i = k)) := by
  have hf := h.form
  have hp : 0 < 2 ^ k := Nat.two_pow_pos k
  have h1 : x - 1 = 2 ^ (k + 1) * (x / 2 ^ (k + 1)) + (2 ^ k - 1) := by omega
  have hlt : 2 ^ k - 1 < 2 ^ (k + 1) := by rw [Nat.pow_succ]; omega
  rw [Nat.testBit_and, h1, Nat.testBit_two_pow_mul_add _ hlt, Nat.testBit_two_pow_sub_one]
  by_cases hi : i < k + 1
  · rw [if_pos hi]
    by_cases e : i = k
    · subst e; simp
    · rw [h.no i (by omega)]; simp
  · rw [if_neg hi, Nat.testBit_div_two_pow, show i - (k + 1) + (k + 1) = i by omega]
    have : ¬ i = k := by omega
    simp [this]
theorem Low.neg {x k : Nat} (h : Low x k) (hx : x < 18446744073709551616) : x &&& ((18446744073709551616 - x) % 18446744073709551616) = 2 ^ k := by
  have hk := h.lt hx
  have hf := h.form
  have h0 : 0 < x := by have := Nat.two_pow_pos k; omega
  rw [Nat.mod_eq_of_lt (by omega)]
  have e64 : (18446744073709551616 : Nat) = 2 ^ (k + 1) * 2 ^ (63 - k) := by rw [← Nat.pow_add, show k + 1 + (63 - k) = 64 by omega]
  have hq : x / 2 ^ (k + 1) < 2 ^ (63 - k) := Nat.div_lt_of_lt_mul (by rw [← e64]; exact hx)
  have h1 : 18446744073709551616 - x = 2 ^ (k + 1) * (2 ^ (63 - k) - (x / 2 ^ (k + 1) + 1)) + 2 ^ k := by
    rw [Nat.mul_sub, ← e64, Nat.mul_add]
    have : 2 ^ (k + 1) = 2 * 2 ^ k := by rw [Nat.pow_succ]; omega
    have h2 : 2 ^ (k + 1) * (x / 2 ^ (k + 1)) + 2 ^ (k + 1) * 1 ≤ 18446744073709551616 := by
      rw [← Nat.mul_add, e64]; exact Nat.mul_le_mul_left _ hq
    omega
  apply Nat.eq_of_testBit_eq
  intro i
  have hp : 2 ^ k < 2 ^ (k + 1) := Nat.pow_lt_pow_right (by decide) (Nat.lt_succ_self k)
  rw [Nat.testBit_and, h1, Nat.testBit_two_pow_mul_add _ hp]
  by_cases hi : i < k + 1
  · rw [if_pos hi, Nat.testBit_two_pow]
    by_cases e : k = i
    · subst e; rw [h.at_]; simp
    · simp [e]
  · rw [if_neg hi, Nat.testBit_two_pow_sub_succ hq, Nat.testBit_div_two_pow, show i - (k + 1) + (k + 1) = i by omega, Nat.testBit_two_pow]
    have : ¬ k = i := by omega
    cases x.testBit i <;> simp [this]
end Go.SE
namespace Go.Proofs.YtpbnjifefoniiaaGreatDoor
open Go Go.SE
variable {w0 : World} {w : World} {l : List HP} {i : Nat}
abbrev tabN : List Nat := [0, 1, 56, 2, 57, 49, 28, 3, 61, 58, 42, 50, 38, 29, 17, 4, 62, 47, 59, 36, 45, 43, 51, 22, 53, 39, 33, 30, 24, 18, 12, 5, 63, 55, 48, 27, 60, 41, 37, 16, 46, 35, 44, 21, 52, 32, 23, 11, 54, 26, 40, 15, 34, 20, 31, 10, 25, 14, 19, 9, 13, 8, 7, 6]
abbrev tabC : List Value := tabN.map fun n : Nat => .int .u8 (n : Int)
abbrev Tab (w0 : World) : Prop := View w0 [old w0] 1 (some ⟨0, 0, none⟩) tabC 64 64
def tabI (k : Nat) : Nat := 2 ^ k * 285870213051353865 % 18446744073709551616 / 2 ^ 58
theorem tab_all : ∀ k, k < 64 → tabI k < 64 ∧ tabN[tabI k]? = some k := by decide +kernel
theorem tab_at {k : Nat} (h : k < 64) : tabI k < 64 ∧ tabN[tabI k]? = some k := tab_all k h
theorem tz_any (hT : Tab w0) (hi : l[i]? = some (old w0)) {m k : Nat} (hm : m < 18446744073709551616) (hk : Low m k) : Does cx F_math_bits_TrailingZeros64 [u64 m] (S w0 l) fun v w => v = int k ∧ S w0 l w := by
  have h0 : m ≠ 0 := fun e => by have := hk.at_; rw [e] at this; simp at this
  have hk64 := hk.lt hm
  obtain ⟨ht1, ht2⟩ := tab_at hk64
  refine fn_enter (n := N_math_bits_TrailingZeros64) fn_math_bits_TrailingZeros64 rfl rfl rfl ?_
  refine TP.wlk ?_
  refine ej_dec rfl (fun h => absurd h (by omega)) (fun _ => ?_)
  refine TP.wlk ?_
  refine NegN hm ?_
  refine TP.wlk ?_
  refine AndN hm (Nat.mod_lt _ (by decide)) ?_
  rw [hk.neg hm]
  refine TP.wlk ?_
  refine MulN ?_
  refine TP.wlk ?_
  refine ShrK 58 ?_
  refine TP.wlk ?_
  show EL _ _ _ _ _ ((_, u64 (tabI k)) :: _) _
  refine ec (oIdxa (m := 64) ?_ (hi := ⟨by omega, by omega⟩))
  refine el_val 11 (u := .pointer (some ⟨0, 0 + tabI k, none⟩)) rfl (by rw [Int.toNat_natCast]; simp) ?_
  refine ec (oLdv (a := some ⟨0, 0, none⟩) (tabI k) (hT.one hi) ?_ (v := .int .u8 (k : Int)) (hv := by rw [List.getElem?_map, ht2]; rfl))
  refine ec (oConv .i64 ?_ (hr := ⟨by omega, by omega⟩))
  refine wk ?_
  exact eq_rett rfl fun w hw => ⟨rfl, hw⟩
theorem First_any (hT : Tab w0) (hi : l[i]? = some (old w0)) {m k : Nat} (hm : m < 18446744073709551616) (hk : Low m k) : Does cx F_mask_Set_First [u64 m] (S w0 l) fun v w => v = int k ∧ S w0 l w := by
  have h0 : m ≠ 0 := fun e => by have := hk.at_; rw [e] at this; simp at this
  refine fn_enter (n := N_mask_Set_First) fn_mask_Set_First rfl rfl rfl ?_
  refine wk ?_
  refine ej_dec rfl (fun h => absurd h (by omega)) (fun _ => ?_)
  refine wk ?_
  refine C1 (tz_any hT hi hm hk) real_math_bits_TrailingZeros64 ?_
  refine wk ?_
  exact eq_rett rfl fun w hw => ⟨rfl, hw⟩
theorem Cores_any (m : Nat) : Does cx F_mask_Set_Cores [u64 m] (S w0 l) fun v w => ∃ p : Nat, v = .func (.func F_mask_Set_Cores_1) #[] #[ptr p] ∧ True ∧ S w0 (cells p T_mask_Set [u64 m] :: l) w := by
  refine fn_enter (n := N_mask_Set_Cores) fn_mask_Set_Cores rfl rfl rfl ?_
  refine wk ?_
  refine ec (oBox fun p => ?_)
  refine wk ?_
  exact eq_rett rfl fun w hw => ⟨p, rfl, trivial, hw⟩
def coresOf (m : Nat) : List Nat := (List.range 64).filter fun k => m.testBit k
theorem coresOf_mem {m k : Nat} : k ∈ coresOf m ↔ k < 64 ∧ m.testBit k = true := by simp [coresOf]
theorem range_from : ∀ (n k : Nat), k < n → List.range n = List.range k ++ k :: (List.range (n - (k + 1))).map fun i => i + (k + 1)
  | n, k, h => by
    have e : n = k + 1 + (n - (k + 1)) := by omega
    conv => lhs; rw [e, List.range_add, List.range_succ]
    rw [List.append_assoc, List.singleton_append]
    congr 2
    exact List.map_congr_left fun i _ => Nat.add_comm ..
theorem cores_low {m k : Nat} (hm : m < 18446744073709551616) (h : Low m k) : coresOf m = k :: coresOf (m &&& (m - 1)) := by
  have hk := h.lt hm
  have hl := h.less
  rw [coresOf, coresOf, range_from 64 k hk, List.filter_append, List.filter_append, List.filter_cons, List.filter_cons, if_pos h.at_, if_neg (by rw [hl]; simp)]
  have e1 : (List.range k).filter (fun i => m.testBit i) = [] := List.filter_eq_nil_iff.2 fun i hi => by simp [h.no i (List.mem_range.1 hi)]
  have e2 : (List.range k).filter (fun i => (m &&& (m - 1)).testBit i) = [] := List.filter_eq_nil_iff.2 fun i hi => by simp [hl, h.no i (List.mem_range.1 hi)]
  rw [e1, e2, List.nil_append, List.nil_append]
  congr 1
  refine List.filter_congr fun i hi => ?_
  obtain ⟨j, _, rfl⟩ := List.mem_map.1 hi
  rw [hl]
  have : ¬ j + (k + 1) = k := by omega
  simp [this]
theorem cores_zero : coresOf 0 = [] := List.filter_eq_nil_iff.2 fun i _ => by simp
theorem and_lt {a b : Nat} (h : a < 18446744073709551616) : a &&& b < 18446744073709551616 := Nat.lt_of_le_of_lt Nat.and_le_left h
theorem cores_iter (hT : Tab w0) (M : Nat) (hM : M < 18446744073709551616) {σ : Type} {L : σ → List HP} {I Ix : List Nat → σ → Prop} (y : Value) (p : Nat) (s0 : σ) (kp ko : Nat)
    (h2 : ∀ s, (L s)[kp]? = some (cells p T_mask_Set [u64 M])) (h3 : ∀ s, (L s)[ko]? = some (old w0)) (h0 : I [] s0)
    (hy : ∀ pre (c : Nat) rest σ fr, coresOf M = pre ++ c :: rest → I pre σ → Yld cx y [int c] (S w0 (fr ++ L σ)) fun t w => ∃ σ', (if t then I (pre ++ [c]) σ' else Ix (pre ++ [c]) σ') ∧ S w0 (fr ++ L σ') w) :
    Does cx F_mask_Set_Cores_1 [y, ptr p] (S w0 (L s0)) fun _ w => ∃ σ', (I (coresOf M) σ' ∨ ∃ pre, Ix pre σ') ∧ S w0 (L σ') w := by
  refine fn_enter (n := N_mask_Set_Cores_1) fn_mask_Set_Cores_1 rfl rfl rfl ?_
  have h20 := h2 s0
  refine wk ?_
  refine Ld (hi := h20) ?_
  refine wk ?_
  refine ej_loop3 (fun (pre : List Nat) (r : Nat) (t : σ) => coresOf M = pre ++ coresOf r ∧ r < 18446744073709551616 ∧ I pre t) (fun _ r _ => [(0, y), (1, ptr p), (3, u64 r)]) (fun _ _ t => S w0 (L t)) (fun _ r _ => (coresOf r).length) [] M s0 ⟨rfl, hM, h0⟩ (le_of _ _ rfl) (fun w hw => hw) ?_
  rintro pre r t ⟨hs, hr, hI⟩
  refine wk ?_
  refine ej_dec rfl (fun h => ?_) (fun h => ?_)
  · have h : r ≠ 0 := by omega
    obtain ⟨k, hk⟩ := low_ex h
    have hc := cores_low hr hk
    rw [hc] at hs
    refine wk ?_
    refine C1 (First_any hT (h3 t) hr hk) real_mask_Set_First ?_
    refine ec (eo_yield (hy pre k _ t [] hs hI) rfl rfl rfl rfl rfl rfl rfl fun tb => ?_)
    refine wk ?_
    refine ej_ex (fun w hw => hw) fun t' => ej_pre (fun w hw => hw) fun ht' => ?_
    cases tb with
    | true =>
      refine ej_imp' (H' := S w0 (L t')) (fun w hw => hw) ?_
      refine wk ?_
      refine el_val 9 (u := u64 (r - 1)) rfl (by congr 1; omega) ?_
      refine AndN (b := r - 1) hr (by omega) ?_
      refine wk ?_
      refine eq_back3 (pre ++ [k]) (r &&& (r - 1)) t' ⟨by rw [hs]; simp, and_lt hr, by simpa using ht'⟩ (by rw [hc]; simp) (le_of _ _ rfl) fun w hw => hw
    | false =>
      refine wk ?_
      exact eq_rett rfl fun w hw => ⟨t', .inr ⟨_, by simpa using ht'⟩, hw⟩
  · have h : r = 0 := by omega
    subst h
    rw [cores_zero, List.append_nil] at hs
    subst hs
    refine wk ?_
    exact eq_end [] rvs_nil fun w hw => ⟨t, .inl hI, hw⟩
end Go.Proofs.YtpbnjifefoniiaaGreatDoor
namespace Go.Proofs.YtpbnjifefoniiaaGreatDoor
open Go Go.SE
variable {s s' : Sys} {D : Nat} {low K : Int} {L : List En}
def lowest (m : Nat) : Nat := (coresOf m).headD 0
namespace Sys
def load (s : Sys) (c : Nat) (but : Int) : Int := (((s.inLane (s.lane c)).filter fun id => !decide (id = but)).length : Nat) + if s.cur.getD c 0 ≠ 0 ∧ s.cur.getD c 0 ≠ but then 1 else 0
def better (s : Sys) (id : Int) (b c : Nat) : Nat := if s.load c id < s.load b id then c else b
def best (s : Sys) (id : Int) (m : Nat) : Nat := (coresOf m).foldl (s.better id) (lowest m)
theorem fold_best (s : Sys) (id : Int) : ∀ (l : List Nat) (b : Nat), s.load (l.foldl (s.better id) b) id ≤ s.load b id ∧ (∀ c ∈ l, s.load (l.foldl (s.better id) b) id ≤ s.load c id) ∧ (l.foldl (s.better id) b ∈ l ∨ l.foldl (s.better id) b = b)
  | [], b => ⟨Int.le_refl _, by simp, .inr rfl⟩
  | c :: l, b => by
    obtain ⟨h1, h2, h3⟩ := fold_best s id l (s.better id b c)
    have hb : s.load (s.better id b c) id ≤ s.load b id ∧ s.load (s.better id b c) id ≤ s.load c id ∧ (s.better id b c = c ∨ s.better id b c = b) := by
      unfold better
      split
      · rename_i h; exact ⟨by omega, Int.le_refl _, .inl rfl⟩
      · rename_i h; exact ⟨Int.le_refl _, by omega, .inr rfl⟩
    show s.load (l.foldl (s.better id) (s.better id b c)) id ≤ _ ∧ _ ∧ (l.foldl (s.better id) (s.better id b c) ∈ c :: l ∨ l.foldl (s.better id) (s.better id b c) = b)
    refine ⟨by omega, fun a ha => ?_, ?_⟩
    · rcases List.mem_cons.1 ha with rfl | ha
      · show s.load (l.foldl (s.better id) (s.better id b a)) id ≤ _
        omega
      · exact h2 a ha
    · rcases h3 with h3 | h3
      · exact .inl (by simp [h3])
      · rcases hb.2.2 with e | e
        · exact .inl (by rw [h3, e]; simp)
        · exact .inr (by rw [h3, e])
theorem lowest_mem {m : Nat} (h : coresOf m ≠ []) : lowest m ∈ coresOf m := by
  rw [lowest]
  cases hc : coresOf m with
  | nil => exact absurd hc h
  | cons a l => simp
theorem cores_ne {m : Nat} (hm : m < 18446744073709551616) (h : m ≠ 0) : coresOf m ≠ [] := by
  obtain ⟨k, h1, h2⟩ := TP.some_bit hm h
  exact List.ne_nil_of_mem (coresOf_mem.2 ⟨h1, h2⟩)
theorem best_in {m : Nat} (h : coresOf m ≠ []) (id : Int) : s.best id m ∈ coresOf m := by
  rcases (fold_best s id (coresOf m) (lowest m)).2.2 with h1 | h1
  · exact h1
  · rw [best, h1]; exact lowest_mem h
theorem best_least {m : Nat} (id : Int) {c : Nat} (hc : c ∈ coresOf m) : s.load (s.best id m) id ≤ s.load c id := (fold_best s id (coresOf m) (lowest m)).2.1 c hc
theorem load_waits (h : s.Placed 0) (hB : s.Base D) {t : Th} (ht : t ∈ s.ths) (ha : t.awake = false) (hr : ∀ u ∈ s.ths, u.running = false) {c : Nat} (hc : c < 64) : s.load c t.id = (s.waits c).length := by
  have hcur : s.cur.getD c 0 = 0 := by
    have hl : c < s.cur.length := by rw [h.curl]; exact hc
    rw [List.getD_eq_getElem?_getD, List.getElem?_eq_getElem hl]
    apply Classical.byContradiction
    intro h0
    obtain ⟨u, h1, _, h3, _⟩ := h.cur c s.cur[c] (List.getElem?_eq_getElem hl) h0
    rw [hr u h1] at h3; cases h3
  have hall : ((s.inLane (s.lane c)).filter fun id => !decide (id = t.id)) = s.inLane (s.lane c) := by
    refine List.filter_eq_self.2 fun id hid => ?_
    obtain ⟨n, hn, rfl⟩ := List.mem_map.1 hid
    obtain ⟨u, h1, rfl, h3, _⟩ := h.lane c _ (h.laneN hc) n hn
    have hs : s.sl.getD u.slot 0 = u.id := by rw [List.getD_eq_getElem?_getD, hB.slot u h1]; rfl
    rw [hs]
    have : u.id ≠ t.id := fun e => by rw [hB.idI h1 ht e, ha] at h3; cases h3
    simp [this]
  rw [load, hall, hcur, if_neg (by simp), inLane, List.length_map, h.count hB hc]; simp
theorem count_via {l l' : List Th} {p p' : Th → Bool} (hi : l'.map Th.id = l.map Th.id) (hN : Nod Th.id l) (h : ∀ t ∈ l', ∀ u ∈ l, u.id = t.id → p' t = p u) : (l'.filter p').length = (l.filter p).length := by
  induction l generalizing l' with
  | nil =>
    have : l' = [] := List.map_eq_nil_iff.1 hi
    rw [this]; rfl
  | cons a l ih =>
    cases l' with
    | nil => simp at hi
    | cons b l' =>
      simp only [List.map_cons, List.cons.injEq] at hi
      have hN' := nod_cons.1 hN
      have e := ih hi.2 hN'.2 fun t ht u hu => h t (by simp [ht]) u (by simp [hu])
      rw [List.filter_cons, List.filter_cons, h b (by simp) a (by simp) hi.1.symm]
      split <;> simp [e]
structure Even (n i rm : Nat) (all : Nat) (s : Sys) : Prop where
  ok : s.Ok 1 (1 + 2 * i)
  many : s.ths.length = i
  last : s.last = i
  up : ∀ t ∈ s.ths, t.awake = true ∧ t.running = false ∧ t.group = 1
  T : s.T = TP.topoT [all]
  L : ∃ y, s.F.L = [y] ∧ y.id = 1 ∧ y.parent = -1
  sl : s.sl.length = rm
  even : ∀ c c' : Nat, c < n → c' < n → (s.waits c).length ≤ (s.waits c').length + 1
noncomputable def spawned (s : Sys) (all : Nat) : Sys := (s.add 1 1 all).wake (s.newT 1 1 all) ((s.add 1 1 all).best (s.last + 1) all)
structure AddOk (s : Sys) (D : Nat) (g wt : Int) (m : Nat) : Prop where
  grp : ∃ y, s.F.get g = some y
  wt : 1 ≤ wt ∧ wt ≤ 10000
  mask : m < 18446744073709551616
  may : s.T.checkE (s.dom g) m = 0
  join : s.F.joinE g = 0
  room : 0 ∈ s.sl
  last : s.last < 2147483648
end Sys
end Go.Proofs.YtpbnjifefoniiaaGreatDoor
namespace Go.Proofs.YtpbnjifefoniiaaGreatDoor
open Go Go.SE
variable {w0 : World} {w : World} {l : List HP} {i : Nat} {sb : Nat} {s : Sys} {D : Nat} {G : Hp} {x : SyX}
theorem load1 {b : Nat} {but : Int} (id : Int) (hi : l[i]? = some (cells b T_int [int but])) : Does cx F_place_Load_1 [int id, ptr b] (S w0 l) fun v w => v = .bool (decide (id = but)) ∧ S w0 l w := by
  refine fn_enter (n := N_place_Load_1) fn_place_Load_1 rfl rfl rfl ?_
  refine wk ?_
  refine Ld (hi := hi) ?_
  refine wk ?_
  exact eq_rett rfl fun w hw => ⟨rfl, hw⟩
theorem pLoad (hP : s.Placed 0) (hB : s.Base D) {c : Nat} (hc : c < 64) (but : Int) : Does cx F_place_Load [ptr sb, int c, int but] (S w0 (syL sb x s l)) fun v w => v = int (s.load c but) ∧ S w0 (syL sb x s l) w := by
  have hroom := hB.room
  have hq := hP.laneN hc
  have hfew := hP.few hB hq
  generalize hqd : s.lane c = q at hq hfew
  refine fn_enter (n := N_place_Load) fn_place_Load rfl rfl rfl ?_
  refine wk ?_
  refine ec (oBox fun b5 => ?_)
  refine wk ?_
  refine el_imp (H' := S w0 (syL sb x s (cells b5 T_int [int but] :: l))) (fun w hw => S.perm hw (perm_ix 10 [1, 2, 3, 4, 5, 6, 7, 8, 9, 0])) ?_
  refine Cx1 (yLane (by omega) (by rw [hP.lsl]; decide) hq (by omega) hP.tgl) real_state_System_Lane fun r _ => ?_
  refine wk ?_
  have hlen : (s.inLane q).length = q.length := List.length_map ..
  rw [← hlen]
  refine C1 (DeleteFunc_row (.func (.func F_place_Load_1) #[] #[ptr b5]) (fun id => decide (id = but)) T_int rfl (by omega) (fun p id hid => yld_of (first := []) (capt := [ptr b5]) real_place_Load_1 (Does.mono (load1 (i := 10) id rfl) (fun _ h => h) fun v w h => ⟨_, h.1, rfl, h.2⟩))) real_slices_DeleteFunc_int_int ?_
  have hfl := List.length_filter_le (fun id : Int => !decide (id = but)) (s.inLane q)
  have hld : s.load c but = (((s.inLane q).filter fun id => !decide (id = but)).length : Nat) + if s.cur.getD c 0 ≠ 0 ∧ s.cur.getD c 0 ≠ but then 1 else 0 := by rw [Sys.load, hqd]
  generalize hzs : (s.inLane q).filter (fun id : Int => !decide (id = but)) = zs at hfl hld
  refine wk ?_
  refine el_imp (H' := S w0 (syL sb x s (rowC r T_int 1 (ints zs) zs.length :: cells b5 T_int [int but] :: l))) (fun w hw => S.perm hw (perm_ix 10 [1, 2, 3, 4, 5, 6, 7, 8, 9, 0])) ?_
  refine C1 (yCurrent hP.curl c hc) real_state_System_Current ?_
  generalize s.cur.getD c 0 = u at hld
  refine wk ?_
  have hend : ∀ (r : Option (Nat × Nat)) (zs : List Value) (n : Nat) w, S w0 (syL sb x s (rowC r T_int 1 zs n :: cells b5 T_int [int but] :: l)) w → S w0 (syL sb x s l) w := fun r zs n w hw => (hw.erase 9).erase 9
  by_cases hu : u ≠ 0 ∧ u ≠ but
  · rw [if_pos hu] at hld
    refine el_gdec rfl rfl (fun h => ?_) (fun h => absurd hu.1 h)
    refine wk ?_
    refine ej_dec rfl (fun h => ?_) (fun h => absurd hu.2 h)
    refine wk ?_
    refine App (cs := [int u]) (i := 9) (fun r' b7 => ?_) (hc := by exact rfl)
    refine wk ?_
    exact eq_rett rfl fun w hw => ⟨by rw [hld]; rfl, hend _ _ _ w hw⟩
  · rw [if_neg hu] at hld
    have hend2 : ∀ w, S w0 (syL sb x s (rowC r T_int 1 (ints zs) zs.length :: cells b5 T_int [int but] :: l)) w → int zs.length = int (s.load c but) ∧ S w0 (syL sb x s l) w := fun w hw => ⟨by rw [hld, Int.add_zero], hend _ _ _ w hw⟩
    refine el_gdec rfl rfl (fun h => ?_) (fun h => ?_)
    · refine wk ?_
      refine ej_dec rfl (fun h2 => absurd ⟨h, h2⟩ hu) (fun h2 => ?_)
      refine wk ?_
      exact eq_rett rfl fun w hw => hend2 w hw
    · refine wk ?_
      exact eq_rett rfl fun w hw => hend2 w hw
end Go.Proofs.YtpbnjifefoniiaaGreatDoor
namespace Go.Proofs.YtpbnjifefoniiaaGreatDoor
open Go Go.SE
variable {w0 : World} {w : World} {l : List HP} {i : Nat} {sb : Nat} {s : Sys} {D : Nat} {G : Hp} {x : SyX}
abbrev amL (sb : Nat) (x : SyX) (s : Sys) (b3 b4 b8 b10 p : Nat) (id : Int) (m : Nat) (tv : List Value) (l : List HP) (c : Nat) : List HP :=
  syL sb x s (cells b10 T_int [int c] :: cells p T_mask_Set [u64 m] :: cells b8 T_state_Thread tv :: cells b4 T_int [int id] :: cells b3 T_P_state_System [ptr sb] :: l)
set_option maxHeartbeats 1600000 in
theorem pAmong (hT : Tab w0) (hi : l[i]? = some (old w0)) (hP : s.Placed 0) (hB : s.Base D) {id : Int} {t : Th} (ht : s.find id = some t) {d b : Nat} (hd : s.dom t.group = d) (hb : x.bp[d]? = some b) {low : Int} {L : List En} (hy : s.bs[d]? = some (low, L)) {e : En} (he : if t.awake = true then kfind En.id L t.id = some e else e = ⟨t.id, t.tag, t.left, 0⟩)
    {m : Nat} (hm : m < 18446744073709551616) (h0 : m ≠ 0) : Does cx F_place_Among [ptr sb, int id, u64 m] (S w0 (syL sb x s l)) fun v w => v = .tuple #[int (s.best id m), int 0] ∧ S w0 (syL sb x s l) w := by
  obtain ⟨k0, hk0⟩ := low_ex h0
  have hlow : lowest m = k0 := by rw [lowest, cores_low hm hk0]; rfl
  refine fn_enter (n := N_place_Among) fn_place_Among rfl rfl rfl ?_
  refine wk ?_
  refine ec (oBox fun b3 => ?_)
  refine ec (oBox fun b4 => ?_)
  refine wk ?_
  refine el_imp (H' := S w0 (syL sb x s (cells b4 T_int [int id] :: cells b3 T_P_state_System [ptr sb] :: l))) (fun w hw => S.perm hw (perm_ix 11 [2, 3, 4, 5, 6, 7, 8, 9, 10, 0, 1])) ?_
  refine C1 (yThread hB.F hB.few8.2 ht hd hb hy he) real_state_System_Thread ?_
  refine wk ?_
  refine ec (oAlloc fun b8 => ?_)
  refine wk ?_
  refine ej_dec rfl (fun h => absurd h (by omega)) (fun _ => ?_)
  refine wk ?_
  refine C1 (First_any (i := i + 12) hT hi hm hk0) real_mask_Set_First ?_
  refine ec (oAlloc fun b10 => ?_)
  refine wk ?_
  refine Cx1 (Cores_any m) real_mask_Set_Cores fun p _ => ?_
  refine wk ?_
  refine ej_imp' (H' := S w0 (amL sb x s b3 b4 b8 b10 p id m (thV t d e) l (lowest m))) (fun w hw => by
    rw [hlow]
    exact S.perm hw (perm_ix 14 [3, 4, 5, 6, 7, 8, 9, 10, 11, 1, 0, 2, 12, 13])) ?_
  generalize thV t d e = tw
  refine ej_rangeFuncA (α := Nat) (β := Unit) (σ := Nat) (fun n : Nat => [int n]) (fun pre z => z = pre.foldl (s.better id) (lowest m)) (fun _ _ _ => False) (fun pre => pre = coresOf m) (fun pre c => c < 64 ∧ ∀ a ∈ pre, a < 64)
    (amL sb x s b3 b4 b8 b10 p id m tw l) (lowest m) (fun n _ => [(3, ptr b3), (4, ptr b4), (10, ptr b10), (11, int n)]) (fun _ _ => []) rfl real_mask_Set_Cores_1 rfl rfl (fun _ => rfl) (by decide) ?_ ?_ ?_ ?_ ?_
  · intro y a' b' M hM hy
    refine Does.mono (cores_iter hT m hm (L := M) (I := fun pre z => z.2 = none ∧ z.1 = pre.foldl (s.better id) (lowest m)) (Ix := fun _ _ => False) y p (lowest m, none) 12 (i + 16) (fun z => by rw [hM]; rfl) (fun z => by rw [hM]; exact hi) ⟨rfl, rfl⟩ ?_) (fun _ h => h) ?_
    · rintro pre c suf ⟨s1, s2⟩ fr hcs ⟨rfl, hI⟩
      refine (hy pre c s1 fr ⟨(coresOf_mem.1 (by rw [hcs]; simp)).1, fun a ha => (coresOf_mem.1 (by rw [hcs]; simp [ha])).1⟩ hI).mono (fun _ h => h) ?_
      rintro t w ⟨s', h1, h2⟩
      refine ⟨s', ?_, h2⟩
      cases t with
      | true => exact h1
      | false => obtain ⟨c, _, h⟩ := h1; exact h
    · rintro v w ⟨s', hs, hw⟩
      refine ⟨s', ?_, hw⟩
      rcases hs with ⟨h1, h2⟩ | ⟨pre, h1⟩
      · exact .inl ⟨h1, coresOf m, rfl, h2⟩
      · exact h1.elim
  · intro m' n l0
    refine wk ?_
    exact eq_asg () rfl (le_of _ _ rfl) fun w h => h
  · rintro m' pre c _ best fr ⟨hc, hpre⟩ rfl
    refine ej_imp' (H' := S w0 (amL sb x s b3 b4 b8 b10 p id m tw (l ++ fr) (pre.foldl (s.better id) (lowest m)))) (fun w hw => S.perm hw (List.perm_append_comm (l₁ := fr) (l₂ := amL sb x s b3 b4 b8 b10 p id m tw l (pre.foldl (s.better id) (lowest m))))) ?_
    generalize hbst : pre.foldl (s.better id) (lowest m) = best
    have hb64 : best < 64 := by
      rw [← hbst]
      rcases (Sys.fold_best s id pre (lowest m)).2.2 with h1 | h1
      · exact hpre _ h1
      · rw [h1, hlow]; exact hk0.lt hm
    have hstep : (pre ++ [c]).foldl (s.better id) (lowest m) = s.better id best c := by rw [List.foldl_append, hbst]; rfl
    refine wk ?_
    have hI : ∀ w, S w0 (amL sb x s b3 b4 b8 b10 p id m tw (l ++ fr) best) w → Held w0 [cells b10 T_int [int best], cells b4 T_int [int id], cells b3 T_P_state_System [ptr sb]] w := held3 (i := 9) (j := 12) (k := 13) rfl rfl rfl
    refine ej_held [cells b10 T_int [int best], cells b4 T_int [int id], cells b3 T_P_state_System [ptr sb]] ?_
    refine tv 0 rfl (rLd 2) ?_
    refine tk 1 ?_
    refine tv 2 rfl (rLd 1) ?_
    refine tv 4 rfl (rLd 2) ?_
    refine tv 5 rfl (rLd 0) ?_
    refine tv 6 rfl (rLd 1) ?_
    refine w1 3 rfl (pLoad hP hB hc id) real_place_Load hI ?_
    refine w1 7 rfl (pLoad hP hB hb64 id) real_place_Load hI ?_
    refine tk 8 ?_
    refine wd ?_
    refine wk ?_
    refine ej_dec rfl (fun h => ?_) (fun h => ?_)
    · refine wk ?_
      refine eq_any fun a3 w hw => ⟨c, ?_, ?_⟩
      · show c = _
        rw [hstep, Sys.better, if_pos h]
      · exact S.perm (l := amL sb x s b3 b4 b8 b10 p id m tw l c ++ fr) hw List.perm_append_comm
    · refine wk ?_
      refine eq_any fun a3 w hw => ⟨best, ?_, ?_⟩
      · show best = _
        rw [hstep, Sys.better, if_neg h]
      · exact S.perm (l := amL sb x s b3 b4 b8 b10 p id m tw l best ++ fr) hw List.perm_append_comm
  · rintro D pre best rfl hI
    have hI : best = s.best id m := hI
    subst hI
    refine wk ?_
    refine eq_mark 0 rfl rfl ?_
    refine eq_rett rfl fun w hw => ⟨rfl, ?_⟩
    exact ((((hw.erase 9).erase 9).erase 9).erase 9).erase 9
  · rintro D c pre s h
    exact h.elim
end Go.Proofs.YtpbnjifefoniiaaGreatDoor
namespace Go.Proofs.YtpbnjifefoniiaaGreatDoor
open Go Go.SE
variable {s s' : Sys} {D : Nat} {low K : Int} {L : List En}
theorem eff_nz {T : TP.Topo} {d : Int} {m : Nat} (hon : T.online d ≠ 0) (hc : T.checkE d m = 0) : T.eff d m ≠ 0 := by
  unfold TP.Topo.eff
  rw [if_neg (by simpa using hc)]
  split
  · exact hon
  · rename_i h; exact h
namespace Sys
theorem newT_in (g wt : Int) (m : Nat) : s.newT g wt m ∈ (s.add g wt m).ths := List.mem_append_right _ (List.mem_singleton.2 rfl)
theorem spawn_ok (h : s.Ok D K) (hK : K ≤ 4611686018427387000) {g wt : Int} {m : Nat} (hA : s.AddOk D g wt m) : (s.add g wt m).Ok D K ∧ (s.add g wt m).find (s.last + 1) = some (s.newT g wt m) ∧ (s.add g wt m).T.eff ((s.add g wt m).dom g) m ≠ 0 ∧
    ∃ d : Nat, WakeOk D (s.add g wt m) (s.newT g wt m) ((s.add g wt m).best (s.last + 1) ((s.add g wt m).T.eff ((s.add g wt m).dom g) m)) d ∧ ((s.add g wt m).wake (s.newT g wt m) ((s.add g wt m).best (s.last + 1) ((s.add g wt m).T.eff ((s.add g wt m).dom g) m))).Ok D (K + 2) ∧
      Skel ((s.add g wt m).woken (s.newT g wt m)) ((s.add g wt m).wake (s.newT g wt m) ((s.add g wt m).best (s.last + 1) ((s.add g wt m).T.eff ((s.add g wt m).dom g) m))) ∧
      ∀ u ∈ ((s.add g wt m).wake (s.newT g wt m) ((s.add g wt m).best (s.last + 1) ((s.add g wt m).T.eff ((s.add g wt m).dom g) m))).ths, ∃ v, ((v ∈ (s.add g wt m).ths ∧ v.id ≠ (s.newT g wt m).id) ∨ v = { s.newT g wt m with awake := true, core := (s.add g wt m).best (s.last + 1) ((s.add g wt m).T.eff ((s.add g wt m).dom g) m) }) ∧ Mv v u := by
  obtain ⟨⟨y, hg⟩, hwt, hm, hc, hj, hroom, hlast⟩ := hA
  have h1 := h.add hg hwt hm hc hj hroom hlast
  have hd : (s.add g wt m).dom g = s.dom g := dom_upd (g := g) (add_F hj) (fun _ => rfl) (fun _ => rfl) g
  obtain ⟨g1, g2, g3⟩ := dom_there h.base.F hg
  have hnz : (s.add g wt m).T.eff ((s.add g wt m).dom g) m ≠ 0 := by
    rw [hd]
    have := h.base.on (s.dom g).toNat (by omega)
    rw [show (((s.dom g).toNat : Nat) : Int) = s.dom g by omega] at this
    exact eff_nz this hc
  have hlt : (s.add g wt m).T.eff ((s.add g wt m).dom g) m < 18446744073709551616 := TP.eff_lt h1.base.T _ _
  have hcs := coresOf_mem.1 (best_in (s := s.add g wt m) (cores_ne hlt hnz) (s.last + 1))
  refine ⟨h1, kfind_of h1.base.nod (newT_in g wt m), hnz, Ok.wakes h1 hK (newT_in g wt m) rfl ?_⟩
  rw [TP.has_bit hcs.1]
  exact hcs.2
theorem all_bit {n c : Nat} : (2 ^ n - 1).testBit c = decide (c < n) := Nat.testBit_two_pow_sub_one n c
theorem even_top {n : Nat} (hn : 1 ≤ n) : (TP.topoT [2 ^ n - 1]).online 0 = 2 ^ n - 1 ∧ (TP.topoT [2 ^ n - 1]).checkE 0 (2 ^ n - 1) = 0 ∧ (TP.topoT [2 ^ n - 1]).eff 0 (2 ^ n - 1) = 2 ^ n - 1 := by
  have h0 : 2 ^ n - 1 ≠ 0 := fun e => by
    have := all_bit (n := n) (c := 0)
    rw [e] at this
    simp at this; omega
  have h1 : (TP.topoT [2 ^ n - 1]).online 0 = 2 ^ n - 1 := by
    show (2 ^ n - 1) &&& (0 ||| (2 ^ n - 1)) = 2 ^ n - 1
    rw [Nat.zero_or, Nat.and_self]
  have h2 : (TP.topoT [2 ^ n - 1]).checkE 0 (2 ^ n - 1) = 0 := by
    unfold TP.Topo.checkE
    rw [if_neg (fun h => h rfl), if_neg]
    show ¬ (2 ^ n - 1) &&& (2 ^ n - 1) = 0
    rw [Nat.and_self]; exact h0
  refine ⟨h1, h2, ?_⟩
  unfold TP.Topo.eff
  rw [if_neg (by simpa using h2), h1, Nat.and_self, if_neg h0]
set_option maxHeartbeats 800000 in
theorem Even.step {n i rm : Nat} (hn : 1 ≤ n ∧ n ≤ 8) (hrm : rm ≤ 30) (hi : i < rm) (h : s.Even n i rm (2 ^ n - 1)) : s.AddOk 1 1 1 (2 ^ n - 1) ∧ (s.add 1 1 (2 ^ n - 1)).T.eff ((s.add 1 1 (2 ^ n - 1)).dom 1) (2 ^ n - 1) = 2 ^ n - 1 ∧ (s.spawned (2 ^ n - 1)).Even n (i + 1) rm (2 ^ n - 1) ∧
    (∀ b, b < 64 → (s.add 1 1 (2 ^ n - 1)).load b (s.last + 1) = (s.waits b).length) ∧ (∀ a : Nat, ((s.spawned (2 ^ n - 1)).waits a).length = (s.waits a).length + if (s.add 1 1 (2 ^ n - 1)).best (s.last + 1) (2 ^ n - 1) = a then 1 else 0) ∧
    ∃ u, (s.spawned (2 ^ n - 1)).find (s.last + 1) = some u ∧ u.awake = true ∧ u.core = (s.add 1 1 (2 ^ n - 1)).best (s.last + 1) (2 ^ n - 1) := by
  obtain ⟨y, hL, hy1, hyp⟩ := h.L
  have hB := h.ok.base
  have hg : s.F.get 1 = some y := by
    show kfind Grp.id s.F.L 1 = _
    rw [hL, kfind, List.find?_cons_of_pos (by simp [hy1])]
  obtain ⟨g1, g2, g3⟩ := dom_there hB.F hg
  have hd : s.dom 1 = 0 := by omega
  obtain ⟨ht1, ht2, ht3⟩ := even_top hn.1
  have hlt : 2 ^ n - 1 < 18446744073709551616 := by
    have : 2 ^ n ≤ 2 ^ 8 := Nat.pow_le_pow_right (by decide) hn.2
    omega
  have hymem : y.members = (i : Int) := by
    rw [hB.mem y (by rw [hL]; simp), hy1, List.filter_eq_self.2 fun t ht => by simp [(h.up t ht).2.2], h.many]
  have hkids : s.F.kids 1 = [] := by
    show (s.F.L.filter _).map _ = []
    rw [hL]; simp [hyp]
  have hA : s.AddOk 1 1 1 (2 ^ n - 1) := by
    refine ⟨⟨y, hg⟩, by decide, hlt, by rw [hd, h.T]; exact ht2, ?_, ?_, by rw [h.last]; omega⟩
    · rw [joinE_get hg, if_neg]
      rw [Forest.fan, hkids, hg]
      show ¬ ((0 : Nat) : Int) + y.members = 32
      omega
    · rw [tids_room, hB.ids, ids, List.length_map, h.many, h.sl]; exact hi
  obtain ⟨h1, hf, hnz, d, hW, hOk, hsk, hmv⟩ := spawn_ok h.ok (by omega) hA
  have hd1 : (s.add 1 1 (2 ^ n - 1)).dom 1 = 0 := by
    rw [dom_upd (s' := s.add 1 1 (2 ^ n - 1)) (s := s) (g := 1) (add_F hA.join) (fun _ => rfl) (fun _ => rfl) 1]; exact hd
  have heff : (s.add 1 1 (2 ^ n - 1)).T.eff ((s.add 1 1 (2 ^ n - 1)).dom 1) (2 ^ n - 1) = 2 ^ n - 1 := by
    rw [hd1, show (s.add 1 1 (2 ^ n - 1)).T = s.T from rfl, h.T]; exact ht3
  rw [heff] at hOk hsk hmv hW hnz
  refine ⟨hA, heff, ?_⟩
  have hB1 := h1.base
  have htm := newT_in (s := s) 1 1 (2 ^ n - 1)
  have hr1 : ∀ u ∈ (s.add 1 1 (2 ^ n - 1)).ths, u.running = false := fun u hu => by
    rcases add_mem hu with g | rfl
    · exact (h.up u g).2.1
    · rfl
  have hw1 : ∀ c : Int, ((s.add 1 1 (2 ^ n - 1)).waits c).length = (s.waits c).length := fun c => by
    show ((s.ths ++ [s.newT 1 1 (2 ^ n - 1)]).filter _).length = _
    rw [List.filter_append, List.filter_cons, if_neg (by show ¬ (false && _ && _) = true; simp), List.filter_nil, List.append_nil]; rfl
  have hsp : s.spawned (2 ^ n - 1) = (s.add 1 1 (2 ^ n - 1)).wake (s.newT 1 1 (2 ^ n - 1)) ((s.add 1 1 (2 ^ n - 1)).best (s.last + 1) (2 ^ n - 1)) := rfl
  have hcs := best_in (s := s.add 1 1 (2 ^ n - 1)) (cores_ne hlt hnz) (s.last + 1)
  have hload : ∀ b, b < 64 → (s.add 1 1 (2 ^ n - 1)).load b (s.last + 1) = (s.waits b).length := fun b hb => by
    have e1 := load_waits h1.pl hB1 htm rfl hr1 (c := b) hb
    rw [hw1] at e1
    exact e1
  have hmin : ∀ b, b < n → ((s.waits ((s.add 1 1 (2 ^ n - 1)).best (s.last + 1) (2 ^ n - 1))).length : Int) ≤ (s.waits b).length := fun b hb => by
    have h2 := best_least (s := s.add 1 1 (2 ^ n - 1)) (s.last + 1) (c := b) (m := 2 ^ n - 1) (coresOf_mem.2 ⟨by omega, by rw [all_bit]; simpa using hb⟩)
    have e1 := hload b (by omega)
    have e2 := hload _ (coresOf_mem.1 hcs).1
    omega
  generalize (s.add 1 1 (2 ^ n - 1)).best (s.last + 1) (2 ^ n - 1) = c at *
  rw [hsp]
  have hids : ((s.add 1 1 (2 ^ n - 1)).wake (s.newT 1 1 (2 ^ n - 1)) c).ths.map Th.id = (s.add 1 1 (2 ^ n - 1)).ths.map Th.id := hsk.ids.trans (ids_upd fun _ => rfl)
  have hup : ∀ u ∈ ((s.add 1 1 (2 ^ n - 1)).wake (s.newT 1 1 (2 ^ n - 1)) c).ths, u.awake = true ∧ u.running = false ∧ u.group = 1 := fun u hu => by
    obtain ⟨v, hv, e⟩ := hmv u hu
    have hv' : v.awake = true ∧ v.running = false ∧ v.group = 1 := by
      rcases hv with ⟨g, hne⟩ | rfl
      · rcases add_mem g with g | rfl
        · exact h.up v g
        · exact absurd rfl hne
      · exact ⟨rfl, rfl, rfl⟩
    refine ⟨by rw [← e.sk.awake]; exact hv'.1, ?_, by rw [← e.sk.group]; exact hv'.2.2⟩
    cases hr : u.running with
    | false => rfl
    | true =>
      have := e.run hr
      rw [← this, hr] at hv'; exact absurd hv'.2.1 (by decide)
  have hcount : ∀ a : Nat, (((s.add 1 1 (2 ^ n - 1)).wake (s.newT 1 1 (2 ^ n - 1)) c).waits a).length = (s.waits a).length + if c = a then 1 else 0 := fun a => by
    have key := count_via (p := fun u => if u.id = s.last + 1 then decide (c = a) else u.awake && !u.running && decide (u.core = a)) (p' := fun u => u.awake && !u.running && decide (u.core = a)) hids hB1.nod fun u hu w hw e => by
      obtain ⟨v, hv, f⟩ := hmv u hu
      have hu' := hup u hu
      rcases hv with ⟨g, hne⟩ | rfl
      · have e2 := hB1.idI g hw (f.sk.id.trans e.symm)
        subst e2
        have hv' : v.awake = true := f.sk.awake.trans hu'.1
        have hne : ¬ v.id = s.last + 1 := hne
        rw [if_neg hne, hu'.1, hu'.2.1, hv', hr1 v g, ← f.core]
      · rw [if_pos (show w.id = s.last + 1 from e.trans f.sk.id.symm), hu'.1, hu'.2.1, ← f.core]
        show (true && !false && decide ((c : Int) = (a : Int))) = decide (c = a)
        simp only [Bool.not_false, Bool.true_and]
        exact decide_eq_decide.2 Int.ofNat_inj
    show (((s.add 1 1 (2 ^ n - 1)).wake (s.newT 1 1 (2 ^ n - 1)) c).ths.filter fun u => u.awake && !u.running && decide (u.core = (a : Int))).length = _
    rw [key]
    show ((s.ths ++ [s.newT 1 1 (2 ^ n - 1)]).filter _).length = _
    rw [List.filter_append, List.length_append]
    congr 1
    · show _ = (s.ths.filter fun u => u.awake && !u.running && decide (u.core = (a : Int))).length
      congr 1
      refine List.filter_congr fun u hu => ?_
      have := hB.idr u hu
      rw [if_neg (by omega)]
    · rw [List.filter_cons, show (if (s.newT 1 1 (2 ^ n - 1)).id = s.last + 1 then decide (c = a) else _) = decide (c = a) from if_pos rfl]
      by_cases e : c = a <;> simp [e]
  refine ⟨⟨by rw [show (1 : Int) + 2 * ((i + 1 : Nat) : Int) = 1 + 2 * i + 2 by omega]; exact hOk, ?_, ?_, hup, hsk.T.trans h.T, ?_, ?_, fun a b ha hb => ?_⟩, hload, hcount, ?_⟩
  · have := congrArg List.length hids
    rw [List.length_map, List.length_map] at this
    rw [this]
    show (s.ths ++ [_]).length = i + 1
    rw [List.length_append, h.many]; rfl
  · rw [hsk.last]
    show s.last + 1 = ((i + 1 : Nat) : Int)
    rw [h.last]; omega
  · rw [hsk.F]
    refine ⟨_, show (kupd Grp.id (s.add 1 1 (2 ^ n - 1)).F.L _ _) = [_] by rw [add_F hA.join]; show kupd Grp.id (kupd Grp.id s.F.L 1 _) _ _ = _; rw [hL]; rfl, ?_, ?_⟩
    · show (if (if y.id = 1 then { y with members := y.members + 1 } else y).id = (1 : Int) then _ else _ : Grp).id = 1
      simp [hy1]
    · show (if (if y.id = 1 then { y with members := y.members + 1 } else y).id = (1 : Int) then _ else _ : Grp).parent = -1
      simp [hy1, hyp]
  · rw [hsk.sl]
    show (s.sl.set _ _).length = rm
    rw [List.length_set]; exact h.sl
  · rw [hcount, hcount]
    have h2 := h.even a b ha hb
    have h3 := hmin b hb
    by_cases e : c = a
    · subst e
      rw [if_pos rfl]
      split <;> omega
    · rw [if_neg e]; omega
  · have hin : s.last + 1 ∈ ((s.add 1 1 (2 ^ n - 1)).wake (s.newT 1 1 (2 ^ n - 1)) c).ids := by
      show s.last + 1 ∈ ((s.add 1 1 (2 ^ n - 1)).wake (s.newT 1 1 (2 ^ n - 1)) c).ths.map Th.id
      rw [hids]; exact List.mem_map.2 ⟨_, htm, rfl⟩
    obtain ⟨u, hu⟩ := Option.isSome_iff_exists.1 (find_ids.2 hin)
    obtain ⟨hum, hui⟩ := find_mem hu
    refine ⟨u, hu, (hup u hum).1, ?_⟩
    obtain ⟨v, hv, e⟩ := hmv u hum
    rcases hv with ⟨_, hne⟩ | rfl
    · exact absurd (e.sk.id.trans hui) hne
    · exact e.core.symm
theorem even0 {n q th gr : Nat} (hn : 1 ≤ n ∧ n ≤ 8) (hq : 1 ≤ q ∧ q ≤ 1000) (hth : 1 ≤ th ∧ th ≤ 64) (hgr : 1 ≤ gr ∧ gr ≤ 64) : TP.topoE [2 ^ n - 1] = 0 ∧ (sys0 q th gr [2 ^ n - 1] 1).Even n 0 th (2 ^ n - 1) := by
  have hlt : 2 ^ n - 1 < 18446744073709551616 := by
    have : 2 ^ n ≤ 2 ^ 8 := Nat.pow_le_pow_right (by decide) hn.2
    omega
  have h0 : 2 ^ n - 1 ≠ 0 := fun e => by
    have := all_bit (n := n) (c := 0)
    rw [e] at this
    simp at this; omega
  have hE : TP.topoE [2 ^ n - 1] = 0 := by
    rw [TP.topoE, if_neg (by simp), if_neg]
    rintro ⟨k, hk, hb⟩
    have e : k = 0 := by simp at hk; exact hk
    subst e
    rcases hb with h | h
    · exact h0 h
    · exact h (Nat.and_zero _)
  refine ⟨hE, ⟨?_, rfl, rfl, fun t ht => (by cases ht), rfl, ⟨_, rfl, rfl, rfl⟩, List.length_replicate, fun c c' _ _ => Nat.zero_le _⟩⟩
  exact sys0_ok (xs := [2 ^ n - 1]) (fun m hm => by rw [List.mem_singleton.1 hm]; exact hlt) (show 1 ≤ 8 by decide) hE hq hth hgr hgr.1
end Sys
end Go.Proofs.YtpbnjifefoniiaaGreatDoor
namespace Go.Proofs.YtpbnjifefoniiaaGreatDoor
open Go Go.SE
variable {w0 : World} {w : World} {l : List HP} {i : Nat} {s : Sys} {D : Nat} {G : Hp}
theorem yAddX {sb : Nat} {x : SyX} (hB : s.Base D) {g wt : Int} {m : Nat} {y : Grp} (hg : s.F.get g = some y) (hwt : 1 ≤ wt ∧ wt ≤ 10000) (hm : m < 18446744073709551616) (hc : s.T.checkE (s.dom g) m = 0) (hj : s.F.joinE g = 0) (hroom : 0 ∈ s.sl) (hlast : s.last < 2147483648) :
    Does cx F_state_System_Add [ptr sb, int g, int wt, u64 m] (S w0 (syL sb x s l)) fun v w => ∃ x' : SyX, v = .tuple #[int (s.last + 1), int 0] ∧ x'.bp = x.bp ∧ S w0 (syL sb x' (s.add g wt m) l) w :=
  (yAdd hB hg hwt hm hc hj hroom hlast).mono (fun _ h => h) fun _ _ ⟨b, h1, _, h2⟩ => ⟨{ x with bk := bkN x.bk (s.last + 1) b }, h1, rfl, h2⟩
end Go.Proofs.YtpbnjifefoniiaaGreatDoor
namespace Go.Proofs.YtpbnjifefoniiaaGreatDoor
open Go Go.SE
variable {w0 : World} {w : World} {l : List HP} {i : Nat} {sb : Nat} {s : Sys} {D : Nat} {K : Int} {G : Hp} {x : SyX} {P Q : Nat → Prop}
theorem yEffective (hO : s.F.Ok D) (hD : D ≤ 8) (hT : s.T.Ok) {id : Int} {t : Th} (ht : s.find id = some t) (hm : t.mask < 18446744073709551616) : Does cx F_state_System_Effective [ptr sb, int id] (S w0 (syL sb x s l)) fun v w => v = .tuple #[u64 (s.T.eff (s.dom t.group) t.mask), int (s.T.effE (s.dom t.group) t.mask)] ∧ S w0 (syL sb x s l) w := by
  obtain ⟨j, hj, rfl⟩ := find_at ht
  have hin : t.id ∈ s.ids := find_ids.1 (by rw [ht]; rfl)
  refine fn_enter (n := N_state_System_Effective) fn_state_System_Effective rfl rfl rfl ?_
  refine wk ?_
  refine Go.SE.Lk ?_
  rw [lookL, if_pos rfl, kfind_id_some hin]
  refine wk ?_
  have hI : ∀ w, S w0 (syL sb x s l) w → Held w0 [sysA sb x s, recF x s] w := held2 (i := 0) (j := 5) rfl rfl
  refine ej_held [sysA sb x s, recF x s] ?_
  refine tk 0 ?_
  refine tk 1 ?_
  refine tk 2 ?_
  refine tv 3 rfl (rLd 0) ?_
  refine tk 4 ?_
  refine tk 5 ?_
  refine tk 6 ?_
  refine tk 7 ?_
  refine tv 8 rfl (rLdF 1 (th_mem hj)) ?_
  refine tk 10 ?_
  refine tk 11 ?_
  refine tk 12 ?_
  refine tv 13 rfl (rLdF 1 (th_mem hj)) ?_
  refine w1 9 rfl (yOf hO hD t.group) real_state_System_of hI ?_
  refine w1 14 rfl (does_keep (i := 1) (tEffective hT (s.dom t.group) t.mask hm) rfl) real_topo_Topo_Effective hI ?_
  refine tk 15 ?_
  refine tk 16 ?_
  refine tk 17 ?_
  refine tk 18 ?_
  refine wd ?_
  refine wk ?_
  exact eq_rett rfl fun w hw => ⟨rfl, hw⟩
namespace Sys
def entry (s : Sys) (t : Th) : En := if t.awake = true then (kfind En.id (s.book (s.dom t.group)).2 t.id).getD ⟨t.id, 0, 0, 0⟩ else ⟨t.id, t.tag, t.left, 0⟩
theorem OkX.told (h : s.OkX D K P Q) (hbp : x.bp.length = D) {t : Th} (ht : t ∈ s.ths) : ∃ d b : Nat, s.dom t.group = d ∧ d < D ∧ x.bp[d]? = some b ∧ s.bs[d]? = some ((s.book d).1, (s.book d).2) ∧ if t.awake = true then kfind En.id (s.book d).2 t.id = some (s.entry t) else s.entry t = ⟨t.id, t.tag, t.left, 0⟩ := by
  obtain ⟨d, hd, hdD⟩ := h.base.domT ht
  refine ⟨d, _, hd, hdD, List.getElem?_eq_getElem (by omega), h.bookAt hdD, ?_⟩
  split
  · rename_i ha
    obtain ⟨e, he⟩ := h.ents t ht ha
    rw [entry, if_pos ha, he, ← hd, he]; rfl
  · rename_i ha
    rw [entry, if_neg ha]
end Sys
abbrev thW (s : Sys) (t : Th) : List Value := [int t.id, int t.group, int (s.dom t.group), int t.weight, u64 t.mask, .bool t.awake, .bool t.running, int t.core, int (s.entry t).tag, int (s.entry t).left, int (s.entry t).slice]
theorem yTold (h : s.OkX D K P Q) (hbp : x.bp.length = D) {id : Int} {t : Th} (ht : s.find id = some t) : Does cx F_state_System_Thread [ptr sb, int id] (S w0 (syL sb x s l)) fun v w => v = .tuple #[.agg (thW s t).toArray, int 0] ∧ S w0 (syL sb x s l) w := by
  obtain ⟨d, b, hd, _, hb, hy, he⟩ := h.told (x := x) hbp (Sys.find_mem ht).1
  have := yThread (w0 := w0) (l := l) (sb := sb) (x := x) h.base.F h.base.few8.2 ht hd hb hy he
  rw [thW, hd]; exact this
theorem pBest (hT : Tab w0) (hi : l[i]? = some (old w0)) (h : s.OkX D K P Q) (hbp : x.bp.length = D) {id : Int} {t : Th} (ht : s.find id = some t) : Does cx F_place_Best [ptr sb, int id] (S w0 (syL sb x s l)) fun v w => v = .tuple #[int (s.best id (s.T.eff (s.dom t.group) t.mask)), int 0] ∧ S w0 (syL sb x s l) w := by
  obtain ⟨htm, hti⟩ := Sys.find_mem ht
  obtain ⟨d, b, hd, hdD, hb, hy, he⟩ := h.told (x := x) hbp htm
  have hB := h.base
  have hne : s.T.eff (s.dom t.group) t.mask ≠ 0 := eff_nz (by rw [hd]; exact hB.on d hdD) (h.fit t htm)
  have hE : s.T.effE (s.dom t.group) t.mask = 0 := h.fit t htm
  have hlt : s.T.eff (s.dom t.group) t.mask < 18446744073709551616 := TP.eff_lt hB.T _ _
  refine fn_enter (n := N_place_Best) fn_place_Best rfl rfl rfl ?_
  refine wk ?_
  refine C1 (yEffective hB.F hB.few8.2 hB.T ht (hB.mask t htm)) real_state_System_Effective ?_
  rw [hE]
  refine wk ?_
  refine C1 (pAmong hT hi h.pl hB ht hd hb hy he hlt hne) real_place_Among ?_
  refine wk ?_
  exact eq_rett rfl fun w hw => ⟨rfl, hw⟩
theorem pWake (hT : Tab w0) (hi : l[i]? = some (old w0)) (h : s.Ok D K) (hbp : x.bp.length = D) {id : Int} {t : Th} (ht : s.find id = some t) {d : Nat} (hW : WakeOk D s t (s.best id (s.T.eff (s.dom t.group) t.mask)) d) :
    Does cx F_life_Wake [ptr sb, int id] (S w0 (syL sb x s (frz G :: l))) fun v w => ∃ G', v = .tuple #[int (s.best id (s.T.eff (s.dom t.group) t.mask)), int 0] ∧ Up G G' ∧ S w0 (syL sb x (s.wake t (s.best id (s.T.eff (s.dom t.group) t.mask))) (frz G' :: l)) w := by
  have hB := h.base
  refine fn_enter (n := N_life_Wake) fn_life_Wake rfl rfl rfl ?_
  refine wk ?_
  refine C1 (pBest (i := i + 1) hT hi h hbp ht) real_place_Best ?_
  generalize s.best id (s.T.eff (s.dom t.group) t.mask) = c at hW
  refine wk ?_
  refine Cx1 (yWake hB.F hB.few8.2 hB.T hB.nod (by have := hB.room; omega) hbp ht hW) real_state_System_Wake fun G1 hu => ?_
  refine wk ?_
  exact eq_rett rfl fun w hw => ⟨G1, rfl, hu, hw⟩
theorem pSpawn (hT : Tab w0) (hi : l[i]? = some (old w0)) (h : s.Ok D K) (hK : K ≤ 4611686018427387000) (hbp : x.bp.length = D) {g wt : Int} {m : Nat} (hA : s.AddOk D g wt m) :
    Does cx F_life_Spawn [ptr sb, int g, int wt, u64 m] (S w0 (syL sb x s (frz G :: l))) fun v w => ∃ y : SyX × Hp, v = .tuple #[int (s.last + 1), int 0] ∧ y.1.bp = x.bp ∧ S w0 (syL sb y.1 ((s.add g wt m).wake (s.newT g wt m) ((s.add g wt m).best (s.last + 1) ((s.add g wt m).T.eff ((s.add g wt m).dom g) m))) (frz y.2 :: l)) w := by
  obtain ⟨h1, hf, _, d, hW, _⟩ := Sys.spawn_ok h hK hA
  obtain ⟨⟨y, hg⟩, hwt, hm, hc, hj, hroom, hlast⟩ := hA
  refine fn_enter (n := N_life_Spawn) fn_life_Spawn rfl rfl rfl ?_
  refine wk ?_
  refine Cx1 (yAddX h.base hg hwt hm hc hj hroom hlast) real_state_System_Add fun x1 hx1 => ?_
  refine wk ?_
  refine Cx1 (pWake (G := G) (x := x1) hT hi h1 (by rw [hx1]; exact hbp) hf hW) real_life_Wake fun G1 hu => ?_
  refine wk ?_
  exact eq_rett rfl fun w hw => ⟨(x1, G1), rfl, hx1, hw⟩
end Go.Proofs.YtpbnjifefoniiaaGreatDoor
namespace Go.Proofs.YtpbnjifefoniiaaGreatDoor
open Go Go.SE
variable {w0 : World} {w : World} {l : List HP} {i : Nat} {s : Sys} {D : Nat} {G : Hp}
end Go.Proofs.YtpbnjifefoniiaaGreatDoor
namespace Go.Proofs.YtpbnjifefoniiaaGreatDoor
open Go Go.SE
variable {w0 : World} {w : World} {l : List HP} {i : Nat} {sb : Nat} {s : Sys} {D : Nat} {K : Int} {G : Hp} {x : SyX}
theorem pSpawnE (hT : Tab w0) (hi : l[i]? = some (old w0)) {n j rm : Nat} (hn : 1 ≤ n ∧ n ≤ 8) (hrm : rm ≤ 30) (hj : j < rm) (h : s.Even n j rm (2 ^ n - 1)) (hbp : x.bp.length = 1) :
    Does cx F_life_Spawn [ptr sb, int 1, int 1, u64 (2 ^ n - 1)] (S w0 (syL sb x s (frz G :: l))) fun v w => ∃ y : SyX × Hp, v = .tuple #[int ((j : Int) + 1), int 0] ∧ y.1.bp = x.bp ∧ S w0 (syL sb y.1 (s.spawned (2 ^ n - 1)) (frz y.2 :: l)) w := by
  obtain ⟨hA, heff, _⟩ := h.step hn hrm hj
  have := pSpawn (w0 := w0) (sb := sb) (x := x) (G := G) hT hi h.ok (by omega) hbp hA
  rw [heff, h.last] at this
  rw [Sys.spawned, h.last]
  exact this
theorem best3 (id : Int) : s.best id 3 = if s.load 1 id < s.load 0 id then 1 else 0 := by
  have e : coresOf 3 = [0, 1] := by decide +kernel
  rw [Sys.best, lowest, e]
  show s.better id (s.better id 0 0) 1 = _
  have e0 : s.better id 0 0 = 0 := by unfold Sys.better; split <;> rfl
  rw [e0]; rfl
structure Ex3 (j : Nat) (s : Sys) : Prop where
  ev : s.Even 2 j 4 3
  w0 : (s.waits 0).length = (j + 1) / 2
  w1 : (s.waits 1).length = j / 2
theorem Ex3.step {j : Nat} (hj : j < 3) (h : Ex3 j s) : Ex3 (j + 1) (s.spawned 3) ∧ ∃ u, (s.spawned 3).find ((j : Int) + 1) = some u ∧ u.awake = true ∧ u.core = (j % 2 : Nat) := by
  obtain ⟨_, _, h3, h4, h5, u, hu, ha, hc⟩ := h.ev.step (n := 2) (by decide) (by decide) (by omega)
  have hb : (s.add 1 1 3).best (s.last + 1) 3 = j % 2 := by
    rw [best3, h4 1 (by decide), h4 0 (by decide)]
    have e0 := h.w0
    have e1 := h.w1
    show (if ((s.waits 1).length : Int) < (s.waits 0).length then 1 else 0) = _
    rw [e0, e1]
    split <;> omega
  have h5 : ∀ a : Nat, ((s.spawned 3).waits a).length = (s.waits a).length + if j % 2 = a then 1 else 0 := fun a => by
    have := h5 a
    rw [show (2 ^ 2 - 1 : Nat) = 3 from rfl, hb] at this; exact this
  refine ⟨⟨h3, ?_, ?_⟩, u, by rw [← h.ev.last]; exact hu, ha, ?_⟩
  · have : ((s.spawned 3).waits 0).length = (s.waits 0).length + if j % 2 = 0 then 1 else 0 := h5 0
    rw [h.w0] at this
    refine this.trans ?_
    split <;> omega
  · have : ((s.spawned 3).waits 1).length = (s.waits 1).length + if j % 2 = 1 then 1 else 0 := h5 1
    rw [h.w1] at this
    refine this.trans ?_
    split <;> omega
  · rw [hc]; exact congrArg _ hb
set_option maxHeartbeats 1600000 in
theorem lAwake (hT : Tab w0) (hi : l[i]? = some (old w0)) : Does cx F_law18_awake [] (S w0 l) fun v w => v = .bool true ∧ S w0 l w := by
  obtain ⟨hE, hEv⟩ := Sys.even0 (n := 2) (q := 10) (th := 4) (gr := 4) (by decide) (by decide) (by decide) (by decide)
  refine fn_enter (n := N_law18_awake) fn_law18_awake rfl rfl rfl ?_
  refine ej_imp' (fun _ hw => Go.SE.frz_new hw) ?_
  refine wk ?_
  refine ec (oBuildS (cs := [u64 3]) fun b => ?_)
  refine el_imp (H' := S w0 (frz (fun _ => none) :: rowC (some (b, 1)) T_mask_Set 1 (u64s [3]) [3].length :: l)) (fun w hw => S.perm (S.imp (i := 0) (q := rowC (some (b, 1)) T_mask_Set 1 (u64s [3]) [3].length) hw rfl fun h hp => row_of_cells (m := 1) rfl (by decide) hp) (perm_ix 2 [1, 0])) ?_
  refine ec (oBuild (cs := [int 10, int 4, int 4, sv (some (b, 1)) 1]) ?_)
  refine Cx1 (yNew_ok (i := 0) (r := some (b, 1)) 10 4 4 [3] (fun m hm => by simp at hm; subst hm; decide) rfl (by decide) hE ⟨by decide, by decide⟩ ⟨by decide, by decide⟩ ⟨by decide, by decide⟩ (by decide)) real_state_New ?_
  rintro ⟨sb, x, G1⟩ ⟨_, hbp⟩
  simp only at hbp
  refine wk ?_
  refine ec (oPnil ?_)
  refine wk ?_
  refine ec (oBuildA (cs := [int 0, int 1, int 0]) ?_)
  refine wk ?_
  refine ej_loop3 (fun (j : Nat) (s : Sys) (y : SyX × Hp) => Ex3 j s ∧ j ≤ 3 ∧ y.1.bp.length = 1) (fun j _ _ => [(1, ptr sb), (21, .agg [int 0, int 1, int 0].toArray), (22, int j)])
    (fun _ s y => S w0 (syL sb y.1 s (frz y.2 :: cells x.tal T_tally_Tally tallyC :: rowC (some (b, 1)) T_mask_Set 1 (u64s [3]) [3].length :: l))) (fun j _ _ => 3 - j) 0 (sys0 10 4 4 [3] 1) (x, G1) ⟨⟨hEv, rfl, rfl⟩, by decide, hbp⟩ (le_of _ _ rfl) (fun w hw => hw) ?_
  rintro j s ⟨y, G2⟩ ⟨hX, hj, hyb⟩
  simp only at hyb
  refine wk ?_
  refine ej_dec rfl (fun h => ?_) (fun h => ?_)
  · have h : j < 3 := by omega
    obtain ⟨hX', u, hu, hua, huc⟩ := hX.step h
    refine wk ?_
    refine ec (oIndex (v := int ((j % 2 : Nat) : Int)) ?_ (hi := ⟨by omega, by omega⟩) (hp := by
      have : j = 0 ∨ j = 1 ∨ j = 2 := by omega
      rcases this with rfl | rfl | rfl <;> rfl))
    refine wk ?_
    refine Cx1 (pSpawnE (n := 2) (l := cells x.tal T_tally_Tally tallyC :: rowC (some (b, 1)) T_mask_Set 1 (u64s [3]) [3].length :: l) hT (i := i + 2) hi (by decide) (by decide) (by omega) hX.ev hyb) real_life_Spawn ?_
    rintro ⟨y2, G3⟩ hy2
    simp only at hy2
    have hyb2 : y2.bp.length = 1 := by rw [hy2]; exact hyb
    refine wk ?_
    refine C1 (yTold hX'.ev.ok hyb2 hu) real_state_System_Thread ?_
    refine wk ?_
    refine ec (oAlloc fun b7 => ?_)
    refine wk ?_
    refine el_gdec rfl rfl (fun h => absurd rfl h) (fun _ => ?_)
    refine wk ?_
    refine ej_dec rfl (fun h => absurd huc h) (fun _ => ?_)
    refine wk ?_
    refine eq_back3 (j + 1) (s.spawned 3) (y2, G3) ⟨hX', by omega, hyb2⟩ (by omega) (le_of _ _ rfl) fun w hw => ?_
    exact hw.erase 0
  · obtain rfl : j = 3 := by omega
    refine wk ?_
    refine eq_rett rfl fun w hw => ⟨rfl, hw.drop 12⟩
end Go.Proofs.YtpbnjifefoniiaaGreatDoor
namespace Go.Proofs.YtpbnjifefoniiaaGreatDoor
open Go Go.SE
variable {w0 : World} {w : World} {l : List HP} {i : Nat} {sb : Nat} {s : Sys} {D : Nat} {K : Int} {G : Hp} {x : SyX}
structure Seen (s : Sys) (c : Nat) (least most : Int) : Prop where
  start : c = 0 → least = 99 ∧ most = 0
  seen : 0 < c → (∃ c1, c1 < c ∧ least = (s.lane (c1 : Nat)).length) ∧ ∃ c2, c2 < c ∧ most = (s.lane (c2 : Nat)).length
theorem Seen.step {c : Nat} {least most : Int} (h : Seen s c least most) (hl : (s.lane c).length ≤ 64) : Seen s (c + 1) (if ((s.lane c).length : Int) < least then (s.lane c).length else least) (if most < ((s.lane c).length : Int) then (s.lane c).length else most) := by
  refine ⟨fun h => absurd h (by omega), fun _ => ?_⟩
  by_cases h0 : c = 0
  · obtain ⟨e1, e2⟩ := h.start h0
    subst e1 e2
    refine ⟨⟨c, by omega, if_pos (by omega)⟩, ⟨c, by omega, ?_⟩⟩
    split
    · rfl
    · omega
  · obtain ⟨⟨c1, h1, e1⟩, c2, h2, e2⟩ := h.seen (by omega)
    refine ⟨?_, ?_⟩
    · split
      · exact ⟨c, by omega, rfl⟩
      · exact ⟨c1, by omega, e1⟩
    · split
      · exact ⟨c, by omega, rfl⟩
      · exact ⟨c2, by omega, e2⟩
set_option maxHeartbeats 4000000 in
theorem lEven (hT : Tab w0) (hi : l[i]? = some (old w0)) {a b : Int} (ha : 0 ≤ a ∧ a ≤ 255) (hb : 0 ≤ b ∧ b ≤ 255) : Does cx F_law18_LifeEven [.int .u8 a, .int .u8 b] (S w0 l) fun v w => v = .bool true ∧ S w0 l w := by
  obtain ⟨n, hn⟩ : ∃ n : Nat, 1 + a % 8 = n := ⟨(1 + a % 8).toNat, by omega⟩
  obtain ⟨k, hk⟩ : ∃ k : Nat, 1 + b % 30 = k := ⟨(1 + b % 30).toNat, by omega⟩
  have hn8 : 1 ≤ n ∧ n ≤ 8 := by omega
  have hk30 : 1 ≤ k ∧ k ≤ 30 := by omega
  obtain ⟨hE, hEv⟩ := Sys.even0 (n := n) (q := 4) (th := 30) (gr := 4) hn8 (by decide) (by decide) (by decide)
  have hpow : 2 ^ n ≤ 2 ^ 8 := Nat.pow_le_pow_right (by decide) hn8.2
  have hpos : 0 < 2 ^ n := Nat.two_pow_pos n
  have hlt : 2 ^ n - 1 < 18446744073709551616 := by omega
  refine fn_enter (n := N_law18_LifeEven) fn_law18_LifeEven rfl rfl rfl ?_
  refine ej_imp' (fun _ hw => Go.SE.frz_new hw) ?_
  refine wk ?_
  refine C1 (lAwake (i := i + 1) hT hi) real_law18_awake ?_
  refine wk ?_
  refine ec (oRem ?_ (ha := ha.1) (hb := by decide))
  refine wk ?_
  refine ec (oRem ?_ (ha := hb.1) (hb := by decide))
  refine wk ?_
  rw [hn, hk]
  refine ShlN (a := 1) n ?_
  have e1 : 1 * 2 ^ n % 18446744073709551616 = 2 ^ n := by rw [Nat.one_mul, Nat.mod_eq_of_lt (by omega)]
  rw [e1]
  refine SubN (a := 2 ^ n) (b := 1) hpos (by omega) ?_
  refine wk ?_
  generalize hall : 2 ^ n - 1 = all at hlt hE hEv
  refine ec (oBuildS (cs := [u64 all]) fun b7 => ?_)
  refine el_imp (H' := S w0 (frz (fun _ => none) :: rowC (some (b7, 1)) T_mask_Set 1 (u64s [all]) [all].length :: l)) (fun w hw => S.perm (S.imp (i := 0) (q := rowC (some (b7, 1)) T_mask_Set 1 (u64s [all]) [all].length) hw rfl fun h hp => row_of_cells (m := 1) rfl (by decide) hp) (perm_ix 2 [1, 0])) ?_
  refine ec (oBuild (cs := [int 4, int 30, int 4, sv (some (b7, 1)) 1]) ?_)
  refine Cx1 (yNew_ok (i := 0) (r := some (b7, 1)) 4 30 4 [all] (fun m hm => by simp at hm; subst hm; exact hlt) rfl (show 1 ≤ 8 by decide) hE ⟨by decide, by decide⟩ ⟨by decide, by decide⟩ ⟨by decide, by decide⟩ (show 1 ≤ 4 by decide)) real_state_New ?_
  rintro ⟨sb, x, G1⟩ ⟨_, hbp⟩
  simp only at hbp
  refine wk ?_
  refine ec (oPnil ?_)
  refine wk ?_
  refine ej_loop3 (fun (j : Nat) (s : Sys) (y : SyX × Hp) => s.Even n j 30 all ∧ j ≤ k ∧ y.1.bp.length = 1) (fun j _ _ => [(5, int n), (6, int k), (7, u64 all), (8, ptr sb), (42, int k), (43, int j)])
    (fun _ s y => S w0 (syL sb y.1 s (frz y.2 :: cells x.tal T_tally_Tally tallyC :: rowC (some (b7, 1)) T_mask_Set 1 (u64s [all]) [all].length :: l))) (fun j _ _ => k - j) 0 (sys0 4 30 4 [all] 1) (x, G1) ⟨hEv, by omega, hbp⟩ (le_of _ _ rfl) (fun w hw => hw) ?_
  rintro j s ⟨y, G2⟩ ⟨hX, hj, hyb⟩
  simp only at hyb
  refine wk ?_
  refine ej_dec rfl (fun h => ?_) (fun h => ?_)
  · have h : j < k := by omega
    have hX' := (by have := (Sys.Even.step hn8 (by decide) (show j < 30 by omega) (hall ▸ hX)).2.2.1; rw [hall] at this; exact this : (s.spawned all).Even n (j + 1) 30 all)
    refine wk ?_
    have hsp := pSpawnE (sb := sb) (x := y) (G := G2) (l := cells x.tal T_tally_Tally tallyC :: rowC (some (b7, 1)) T_mask_Set 1 (u64s [all]) [all].length :: l) hT (i := i + 2) hi hn8 (by decide) (show j < 30 by omega) (hall ▸ hX) hyb
    rw [hall] at hsp
    refine Cx1 hsp real_life_Spawn ?_
    rintro ⟨y2, G3⟩ hy2
    simp only at hy2
    have hyb2 : y2.bp.length = 1 := by rw [hy2]; exact hyb
    refine wk ?_
    refine ej_dec rfl (fun h => absurd rfl h) (fun _ => ?_)
    refine wk ?_
    generalize s.spawned all = s' at hX'
    have hB := hX'.ok.base
    have hPl := hX'.ok.pl
    have hrm := hB.room
    refine ej_loop3 (fun (c : Nat) (lm : Int × Int) (_ : Unit) => Seen s' c lm.1 lm.2 ∧ c ≤ n) (fun c lm _ => [(5, int n), (6, int k), (7, u64 all), (8, ptr sb), (42, int k), (43, int j), (13, int lm.1), (14, int lm.2), (60, int n), (61, int c)])
      (fun _ _ _ => S w0 (syL sb y2 s' (frz G3 :: cells x.tal T_tally_Tally tallyC :: rowC (some (b7, 1)) T_mask_Set 1 (u64s [all]) [all].length :: l))) (fun c _ _ => n - c) 0 (99, 0) () ⟨⟨fun _ => ⟨rfl, rfl⟩, fun h => absurd h (by decide)⟩, by omega⟩ (le_of _ _ rfl) (fun w hw => hw) ?_
    rintro c ⟨least, most⟩ _ ⟨hS, hcn⟩
    simp only at hS ⊢
    refine wk ?_
    refine ej_dec rfl (fun h => ?_) (fun h => ?_)
    · have h : c < n := by omega
      have hq := hPl.laneN (show c < 64 by omega)
      have hql := hPl.few hB hq
      have hst := hS.step hql
      generalize s'.lane c = q at hq hql hst
      refine wk ?_
      refine Cx1 (yLane (by omega) (by rw [hPl.lsl]; decide) hq (by omega) hPl.tgl) real_state_System_Lane fun r _ => ?_
      refine el_imp (fun w hw => hw.erase 0) ?_
      refine wk ?_
      refine el_cons rfl (eo_min rfl rfl rfl rfl rfl ?_)
      refine wk ?_
      refine Cx1 (yLane (by omega) (by rw [hPl.lsl]; decide) hq (by omega) hPl.tgl) real_state_System_Lane fun r _ => ?_
      refine el_imp (fun w hw => hw.erase 0) ?_
      refine wk ?_
      refine el_cons rfl (eo_max rfl rfl rfl rfl rfl ?_)
      refine wk ?_
      exact eq_back3 (c + 1) (_, _) () ⟨hst, by omega⟩ (by omega) (le_of _ _ rfl) fun w hw => hw
    · obtain rfl : c = n := by omega
      have hle : most - least ≤ 1 := by
        obtain ⟨⟨c1, h1, e1⟩, c2, h2, e2⟩ := hS.seen (by omega)
        have h3 := hX'.even c2 c1 h2 h1
        rw [hPl.count hB (show c1 < 64 by omega)] at e1
        rw [hPl.count hB (show c2 < 64 by omega)] at e2
        omega
      refine wk ?_
      have hsn := hS.seen (by omega)
      have hbd : -100 ≤ least ∧ most ≤ 1000 := by
        obtain ⟨⟨c1, h1, e1⟩, c2, h2, e2⟩ := hsn
        have := hPl.few hB (hPl.laneN (show c2 < 64 by omega))
        omega
      have hbd2 : least ≤ 1000 ∧ 0 ≤ most := by
        obtain ⟨⟨c1, h1, e1⟩, c2, h2, e2⟩ := hsn
        have := hPl.few hB (hPl.laneN (show c1 < 64 by omega))
        omega
      refine wk ?_
      refine ej_dec rfl (fun h => absurd h (by omega)) (fun _ => ?_)
      refine wk ?_
      exact eq_back3 (j + 1) s' (y2, G3) ⟨hX', by omega, hyb2⟩ (by omega) (le_of _ _ rfl) fun w hw => hw
  · obtain rfl : j = k := by omega
    have hB := hX.ok.base
    have hrm := hB.room
    have hd : s.dom 1 = 0 := by
      obtain ⟨yy, hL, hy1, _⟩ := hX.L
      have hg : s.F.get 1 = some yy := by
        show kfind Grp.id s.F.L 1 = _
        rw [hL, kfind, List.find?_cons_of_pos (by simp [hy1])]
      have := Sys.dom_there hB.F hg
      omega
    have hlen : (s.awakeI 0).length = j := by
      rw [Sys.awakeI, List.length_map, Sys.awakeT, List.filter_eq_self.2 fun t ht => ?_]
      · exact hX.many
      · have := hX.up t ht
        rw [this.1, this.2.2, hd]; rfl
    refine wk ?_
    refine Cx1 (yAwake hB.F hB.few8.2 (by omega) (by omega) hB.ids 0) real_state_System_Awake ?_
    rintro ⟨G4, v4⟩ ⟨_, hv⟩
    obtain ⟨a4, c4, e4, _⟩ := hv.is
    simp only at e4
    subst e4
    rw [hlen]
    refine wk ?_
    exact eq_rett rfl fun w hw => ⟨by simp [pack], hw.drop 12⟩
end Go.Proofs.YtpbnjifefoniiaaGreatDoor
namespace Go.SE
open Go Go.ChangeShapes Go.WideShapes Go.ChangeAt Go.RowKit
def rd (L : Lay) (W : World) : Nat → TypeId → List Value → Prop
  | 0, _, _ => True
  | f + 1, t, cs => match L.ti t with
    | none => True
    | some ti => match ti.kind with
      | .int k => ∃ n, cs = [.int k n] ∧ k.min ≤ n ∧ n ≤ k.max
      | .bool => ∃ b, cs = [.bool b]
      | .str => ∃ s, cs = [.string s] ∧ s.size ≤ maxLen
      | .struct fs => cs.length = ti.size ∧ ∀ p ∈ fs, ∀ tj, L.ti p.1 = some tj → rd L W f p.1 (cellsAt cs p.2 tj.size)
      | .array m E => cs.length = ti.size ∧ ∀ te, L.ti E = some te → ∀ i, i < m → rd L W f E (cellsAt cs (i * te.size) te.size)
      | .slice E => ∀ te, L.ti E = some te → ∃ a n c xs, cs = [.slice a n c] ∧ (n ≤ c ∧ c ≤ maxLen) ∧ Sl W te.size a xs n ∧ ∀ i, i < n → rd L W f E (cellsAt xs (i * te.size) te.size)
      | _ => True
theorem cellsOf_lay {P : Program} {L : Lay} (ok : L.Ok P) {t : TypeId} {ti : TI} (h : L.ti t = some ti) : P.cellsOf t = ti.size := by
  obtain ⟨ie, hie, hsz, _, _⟩ := (ok _ _ h).info
  simp [Program.cellsOf, hie, hsz]
theorem bytesOf_lay {P : Program} {L : Lay} (ok : L.Ok P) {t : TypeId} {ti : TI} (h : L.ti t = some ti) : P.bytesOf t = ti.bytes := by
  obtain ⟨ie, hie, _, hby, _⟩ := (ok _ _ h).info
  simp [Program.bytesOf, hie, hby]
theorem flat_at (g : Nat → List Value) (z : Nat) : ∀ n, (∀ i, i < n → (g i).length = z) → ((List.range n).flatMap g).length = n * z ∧
    ∀ i, i < n → cellsAt ((List.range n).flatMap g) (i * z) z = g i := by
  intro n
  induction n with
  | zero => intro _; simp
  | succ n ih =>
    intro h
    obtain ⟨h1, h2⟩ := ih fun i hi => h i (by omega)
    have e : (List.range (n + 1)).flatMap g = (List.range n).flatMap g ++ g n := by rw [List.range_succ, List.flatMap_append]; simp
    have hn := h n (by omega)
    rw [e]
    refine ⟨by rw [List.length_append, h1, hn, Nat.succ_mul], fun i hi => ?_⟩
    rcases Nat.lt_succ_iff_lt_or_eq.1 hi with hi | rfl
    · rw [← h2 i hi]
      have hle : i * z + z ≤ n * z := by rw [← Nat.succ_mul]; exact Nat.mul_le_mul_right _ hi
      simp only [cellsAt]
      rw [List.drop_append_of_le_length (by omega), List.take_append_of_le_length (by rw [List.length_drop]; omega)]
    · simp only [cellsAt]
      rw [← h1, List.drop_left, List.take_of_length_le (by omega)]
theorem cellsAt_get {cs : List Value} {off z j : Nat} (hj : j < z) : (cellsAt cs off z)[j]? = cs[off + j]? := by
  simp [cellsAt, hj, List.getElem?_drop]
section
variable {H : Type} {enc : TypeId × Value → H} {P : Program} {L : Lay}
theorem sl_of {W : World} {a : Addr} {n z : Nat} {g : Nat → List Value} (h : ∀ i, i < n → W.cells? 0 (a.add (i * z)) z = some (g i)) : Sl W z (some a) ((List.range n).flatMap g) n := by
  have hlen : ∀ i, i < n → (g i).length = z := fun i hi => (World.cells?_some (h i hi)).2.1
  obtain ⟨h1, h2⟩ := flat_at g z n hlen
  refine ⟨h1, fun j u hu => ?_⟩
  have hlt := (List.getElem?_eq_some_iff.1 hu).1
  rw [h1] at hlt
  have hz : 0 < z := by
    rcases Nat.eq_zero_or_pos z with rfl | hz
    · simp at hlt
    · exact hz
  have hi : j / z < n := by rw [Nat.div_lt_iff_lt_mul hz]; exact hlt
  have hj : j = (j / z) * z + j % z := by rw [Nat.mul_comm]; exact (Nat.div_add_mod j z).symm
  have hm : j % z < z := Nat.mod_lt _ hz
  have key : ∀ i q u, i < n → q < z → ((List.range n).flatMap g)[i * z + q]? = some u → W.cell? ((a.add (i * z)).add q) = some u := by
    intro i q u hi hq hu
    rw [(World.cells?_some (h i hi)).2.2 q hq, ← h2 i hi, cellsAt_get hq]; exact hu
  have h0n : 0 < n := Nat.lt_of_le_of_lt (Nat.zero_le _) hi
  have hsp : a.spot = none := by
    have hx0 : 0 < ((List.range n).flatMap g).length := by rw [h1]; exact Nat.mul_pos h0n hz
    have := key 0 0 _ h0n hz (by rw [Nat.zero_mul]; exact List.getElem?_eq_getElem hx0)
    simp only [Nat.zero_mul, Addr.add, if_pos] at this
    unfold World.cell? at this
    split at this
    · split at this
      · cases this
      · rename_i h; simpa using h
    · cases this
  have ea : a = ⟨a.block, a.off, none⟩ := by cases a; simp at hsp; simp [hsp]
  refine ⟨by simp only [ob, oo, Option.getD_some]; rw [← ea], ?_⟩
  have := key (j / z) (j % z) u hi hm (by rw [← hj]; exact hu)
  rw [ea, addr_add, addr_add] at this
  simp only [ob, oo, Option.getD_some]
  rw [Nat.add_assoc, ← hj] at this
  exact this
theorem rd_of_trod (ok : L.Ok P) {W : World} {sp : Nat → Bool} {held : Bool} : ∀ (f : Nat) (t : TypeId) (cs : List Value) (x : DataW H × List MemPlace), DataW.trod enc P W 0 sp held f t cs = some x → rd L W f t cs := by
  intro f
  induction f with
  | zero => intro t cs x h; simp [rd]
  | succ f ih =>
    intro t cs x h
    simp only [rd]
    cases ht : L.ti t with
    | none => trivial
    | some ti =>
      have hok := ok _ _ ht
      simp only
      cases hk : ti.kind with
      | int k =>
        obtain ⟨n, rfl, _, hw⟩ := DataW.trod_int (kind_int hok hk) h
        simp only [Lit.wf, Bool.and_eq_true, decide_eq_true_eq] at hw
        exact ⟨n, rfl, hw⟩
      | bool =>
        obtain ⟨b, rfl, _⟩ := DataW.trod_bool (kind_bool hok hk) h
        exact ⟨b, rfl⟩
      | str =>
        obtain ⟨s, rfl, _, hs⟩ := DataW.trod_string (kind_str hok hk) h
        exact ⟨s, rfl, hs⟩
      | struct fs =>
        obtain ⟨gs, hu, hgs⟩ := kind_struct hok hk
        obtain ⟨xs, m, hm, _, hl, hx, hf⟩ := DataW.trod_struct hu h
        obtain rfl : f = m := by omega
        refine ⟨by rw [hl, cellsOf_lay ok ht], fun p hp tj hj => ?_⟩
        rw [← hgs] at hp
        obtain ⟨g, hg, rfl⟩ := List.mem_map.1 hp
        obtain ⟨i, hi, hgi⟩ := List.getElem_of_mem hg
        have h1 := hf i g (by rw [← hgi]; simp [Array.getElem?_eq_getElem (by simpa using hi)])
        have hlt : i < xs.length := by rw [hx]; simpa using hi
        rw [List.getElem?_eq_getElem hlt, cellsOf_lay ok hj] at h1
        exact ih _ _ _ h1
      | array m E =>
        obtain ⟨xs, q, hq, _, hl, hx, hf⟩ := DataW.trod_array (kind_array hok hk) h
        obtain rfl : f = q := by omega
        refine ⟨by rw [hl, cellsOf_lay ok ht], fun te hte i hi => ?_⟩
        have h1 := hf i hi
        have hlt : i < xs.length := by omega
        rw [List.getElem?_eq_getElem hlt, cellsOf_lay ok hte] at h1
        exact ih _ _ _ h1
      | slice E =>
        intro te hte
        rcases DataW.trod_slice (kind_slice hok hk) h with ⟨rfl, _⟩ | ⟨a, len, cap, elems, rest, n, hn, rfl, _, hb, hl, hm, hlen, hel, _, _⟩
        · exact ⟨none, 0, 0, [], rfl, ⟨Nat.le_refl _, Nat.zero_le _⟩, ⟨by simp, by intro j u hu; simp at hu⟩, fun i hi => absurd hi (by omega)⟩
        · obtain rfl : f = n := by omega
          have each : ∀ i, i < len → ∃ cs', W.cells? 0 (a.add (i * te.size)) te.size = some cs' ∧ rd L W f E cs' := by
            intro i hi
            have h1 := hel i hi
            have hlt : i < elems.length := by omega
            rw [List.getElem?_eq_getElem hlt, Option.bind_eq_some_iff, cellsOf_lay ok hte] at h1
            obtain ⟨cs', h2, h3⟩ := h1
            exact ⟨cs', h2, ih _ _ _ h3⟩
          obtain ⟨g, hg⟩ := Go.Deep.choose_lt each
          refine ⟨some a, len, cap, (List.range len).flatMap g, rfl, ⟨hl, hm⟩, sl_of fun i hi => (hg i hi).1, fun i hi => ?_⟩
          rw [(flat_at g te.size len fun i hi => (World.cells?_some (hg i hi).1).2.1).2 i hi]
          exact (hg i hi).2
      | _ => trivial
structure Arg (L : Lay) (W : World) (t : TypeId) (v : Value) : Prop where
  form : ∀ ti, L.ti t = some ti → ti.kind.agg = true → ∃ cs : List Value, v = .agg cs.toArray
  cell : ∀ ti, L.ti t = some ti → (match ti.kind with | .int _ | .bool | .str | .slice _ => True | _ => False) → v.cells = #[v]
  read : ∃ f, rd L W f t v.cells.toList ∧ 20 ≤ f
  fits : ∀ ti E te, L.ti t = some ti → ti.kind = .slice E → L.ti E = some te → ∀ a n c, v = .slice a n c → n * te.bytes ≤ reachBytes
  text : ∀ ti, L.ti t = some ti → ti.kind = .str → ∀ s, v = .string s → s.size ≤ reachBytes
def Args (L : Lay) (W : World) : List TypeId → List Value → Prop
  | [], [] => True
  | t :: ts, v :: vs => Arg L W t v ∧ Args L W ts vs
  | _, _ => False
theorem trod_more {W : World} {sp : Nat → Bool} {held : Bool} {t : TypeId} {v : Value} {d : DataW H} {ps : List MemPlace} (h : DataW.Trod enc P W 0 sp held t v d ps) : ∃ f, DataW.trod enc P W 0 sp held f t v.cells.toList = some (d, ps) ∧ 20 ≤ f := by
  obtain ⟨f, hf⟩ := h
  exact ⟨f + 20, DataW.trod_le (by omega) hf, by omega⟩
theorem arg_of (ok : L.Ok P) {W : World} {sp : Nat → Bool} {held : Bool} {r : Reach} {b0 : Nat} {t : TypeId} {v : Value} {d : DataW H} {ps : List MemPlace} (hval : Value.okWide P W r b0 t v) (h : DataW.Trod enc P W 0 sp held t v d ps)
    (hw : (d.weights P t).all (· ≤ reachBytes) = true) : Arg L W t v := by
  obtain ⟨f, hf, h20⟩ := trod_more h
  refine ⟨fun ti ht hk => ?_, fun ti ht hk => ?_, ⟨f, rd_of_trod ok _ _ _ _ hf, h20⟩, fun ti E te ht hk hE a n c hv => ?_, fun ti ht hk s hv => ?_⟩
  · have hok := ok _ _ ht
    cases hkk : ti.kind with
    | struct fs =>
      obtain ⟨gs, hu, _⟩ := kind_struct hok hkk
      obtain ⟨cs, rfl, _⟩ := okWide_struct hu hval
      exact ⟨cs.toList, by simp⟩
    | array m E =>
      have hu := kind_array hok hkk
      simp only [Value.okWide, hu] at hval
      obtain ⟨cs, rfl, _⟩ := hval
      exact ⟨cs.toList, by simp⟩
    | _ => rw [hkk] at hk; cases hk
  · have hok := ok _ _ ht
    cases hkk : ti.kind with
    | int k => obtain ⟨n, rfl⟩ := okWide_int (kind_int hok hkk) hval; rfl
    | bool => obtain ⟨n, rfl⟩ := okWide_bool (kind_bool hok hkk) hval; rfl
    | str =>
      have hu := kind_str hok hkk
      simp only [Value.okWide, hu, Cell.okWide] at hval
      cases v <;> simp_all [Cell.ok] <;> rfl
    | slice E => obtain ⟨a, n, c, rfl⟩ := okWide_slice (kind_slice hok hkk) hval; rfl
    | _ => rw [hkk] at hk; cases hk
  · subst hv
    have hu := kind_slice (ok _ _ ht) hk
    rcases DataW.trod_slice hu hf with ⟨h1, _⟩ | ⟨a', len, cap, elems, rest, q, _, h1, h2, _, _, _, hlen, _⟩
    · simp [Value.cells] at h1
      rw [h1.2.1]; omega
    · simp [Value.cells] at h1
      obtain ⟨_, rfl, _⟩ := h1
      have h3 : d = .slice (elems.map (·.1)) (rest.map (·.1)) := congrArg Prod.fst h2
      subst h3
      simp only [DataW.weights, hu, List.all_cons, Bool.and_eq_true, decide_eq_true_eq, List.length_map] at hw
      have h4 := hw.1
      rw [bytesOf_lay ok hE, hlen] at h4
      exact Nat.le_trans (Nat.mul_le_mul_right _ (Nat.le_add_right _ _)) h4
  · subst hv
    obtain ⟨s', h1, h2, _⟩ := DataW.trod_string (kind_str (ok _ _ ht) hk) hf
    simp [Value.cells] at h1
    subst h1
    have h3 : d = .lit (.string s.data.toList) := congrArg Prod.fst h2
    subst h3
    simp only [DataW.weights, List.all_cons, Bool.and_eq_true, decide_eq_true_eq, Array.length_toList] at hw
    exact hw.1
theorem args_of (ok : L.Ok P) {W : World} {sp : Nat → Bool} {held : Bool} {r : Reach} {b0 : Nat} : ∀ {ts : List TypeId} {vs : List Value} {ds : List (DataW H)} {ps : List MemPlace}, DataW.TrodAll enc P W 0 sp held ts vs ds ps →
    (∀ (j : Nat) t v, ts[j]? = some t → vs[j]? = some v → Value.okWide P W r b0 t v) → (DataW.weightsEach P ts ds).all (· ≤ reachBytes) = true → Args L W ts vs
  | [], [], _, _, _, _, _ => trivial
  | [], _ :: _, [], _, h, _, _ => h.elim
  | [], _ :: _, _ :: _, _, h, _, _ => h.elim
  | _ :: _, [], [], _, h, _, _ => h.elim
  | _ :: _, [], _ :: _, _, h, _, _ => h.elim
  | _ :: _, _ :: _, [], _, h, _, _ => h.elim
  | t :: ts, v :: vs, d :: ds, ps, h, hv, hw => by
    obtain ⟨p, q, h1, h2, _⟩ := h
    simp only [DataW.weightsEach, List.all_append, Bool.and_eq_true] at hw
    exact ⟨arg_of ok (hv 0 t v rfl rfl) h1 hw.1, args_of ok h2 (fun j t v hj hv' => hv (j + 1) t v hj hv') hw.2⟩
theorem below_of {W w : World} {l : List HP} (h : S W (old W :: l) w) : Below W.heap.size W w := by
  refine ⟨h.os, h.tape, h.output, h.size, fun k hk => ?_⟩
  obtain ⟨h1, h2, hd, he, hp, _⟩ := stars_focus (old W :: l) 0 _ _ h.sat rfl
  have h3 := hp k _ (Array.getElem?_eq_getElem hk)
  have := congrFun he k
  rw [Array.getElem?_eq_getElem hk]
  simp only [uni, h3, Option.some_or] at this
  exact this
theorem trodAll_stays (hl : laidOutB P = true) {W W' : World} (hb : Below W.heap.size W W') : ∀ {ts : List TypeId} {vs : List Value} {ds : List (DataW H)} {ps : List MemPlace}, (∀ t ∈ ts, P.readableRec t = true ∧ t < P.types.size) →
    DataW.TrodAll enc P W 0 (fun _ => true) true ts vs ds ps → (∀ x ∈ ps, x.block < W.heap.size) → ∀ (sp : Nat → Bool), (∀ p ∈ ps, sp p.block = true) → DataW.TrodAll enc P W' 0 sp true ts vs ds ps
  | [], [], [], _, _, h, _, _, _ => h
  | [], _ :: _, [], _, _, h, _, _, _ => h.elim
  | [], _ :: _, _ :: _, _, _, h, _, _, _ => h.elim
  | [], [], _ :: _, _, _, h, _, _, _ => h.elim
  | _ :: _, [], [], _, _, h, _, _, _ => h.elim
  | _ :: _, [], _ :: _, _, _, h, _, _, _ => h.elim
  | _ :: _, _ :: _, [], _, _, h, _, _, _ => h.elim
  | t :: ts, v :: vs, d :: ds, ps, hr, h, hlt, sp, hsp => by
    obtain ⟨p, q, h1, h2, rfl⟩ := h
    have ht := hr t (by simp)
    exact ⟨p, q, WideElems.Trod_stays hl ht.1 ht.2 h1 (fun x hx => hb.same (hlt x (by simp [hx]))) (fun x hx => hsp x (by simp [hx])),
      trodAll_stays hl hb (fun t h => hr t (by simp [h])) h2 (fun x hx => hlt x (by simp [hx])) sp (fun x hx => hsp x (by simp [hx])), rfl⟩
structure Lawful (s : ChangeSpec) (m : Nat) : Prop where
  vars : s.vars = []
  says : ∀ (H : Type) (ds : List (DataW H)), ds.length = m → s.fn H ds = { results := [.lit (.bool true)], args := ds }
theorem law_post (hl : laidOutB P = true) {f : Func} {s : ChangeSpec} {m tb : Nat} (hs : Lawful s m) (hr : ∀ t ∈ f.params.toList, P.readableRec t = true ∧ t < P.types.size) (hm : f.params.size = m) (hres : f.resultTypes = #[tb]) (htb : P.underlying tb = some .bool)
    {apart fresh handsOn : Bool} {W W' : World} {args : Array Value} {ds gs : List (DataW H)} {before : List MemPlace} (hW : DataW.Whole enc P f.params.toList s.vars apart W args.toList ds gs before) (hb : Below W.heap.size W W') :
    s.post enc P f apart fresh handsOn false W args (.bool true) W' := by
  have hW' := hW
  obtain ⟨p, q, hA, hV, rfl, _, _⟩ := hW
  have hlen := (trodAll_length hA).2
  rw [hs.vars] at hV
  obtain ⟨rfl, rfl⟩ := trodVars_none hV
  have hsay := hs.says H ds (by rw [hlen]; simpa using hm)
  have hlt : ∀ x ∈ p, x.block < W.heap.size := fun x hx => by simpa using hW'.lt x (by simpa using hx)
  have hT : ∀ (b : Nat) (sp : Nat → Bool) (hd : Bool), DataW.TrodAll enc P W' b sp hd f.resultTypes.toList ((Value.bool true).resultList f.resultTypes.size) [.lit (.bool true)] [] := fun b sp hd => by
    rw [hres]
    exact ⟨[], [], ⟨1, by simp [DataW.trod, Value.cells, htb]⟩, rfl, rfl⟩
  refine ⟨ds, [], p ++ [], [], p, [], hW', ?_, ?_, ?_, hb.frame _, fun h => by cases h⟩
  · rw [List.append_nil, hsay]; exact hT _ _ _
  · rw [List.append_nil, hsay]; exact trodAll_stays hl hb hr hA hlt _ (fun x hx => by simpa using hlt x hx)
  · rw [List.append_nil, hsay, hs.vars]; rfl
end
section
variable {L : Lay} {W : World} {t E : TypeId} {ti te : TI} {cs : List Value} {f : Nat}
theorem rd_less : ∀ (f : Nat) (t : TypeId) (cs : List Value), rd L W (f + 1) t cs → rd L W f t cs := by
  intro f
  induction f with
  | zero => intro t cs _; simp [rd]
  | succ f ih =>
    intro t cs h
    unfold rd at h ⊢
    cases ht : L.ti t with
    | none => trivial
    | some ti =>
      rw [ht] at h
      simp only at h ⊢
      cases hk : ti.kind with
      | struct fs =>
        rw [hk] at h
        exact ⟨h.1, fun p hp tj hj => ih _ _ (h.2 p hp tj hj)⟩
      | array m E =>
        rw [hk] at h
        exact ⟨h.1, fun te hte i hi => ih _ _ (h.2 te hte i hi)⟩
      | slice E =>
        rw [hk] at h
        intro te hte
        obtain ⟨a, n, c, xs, h1, h2, h3, h4⟩ := h te hte
        exact ⟨a, n, c, xs, h1, h2, h3, fun i hi => ih _ _ (h4 i hi)⟩
      | int k => rw [hk] at h; exact h
      | bool => rw [hk] at h; exact h
      | str => rw [hk] at h; exact h
      | _ => trivial
theorem rd_le {f g : Nat} (hfg : f ≤ g) (h : rd L W g t cs) : rd L W f t cs := by
  induction g with
  | zero =>
    obtain rfl : f = 0 := by omega
    exact h
  | succ g ih =>
    rcases Nat.lt_or_ge f (g + 1) with hlt | hge
    · exact ih (by omega) (rd_less _ _ _ h)
    · obtain rfl : f = g + 1 := by omega
      exact h
theorem rd_int {k : IntKind} (ht : L.ti t = some ti) (hk : ti.kind = .int k) (h : rd L W (f + 1) t cs) : ∃ n, cs = [.int k n] ∧ k.min ≤ n ∧ n ≤ k.max := by
  unfold rd at h; rw [ht] at h; simp only [hk] at h; exact h
theorem arg_cell {v u : Value} (ht : L.ti t = some ti) (hk : match ti.kind with | .int _ | .bool | .str | .slice _ => True | _ => False) (h : Arg L W t v) (he : v.cells.toList = [u]) : v = u := by
  rw [h.cell ti ht hk] at he; simpa using he
theorem arg_int {v : Value} {k : IntKind} (ht : L.ti t = some ti) (hk : ti.kind = .int k) (h : Arg L W t v) : ∃ n, v = .int k n ∧ k.min ≤ n ∧ n ≤ k.max := by
  obtain ⟨q, h1, h2⟩ := h.read
  obtain ⟨n, h3, h4⟩ := rd_int ht hk (rd_le h2 h1)
  exact ⟨n, arg_cell ht (by rw [hk]; trivial) h h3, h4⟩
theorem args2 {t2 : TypeId} {v : List Value} (h : Args L W [t, t2] v) : ∃ x y, v = [x, y] ∧ Arg L W t x ∧ Arg L W t2 y := by
  match v, h with
  | [x, y], h => exact ⟨x, y, rfl, h.1, h.2.1⟩
end
end Go.SE
open Go Go.SE Go.ChangeShapes Go.WideShapes Go.ChangeAt Go.WideElems Go.RowKit
namespace Go.SE
theorem law_laid {H : Type} {enc : TypeId × Value → H} (C : Cx) {K : Checked} (hP : K.prog = C.P) {os : Os} {f : FuncId} {fn : Func} {s : ChangeSpec} {m tb : Nat} {conds : List PathCond} {apart fresh handsOn : Bool} {laid : List (String × DataW Unit)}
    (hs : Lawful s m) (own : ownKnob K.prog.godebug = none) (started : os.Started) (noInit : K.prog.inits.idxOf? f = none) (hfn : K.prog.funcs[f]? = some fn)
    (witness : ∃ (w : World) (tape : Tape) (i : Input), w.os = os ∧ (w.forCall tape i).Shaped K.prog ∧ i.vars = [] ∧ Input.okWide K.prog (w.forCall tape i) .any w.heap.size f i ∧
      ((s.pre enc K.prog fn conds apart (w.forCall tape i).memory i.args ∧ laidMetH K.prog laid (w.forCall tape i).memory) ∧ sizedMet enc K.prog fn (OpenSpec.ofChange s) apart (w.forCall tape i).memory i.args) ∧ ({} : Assume).holds K.prog (lone (Frame.enter K.prog f i.args .normal) [] (w.forCall tape i)))
    (hl : laidOutB K.prog = true) (hr : (fn.params.toList.all fun t => K.prog.readableRec t && decide (t < K.prog.types.size)) = true) (hm : fn.params.size = m) (hres : fn.resultTypes = #[tb]) (htb : K.prog.underlying tb = some .bool)
    (law : ∀ (W : World) (args : List Value), laidMetH K.prog laid W → Args C.L W fn.params.toList args → Does C f args (S W [old W]) fun v w => v = .bool true ∧ S W [old W] w) :
    ReturnsInHanded {} K os f .any (fun w args => (s.pre enc K.prog fn conds apart w args ∧ laidMetH K.prog laid w) ∧ sizedMet enc K.prog fn (OpenSpec.ofChange s) apart w args) (s.post enc K.prog fn apart fresh handsOn false) := by
  refine returnsInHanded_of_change_and (X := fun w _ => laidMetH K.prog laid w) (fun _ _ _ hh h => h.of_heap hh) own started noInit hfn witness ?_
  intro W base args ds gs before hval hW _ hw hX _
  have hok : C.L.Ok K.prog := hP ▸ C.ok
  have hr' : ∀ t ∈ fn.params.toList, K.prog.readableRec t = true ∧ t < K.prog.types.size := fun t ht => by
    have := List.all_eq_true.1 hr t ht
    simpa using this
  have hA : Args C.L W fn.params.toList args.toList := by
    obtain ⟨p, q, hA, hV, _, _, _⟩ := hW
    refine args_of hok hA (r := .any) (b0 := base) (fun j t v hj hv => hval j t v (by simpa using hj) (by simpa using hv)) ?_
    have hlen := (trodAll_length hA).2
    have key : ∀ (ts ts' : List TypeId) (ds ds' : List (DataW H)), ds.length = ts.length → (DataW.weightsEach K.prog (ts ++ ts') (ds ++ ds')).all (· ≤ reachBytes) = true → (DataW.weightsEach K.prog ts ds).all (· ≤ reachBytes) = true := by
      intro ts
      induction ts with
      | nil => intro ts' ds ds' h _; cases ds with | nil => rfl | cons _ _ => cases h
      | cons t ts ih =>
        intro ts' ds ds' h hw
        cases ds with
        | nil => cases h
        | cons d ds =>
          simp only [List.cons_append, DataW.weightsEach, List.all_append, Bool.and_eq_true] at hw ⊢
          exact ⟨hw.1, ih ts' ds ds' (by simpa using h) hw.2⟩
    exact key _ _ _ _ (by rw [hlen]) hw
  have h1 := law W args.toList hX hA W (S.begin W)
  rw [← hP] at h1
  have h2 : Calls K.prog f args W fun x w' => ∃ v, x = .returned v ∧ (v = .bool true ∧ S W [old W] w') := by simpa using h1
  refine h2.mono fun e W' hh => ?_
  obtain ⟨v, rfl, rfl, hw'⟩ := hh
  exact ⟨_, rfl, law_post hl hs hr' hm hres htb hW (below_of hw')⟩
theorem laid_bytes {P : Program} {W : World} {n : String} {g t e N : Nat} {xs : List Nat} (hg : P.globalNamed n = some g) (ht : (P.globals[g]?).map (·.type) = some t) (hu : P.underlying t = some (.array N e)) (he : P.underlying e = some (.int .u8)) (hc : P.cellsOf e = 1) (hN : xs.length = N)
    (hp : ([(n, (DataW.agg (xs.map fun x : Nat => DataW.lit (.int .u8 (x : Int))) : DataW Unit))].filter fun x => x.2.handleName?.isSome) = [])
    (h : laidMetH P [(n, .agg (xs.map fun x : Nat => .lit (.int .u8 (x : Int))))] W) : Sl W 1 (some ⟨g, 0, none⟩) (xs.map fun x : Nat => .int .u8 (x : Int)) N := by
  unfold laidMetH at h
  rw [hp] at h
  obtain ⟨ps, ⟨g0, t0, cs0, f0, p0, q0, hg0, ht0, hv0, hd0, _⟩, _⟩ := h
  obtain rfl := Option.some.inj (hg.symm.trans hg0)
  obtain rfl := Option.some.inj (ht.symm.trans ht0)
  obtain ⟨ys, m1, rfl, hx1, hlen, hn3, hel⟩ := DataW.trod_array hu hd0
  simp only [Prod.mk.injEq, DataW.agg.injEq] at hx1
  refine ⟨by rw [List.length_map, hN, Nat.mul_one], fun j u hj => ⟨rfl, ?_⟩⟩
  rw [List.getElem?_map] at hj
  obtain ⟨x, hx, rfl⟩ := Option.map_eq_some_iff.1 hj
  have hjN : j < N := by rw [← hN]; exact (List.getElem?_eq_some_iff.1 hx).1
  have h1 := hel j hjN
  have h2 := congrArg (fun l : List (DataW Unit) => l[j]?) hx1.1
  simp only [List.getElem?_map, hx, Option.map_some] at h2
  obtain ⟨y, hy, hy1⟩ := Option.map_eq_some_iff.1 h2.symm
  rw [hy] at h1
  obtain ⟨k, e1, e2, _⟩ := DataW.trod_int he h1
  rw [e2] at hy1
  have hk : k = (x : Int) := by simpa using hy1
  subst hk
  rw [hc, Nat.mul_one] at e1
  have e3 : cs0.toList[j]? = some (.int .u8 (x : Int)) := by
    have := congrArg (fun l : List Value => l[0]?) e1
    simpa [List.getElem?_take, List.getElem?_drop] using this
  show W.cell? ⟨g, 0 + j, none⟩ = _
  rw [Nat.zero_add, World.var?_cell hg hv0 j]
  simpa using e3
end Go.SE
namespace Go.Proofs.YtpbnjifefoniiaaGreatDoor
open Go Go.SE
theorem own : ownKnob Tryz.prog.godebug = none := by kernel_rfl
theorem laidOut : laidOutB Tryz.prog = true := by kernel_rfl
theorem ubool : Tryz.prog.underlying 4 = some .bool := by kernel_rfl
abbrev laidTab : List (String × DataW Unit) := [("math/bits.deBruijn64tab", Rows.laid_math_bits_deBruijn64tab)]
theorem door_met (os : Os) (argv : Array Value) : laidMetH Tryz.prog laidTab ((World.doorLaid Tryz.prog 400 os).forCall (fun _ _ => 0) ⟨#[], argv, []⟩).memory :=
  laidMetH_of_parts3 (fuel := 8) (laidMet_of_run' 8 (by kernel_rfl) (by kernel_rfl)) (by kernel_rfl) (by kernel_rfl)
theorem tab_laid {W : World} (h : laidMetH Tryz.prog laidTab W) : Tab W :=
  View.of_old (i := 0) (laid_bytes (t := T_64_uint8) (e := T_uint8) (xs := tabN) (by kernel_rfl) (by kernel_rfl) (by kernel_rfl) (by kernel_rfl) (by kernel_rfl) rfl rfl h) ⟨by decide, by decide⟩ rfl
theorem LifeEven_lawful : Lawful Rows.lifeEvenSpec 2 := ⟨rfl, fun H ds h => by
  match ds, h with
  | [d, d2], _ => rfl⟩
set_option maxRecDepth 100000 in
set_option maxHeartbeats 8000000 in
theorem LifeEven_lifted (os : Os) (started : os.Started) (H : Type) (enc : TypeId × Value → H) :
    ReturnsInHanded {} Tryz.checked os F_law18_LifeEven .any (fun w argv => (Rows.lifeEvenSpec.pre enc Tryz.prog B_law18_LifeEven [] false w argv ∧ laidMetH Tryz.prog laidTab w) ∧ sizedMet enc Tryz.prog B_law18_LifeEven (OpenSpec.ofChange Rows.lifeEvenSpec) false w argv) (Rows.lifeEvenSpec.post enc Tryz.prog B_law18_LifeEven false true false false) :=
  law_laid cx (K := Tryz.checked) rfl LifeEven_lawful own started (by kernel_rfl) fn_law18_LifeEven
    (ChangeSpec.witness_shaped (enc := enc) (C := Tryz.checked) (os := os) (X := fun w _ => laidMetH Tryz.prog laidTab w) false (World.doorLaid Tryz.prog 400 os) #[.int .u8 0, .int .u8 0] 8 rfl (World.shaped_of_RefB (by kernel_rfl) (by kernel_rfl)) (by kernel_rfl) (by kernel_rfl) (by kernel_rfl) (door_met os _))
    laidOut (by kernel_rfl) rfl rfl ubool fun W argv hX hA => by
      obtain ⟨v, v2, rfl, h, h2⟩ := args2 (t := T_uint8) (t2 := T_uint8) hA
      obtain ⟨a, rfl, ha1, ha2⟩ := arg_int (L := lay) rfl rfl h
      obtain ⟨b, rfl, hb1, hb2⟩ := arg_int (L := lay) rfl rfl h2
      exact lEven (i := 0) (tab_laid hX) rfl ⟨ha1, ha2⟩ ⟨hb1, hb2⟩
theorem and_t {a b : Bool} (h1 : a = true) (h2 : b = true) : (a && b) = true := by rw [h1, h2]; rfl
set_option maxHeartbeats 8000000 in
theorem LifeEven_joined : joinedFacts Tryz.pinned.checked.prog F_law18_LifeEven B_law18_LifeEven Rows.lifeEvenSpec Rows.lifeEvenRow = true := by
  unfold joinedFacts
  refine and_t (and_t (and_t (and_t (and_t (and_t (and_t (and_t (and_t (and_t (and_t (and_t (and_t (and_t (and_t (and_t (and_t (and_t (and_t (and_t (and_t (and_t (and_t (and_t (and_t (and_t (and_t (and_t (and_t (and_t (and_t ?_ ?_) ?_) ?_) ?_) ?_) ?_) ?_) ?_) ?_) ?_) ?_) ?_) ?_) ?_) ?_) ?_) ?_) ?_) ?_) ?_) ?_) ?_) ?_) ?_) ?_) ?_) ?_) ?_) ?_) ?_) ?_
  all_goals as_aux_lemma => kernel_rfl
set_option maxHeartbeats 8000000 in
theorem LifeEven_named : Tryz.pinned.checked.prog.funcNamed Rows.lifeEvenRow.func = some F_law18_LifeEven := by kernel_rfl
set_option maxHeartbeats 8000000 in
theorem LifeEven_holds : Rows.LifeEvenSaid :=
  OpenClaim.holds_of_wide F_law18_LifeEven B_law18_LifeEven rfl rfl rfl rfl rfl rfl rfl ⟨rfl, rfl, rfl, rfl, rfl⟩ rfl rfl rfl rfl rfl LifeEven_named fn_law18_LifeEven LifeEven_joined
    (of_decide_eq_true (by kernel_rfl)) (by unfold Func.isWrapper; rw [if_neg (by decide +kernel)]; exact ⟨rfl, rfl⟩)
    (fun os started H enc _ => LifeEven_lifted os started H enc)
set_option maxHeartbeats 8000000 in
theorem LifeEvenCard_holds : Rows.LifeEvenCardSaid :=
  Claim7.holds_tied_plain_at .later [] [.data] true (true, "34f89f5f0ed0e37c87a271db4817c51aea4f06609f18d01bd35d34ecdfd9c30c") false
    LifeEven_holds (fun _ h => by cases h) (by kernel_rfl) (fun _ h => by cases h) lifeEven_row_tie rfl ⟨rfl, rfl⟩ (by kernel_rfl) rfl
    (fun f fn hf hfn => by
      obtain rfl : f = F_law18_LifeEven := Option.some.inj (LifeEven_named.symm.trans hf) |>.symm
      obtain rfl : fn = B_law18_LifeEven := (Option.some.inj ((show Tryz.prog.funcs[F_law18_LifeEven]? = _ from fn_law18_LifeEven).symm.trans hfn)).symm
      exact ⟨by kernel_rfl, fun j t ht => by
        have h3 : t = T_uint8 := by
          have ht : [T_uint8, T_uint8][j]? = some t := by simpa using ht
          match j, ht with
          | 0, ht => exact (Option.some.inj ht).symm
          | 1, ht => exact (Option.some.inj ht).symm
          | j + 2, ht => simp at ht
        subst h3
        exact (show Tryz.prog.wantsStandIn T_uint8 = false by kernel_rfl)⟩)
    (by kernel_rfl)
#print axioms LifeEvenCard_holds
end Go.Proofs.YtpbnjifefoniiaaGreatDoor
