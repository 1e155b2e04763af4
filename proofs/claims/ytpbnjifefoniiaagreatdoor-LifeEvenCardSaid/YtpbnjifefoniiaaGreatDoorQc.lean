/- Proved: LifeEvenCard_holds of this seat, for every input that its row lets in. Merged by a program of mine (merge.py) of my texts. -/
import Derived.Test.YtpbnjifefoniiaaGreatDoorQb
import Derived.LaidEql
import Derived.Shelf.SlGeneric
import Derived.Shelf.Small.Bits
import Derived.Shelf.Sort.Plain
import Derived.Shelf.Slices.In.SortNone
import Derived.Shelf.SlSortCmp.WholeK
import Derived.Ground.SlsfProg
import Derived.Test.YtpbnjifefoniiaaGreatDoorProg
import Derived.Shelf.SlSortCmp.NoneTotal
namespace Go.Proofs.YtpbnjifefoniiaaGreatDoor
open Go Go.SE
variable {w0 : World} {l : List HP} {F : Hp}
structure RatV (w0 : World) (F : Hp) (v : Value) (r : Rat) : Prop where
  is : ∃ a b, v = .agg [a, b].toArray ∧ NatV w0 F a (rn r) ∧ NatV w0 F b r.den
  nn : 0 ≤ r
theorem RatV.up {F G : Hp} {v : Value} {r : Rat} (h : RatV w0 F v r) (hu : Up F G) : RatV w0 G v r :=
  let ⟨a, b, h1, h2, h3⟩ := h.is
  ⟨⟨a, b, h1, h2.up hu, h3.up hu⟩, h.nn⟩
def Few (k : Nat) (r : Rat) : Prop := (limbs (rn r)).length ≤ k ∧ (limbs r.den).length ≤ k
theorem Few.le {k m : Nat} {r : Rat} (h : Few k r) (hkm : k ≤ m) : Few m r := ⟨Nat.le_trans h.1 hkm, Nat.le_trans h.2 hkm⟩
theorem len_mul (a b : Nat) : (limbs (a * b)).length ≤ (limbs a).length + (limbs b).length := by
  refine limbs_len ?_
  rw [Nat.pow_add]
  exact Nat.mul_lt_mul'' (limbs_lt a) (limbs_lt b)
theorem len_one : (limbs 1).length ≤ 1 := limbs_len (by decide)
theorem rOne : Giv cx F_ratio_one [] w0 F (fun v : Value => v) fun G v => NatV w0 G v 1 := by
  intro l
  refine fn_enter (n := N_ratio_one) fn_ratio_one rfl rfl rfl ?_
  refine wk ?_
  refine G0 (nOf 1 (by decide)) real_nat_Of fun G v hu hv => ?_
  refine wk ?_
  exact eq_rett rfl fun w hw => ⟨(G, v), rfl, ⟨hu, hv⟩, hw⟩
theorem rInt (n : Nat) (hn : n < 9223372036854775808) : Giv cx F_ratio_Int [int n] w0 F (fun v : Value => v) fun G v => RatV w0 G v (n : Rat) := by
  intro l
  refine fn_enter (n := N_ratio_Int) fn_ratio_Int rfl rfl rfl ?_
  refine wk ?_
  refine ec (oAlloc fun b => ?_)
  refine wk ?_
  refine el_cons rfl (eo_max rfl rfl rfl rfl rfl ?_)
  refine el_val 4 (u := int n) rfl (by rw [if_neg (by omega)]) ?_
  refine ec (oConv .u64 ?_)
  refine G0 (nOf n (by omega)) real_nat_Of fun G v hu hv => ?_
  refine G0 rOne real_ratio_one fun G1 v1 hu1 hv1 => ?_
  have hv' := hv
  have hv1' := hv1
  obtain ⟨_, _, rfl, _⟩ := hv'.is
  obtain ⟨_, _, rfl, _⟩ := hv1'.is
  refine ec (oBuild ?_)
  refine ec (oStA 0 ?_)
  refine wk ?_
  have hr := int_mk n
  refine eq_ret [_] (rvs_cell 0 rfl rfl rfl rfl rfl rvs_nil) fun w hw => ⟨(G1, _), rfl, ⟨hu.trans hu1, ⟨_, _, rfl, ?_, ?_⟩, nat_nonneg n⟩, hw.drop 1⟩
  · rw [hr.1]; exact hv.up hu1
  · rw [hr.2]; exact hv1
theorem rLowest (a b : Nat) (v u : Value) (hv : NatV w0 F v a) (hu : NatV w0 F u b) (hb : b ≠ 0) (hm : (limbs a).length ≤ 90000) (hm' : (limbs b).length ≤ 90000) : Giv cx F_ratio_lowest [v, u] w0 F (fun v : Value => v) fun G v => RatV w0 G v (mkRat (a : Int) b) := by
  intro l
  have hg : Nat.gcd a b ≠ 0 := fun e => hb (Nat.gcd_eq_zero_iff.1 e).2
  have hgl := Nat.le_trans (len_mono (Nat.gcd_le_right a (Nat.pos_of_ne_zero hb))) hm'
  refine fn_enter (n := N_ratio_lowest) fn_ratio_lowest rfl rfl rfl ?_
  refine wk ?_
  refine ec (oAlloc fun b4 => ?_)
  refine wk ?_
  refine G0 (nGcd a b v u hv hu hm hm') real_nat_Gcd fun G vg hu1 hvg => ?_
  refine wk ?_
  refine G0 (nDivMod a _ _ _ (hv.up hu1) hvg hg hm hgl) real_nat_DivMod fun G1 q hu2 hq => ?_
  refine wk ?_
  refine G0 (nDivMod b _ _ _ ((hu.up hu1).up hu2) (hvg.up hu2) hg hm' hgl) real_nat_DivMod fun G2 q' hu3 hq' => ?_
  refine wk ?_
  obtain ⟨q1, q2⟩ := q
  obtain ⟨q1', q2'⟩ := q'
  have h1 : NatV w0 G1 q1 (a / Nat.gcd a b) := hq.1
  have h1' : NatV w0 G2 q1' (b / Nat.gcd a b) := hq'.1
  have h2 := h1
  have h2' := h1'
  obtain ⟨_, _, rfl, _⟩ := h2.is
  obtain ⟨_, _, rfl, _⟩ := h2'.is
  refine ec (oBuild ?_)
  refine ec (oStA 0 ?_)
  refine wk ?_
  refine eq_ret [_] (rvs_cell 0 rfl rfl rfl rfl rfl rvs_nil) fun w hw => ⟨(G2, _), rfl, ⟨(hu1.trans hu2).trans hu3, ⟨_, _, rfl, ?_, ?_⟩, mk_nonneg a b⟩, hw.drop 1⟩
  · rw [mk_num hb]; exact h1.up hu3
  · rw [mk_den hb]; exact h1'
theorem rCrossed (r s : Rat) (v u : Value) (hv : RatV w0 F v r) (hu : RatV w0 F u s) (hr : Few 20000 r) (hs : Few 20000 s) : Giv cx F_ratio_crossed [v, u] w0 F (fun p : Value × Value × Value => .tuple #[p.1, p.2.1, p.2.2]) fun G p => NatV w0 G p.1 (rn r * s.den) ∧ NatV w0 G p.2.1 (rn s * r.den) ∧ NatV w0 G p.2.2 (r.den * s.den) := by
  intro l
  obtain ⟨a, b, rfl, ha, hb⟩ := hv.is
  obtain ⟨c, d, rfl, hc, hd⟩ := hu.is
  refine fn_enter (n := N_ratio_crossed) fn_ratio_crossed rfl rfl rfl ?_
  refine wk ?_
  refine ec (oBox fun b2 => ?_)
  refine ec (oBox fun b3 => ?_)
  refine wk ?_
  have hI : ∀ G : Hp, ∀ w, S w0 (cells b3 T_ratio_Ratio [c, d] :: cells b2 T_ratio_Ratio [a, b] :: frz G :: l) w → Held w0 [cells b3 T_ratio_Ratio [c, d], cells b2 T_ratio_Ratio [a, b]] w := fun G => held2 (i := 0) (j := 1) rfl rfl
  refine ej_held [cells b3 T_ratio_Ratio [c, d], cells b2 T_ratio_Ratio [a, b]] ?_
  have hI0 := hI F
  refine tk 0 ?_
  refine tv 1 rfl (rLd 1) ?_
  refine tk 2 ?_
  refine tv 3 rfl (rLd 0) ?_
  refine tk 5 ?_
  refine tv 6 rfl (rLd 0) ?_
  refine tk 7 ?_
  refine tv 8 rfl (rLd 1) ?_
  refine tk 10 ?_
  refine tv 11 rfl (rLd 1) ?_
  refine tk 12 ?_
  refine tv 13 rfl (rLd 0) ?_
  refine wg0 4 rfl (nMul _ _ _ _ ha hd (by have := hr.1; omega) (by have := hs.2; omega)) real_nat_Mul fun G v1 hu1 hv1 => ⟨?_, ?_⟩
  · exact hI G
  refine wg0 9 rfl (nMul _ _ _ _ (hc.up hu1) (hb.up hu1) (by have := hs.1; omega) (by have := hr.2; omega)) real_nat_Mul fun G1 v2 hu2 hv2 => ⟨?_, ?_⟩
  · exact hI G1
  refine wg0 14 rfl (nMul _ _ _ _ ((hb.up hu1).up hu2) ((hd.up hu1).up hu2) (by have := hr.2; omega) (by have := hs.2; omega)) real_nat_Mul fun G2 v3 hu3 hv3 => ⟨?_, ?_⟩
  · exact hI G2
  have hI2 := hI G2
  refine tk 15 ?_
  refine tk 16 ?_
  refine tk 17 ?_
  refine wd ?_
  refine wk ?_
  exact eq_rett rfl fun w hw => ⟨(G2, v1, v2, v3), rfl, ⟨(hu1.trans hu2).trans hu3, (hv1.up hu2).up hu3, hv2.up hu3, hv3⟩, hw.drop 2⟩
theorem rCmp (r s : Rat) (v u : Value) (hv : RatV w0 F v r) (hu : RatV w0 F u s) (hr : Few 20000 r) (hs : Few 20000 s) : Giv cx F_ratio_Cmp [v, u] w0 F (fun _ : Unit => int (cmpR r s)) fun _ _ => True := by
  intro l
  have hv' := hv
  have hu' := hu
  obtain ⟨a, b, rfl, ha, hb⟩ := hv'.is
  obtain ⟨c, d, rfl, hc, hd⟩ := hu'.is
  refine fn_enter (n := N_ratio_Cmp) fn_ratio_Cmp rfl rfl rfl ?_
  refine wk ?_
  refine ec (oBox fun b2 => ?_)
  refine ec (oBox fun b3 => ?_)
  refine wk ?_
  refine G0 (rCrossed r s _ _ hv hu hr hs) real_ratio_crossed fun G p hu1 hp => ?_
  refine wk ?_
  have hl := len_mul (rn r) s.den
  have h1 := hr.1
  have h2 := hs.2
  refine C1 (Cmp_any (i := 2) _ _ _ _ (by omega) rfl hp.1 hp.2.1) real_nat_Cmp ?_
  refine wk ?_
  refine eq_rett rfl fun w hw => ⟨(G, ()), ?_, ⟨hu1, trivial⟩, hw.drop 2⟩
  show int _ = int _
  rw [cmp_cross hv.nn hu.nn]
theorem rMul (r s : Rat) (v u : Value) (hv : RatV w0 F v r) (hu : RatV w0 F u s) (hr : Few 20000 r) (hs : Few 20000 s) : Giv cx F_ratio_Mul [v, u] w0 F (fun v : Value => v) fun G v => RatV w0 G v (r * s) := by
  intro l
  have hvn := hv.nn
  have hun := hu.nn
  obtain ⟨a, b, rfl, ha, hb⟩ := hv.is
  obtain ⟨c, d, rfl, hc, hd⟩ := hu.is
  have l1 := len_mul (rn r) (rn s)
  have l2 := len_mul r.den s.den
  have hr1 := hr.1
  have hr2 := hr.2
  have hs1 := hs.1
  have hs2 := hs.2
  refine fn_enter (n := N_ratio_Mul) fn_ratio_Mul rfl rfl rfl ?_
  refine wk ?_
  refine ec (oBox fun b2 => ?_)
  refine ec (oBox fun b3 => ?_)
  refine ec (oAlloc fun b4 => ?_)
  refine wk ?_
  have hI : ∀ (x : HP) (G : Hp), ∀ w, S w0 (x :: cells b3 T_ratio_Ratio [c, d] :: cells b2 T_ratio_Ratio [a, b] :: frz G :: l) w → Held w0 [cells b3 T_ratio_Ratio [c, d], cells b2 T_ratio_Ratio [a, b]] w := fun x G => held2 (i := 1) (j := 2) rfl rfl
  refine ej_held [cells b3 T_ratio_Ratio [c, d], cells b2 T_ratio_Ratio [a, b]] ?_
  have hI0 := hI (cells b4 T_ratio_Ratio [.slice none 0 0, .slice none 0 0]) F
  refine tk 0 ?_
  refine tv 1 rfl (rLd 1) ?_
  refine tk 2 ?_
  refine tv 3 rfl (rLd 0) ?_
  refine tk 5 ?_
  refine tv 6 rfl (rLd 1) ?_
  refine tk 7 ?_
  refine tv 8 rfl (rLd 0) ?_
  refine wg0 4 rfl (nMul _ _ _ _ ha hc (by omega) (by omega)) real_nat_Mul fun G v1 hu1 hv1 => ⟨?_, ?_⟩
  · exact hI _ G
  refine wg0 9 rfl (nMul _ _ _ _ (hb.up hu1) (hd.up hu1) (by omega) (by omega)) real_nat_Mul fun G1 v2 hu2 hv2 => ⟨?_, ?_⟩
  · exact hI _ G1
  refine wg0 10 rfl (rLowest _ _ _ _ (hv1.up hu2) hv2 (Nat.mul_ne_zero r.den_nz s.den_nz) (by omega) (by omega)) real_ratio_lowest fun G2 v3 hu3 hv3 => ⟨?_, ?_⟩
  · exact hI _ G2
  rw [mul_mk hvn hun] at hv3
  have hv3' := hv3
  obtain ⟨x, y, rfl, hx, hy⟩ := hv3'.is
  have hx' := hx
  have hy' := hy
  obtain ⟨_, _, rfl, _⟩ := hx'.is
  obtain ⟨_, _, rfl, _⟩ := hy'.is
  refine wv 11 rfl (eo_stA 0 rfl rfl rfl rfl rfl rfl rfl rfl rfl ⟨hI _ G2, ?_⟩)
  refine wd ?_
  refine wk ?_
  exact eq_ret [_] (rvs_cell 0 rfl rfl rfl rfl rfl rvs_nil) fun w hw => ⟨(G2, _), rfl, ⟨(hu1.trans hu2).trans hu3, hv3⟩, hw.drop 3⟩
theorem rOf (a b : Nat) (v u : Value) (hv : NatV w0 F v a) (hu : NatV w0 F u b) (hb : b ≠ 0) (hm : (limbs a).length ≤ 90000) (hm' : (limbs b).length ≤ 90000) : Giv cx F_ratio_Of [v, u] w0 F (fun v : Value => .tuple #[v, int 0]) fun G v => RatV w0 G v (mkRat (a : Int) b) := by
  intro l
  have hv' := hv
  have hu' := hu
  obtain ⟨_, _, rfl, _⟩ := hv'.is
  obtain ⟨_, _, rfl, _⟩ := hu'.is
  have hbl : (limbs b).length ≠ 0 := fun e => hb (limbs_nil.1 (List.eq_nil_of_length_eq_zero e))
  refine fn_enter (n := N_ratio_Of) fn_ratio_Of rfl rfl rfl ?_
  refine wk ?_
  refine ec (oAlloc fun b4 => ?_)
  refine wk ?_
  refine ej_dec rfl (fun h => by omega) (fun _ => ?_)
  refine wk ?_
  refine G0 (rLowest _ _ _ _ hv hu hb hm hm') real_ratio_lowest fun G2 v3 hu3 hv3 => ?_
  have hv3' := hv3
  obtain ⟨x, y, rfl, hx, hy⟩ := hv3'.is
  have hx' := hx
  have hy' := hy
  obtain ⟨_, _, rfl, _⟩ := hx'.is
  obtain ⟨_, _, rfl, _⟩ := hy'.is
  refine ec (oStA 0 ?_)
  refine wk ?_
  exact eq_ret [_, _] (rvs_cell 0 rfl rfl rfl rfl rfl (rvs_tmp rfl rvs_nil)) fun w hw => ⟨(G2, _), rfl, ⟨hu3, hv3⟩, hw.drop 1⟩
theorem rDiv (r s : Rat) (v u : Value) (hv : RatV w0 F v r) (hu : RatV w0 F u s) (hs0 : 0 < s) (hr : Few 20000 r) (hs : Few 20000 s) : Giv cx F_ratio_Div [v, u] w0 F (fun v : Value => .tuple #[v, int 0]) fun G v => RatV w0 G v (r / s) := by
  intro l
  have hvn := hv.nn
  obtain ⟨a, b, rfl, ha, hb⟩ := hv.is
  obtain ⟨c, d, rfl, hc, hd⟩ := hu.is
  have l1 := len_mul (rn r) s.den
  have l2 := len_mul r.den (rn s)
  have hr1 := hr.1
  have hr2 := hr.2
  have hs1 := hs.1
  have hs2 := hs.2
  refine fn_enter (n := N_ratio_Div) fn_ratio_Div rfl rfl rfl ?_
  refine wk ?_
  refine ec (oBox fun b2 => ?_)
  refine ec (oBox fun b3 => ?_)
  refine ec (oAlloc fun b4 => ?_)
  refine wk ?_
  have hI : ∀ (x : HP) (G : Hp), ∀ w, S w0 (x :: cells b3 T_ratio_Ratio [c, d] :: cells b2 T_ratio_Ratio [a, b] :: frz G :: l) w → Held w0 [cells b3 T_ratio_Ratio [c, d], cells b2 T_ratio_Ratio [a, b]] w := fun x G => held2 (i := 1) (j := 2) rfl rfl
  refine ej_held [cells b3 T_ratio_Ratio [c, d], cells b2 T_ratio_Ratio [a, b]] ?_
  have hI0 := hI (cells b4 T_ratio_Ratio [.slice none 0 0, .slice none 0 0]) F
  refine tk 0 ?_
  refine tv 1 rfl (rLd 1) ?_
  refine tk 2 ?_
  refine tv 3 rfl (rLd 0) ?_
  refine tk 5 ?_
  refine tv 6 rfl (rLd 1) ?_
  refine tk 7 ?_
  refine tv 8 rfl (rLd 0) ?_
  refine wg0 4 rfl (nMul _ _ _ _ ha hd (by omega) (by omega)) real_nat_Mul fun G v1 hu1 hv1 => ⟨?_, ?_⟩
  · exact hI _ G
  refine wg0 9 rfl (nMul _ _ _ _ (hb.up hu1) (hc.up hu1) (by omega) (by omega)) real_nat_Mul fun G1 v2 hu2 hv2 => ⟨?_, ?_⟩
  · exact hI _ G1
  refine wg0 10 rfl (rOf _ _ _ _ (hv1.up hu2) hv2 (Nat.mul_ne_zero r.den_nz (pos_rn hs0)) (by omega) (by omega)) real_ratio_Of fun G2 v3 hu3 hv3 => ⟨?_, ?_⟩
  · exact hI _ G2
  rw [div_mk hvn hs0] at hv3
  have hv3' := hv3
  obtain ⟨x, y, rfl, hx, hy⟩ := hv3'.is
  have hx' := hx
  have hy' := hy
  obtain ⟨_, _, rfl, _⟩ := hx'.is
  obtain ⟨_, _, rfl, _⟩ := hy'.is
  have hI2 := hI (cells b4 T_ratio_Ratio [.slice none 0 0, .slice none 0 0]) G2
  refine tk 11 ?_
  refine tk 12 ?_
  refine wv 13 rfl (eo_stA 0 rfl rfl rfl rfl rfl rfl rfl rfl rfl ⟨hI _ G2, ?_⟩)
  refine tk 14 ?_ (hI := hI _ G2)
  refine wd ?_
  refine wk ?_
  exact eq_ret [_, _] (rvs_cell 0 rfl rfl rfl rfl rfl (rvs_tmp rfl rvs_nil)) fun w hw => ⟨(G2, _), rfl, ⟨(hu1.trans hu2).trans hu3, hv3⟩, hw.drop 3⟩
theorem rSub (r s : Rat) (v u : Value) (hv : RatV w0 F v r) (hu : RatV w0 F u s) (hle : s ≤ r) (hr : Few 20000 r) (hs : Few 20000 s) : Giv cx F_ratio_Sub [v, u] w0 F (fun v : Value => .tuple #[v, int 0]) fun G v => RatV w0 G v (r - s) := by
  intro l
  have hv' := hv
  have hu' := hu
  obtain ⟨a, b, rfl, ha, hb⟩ := hv'.is
  obtain ⟨c, d, rfl, hc, hd⟩ := hu'.is
  have l1 := len_mul (rn r) s.den
  have l2 := len_mul r.den s.den
  have hr1 := hr.1
  have hr2 := hr.2
  have hs1 := hs.1
  have hs2 := hs.2
  have hcross : rn s * r.den ≤ rn r * s.den := by
    have h1 := lt_cross hv.nn hu.nn
    have h2 : ¬ r < s := by grind
    rw [h1] at h2
    omega
  refine fn_enter (n := N_ratio_Sub) fn_ratio_Sub rfl rfl rfl ?_
  refine wk ?_
  refine ec (oBox fun b2 => ?_)
  refine ec (oBox fun b3 => ?_)
  refine ec (oAlloc fun b4 => ?_)
  refine wk ?_
  refine G0 (rCrossed r s _ _ hv hu hr hs) real_ratio_crossed fun G p hu1 hp => ?_
  refine wk ?_
  refine G0 (nSub _ _ _ _ hp.1 hp.2.1 hcross (by omega)) real_nat_Sub fun G1 vd hu2 hvd => ?_
  refine wk ?_
  have l3 := len_mono (Nat.sub_le (rn r * s.den) (rn s * r.den))
  refine G0 (rLowest _ _ _ _ hvd (hp.2.2.up hu2) (Nat.mul_ne_zero r.den_nz s.den_nz) (by omega) (by omega)) real_ratio_lowest fun G2 v3 hu3 hv3 => ?_
  rw [sub_mk hv.nn hu.nn hle] at hv3
  have hv3' := hv3
  obtain ⟨x, y, rfl, hx, hy⟩ := hv3'.is
  have hx' := hx
  have hy' := hy
  obtain ⟨_, _, rfl, _⟩ := hx'.is
  obtain ⟨_, _, rfl, _⟩ := hy'.is
  refine ec (oStA 0 ?_)
  refine wk ?_
  exact eq_ret [_, _] (rvs_cell 0 rfl rfl rfl rfl rfl (rvs_tmp rfl rvs_nil)) fun w hw => ⟨(G2, _), rfl, ⟨(hu1.trans hu2).trans hu3, hv3⟩, hw.drop 3⟩
theorem rFloor (r : Rat) (v : Value) (hv : RatV w0 F v r) (hr : Few 20000 r) : Giv cx F_ratio_Ratio_Floor [v] w0 F (fun v : Value => v) fun G v => NatV w0 G v (rn r / r.den) := by
  intro l
  obtain ⟨a, b, rfl, ha, hb⟩ := hv.is
  have hr1 := hr.1
  have hr2 := hr.2
  refine fn_enter (n := N_ratio_Ratio_Floor) fn_ratio_Ratio_Floor rfl rfl rfl ?_
  refine wk ?_
  refine ec (oBox fun b1 => ?_)
  refine wk ?_
  refine G0 (nDivMod _ _ _ _ ha hb r.den_nz (by omega) (by omega)) real_nat_DivMod fun G q hu1 hq => ?_
  refine wk ?_
  exact eq_rett rfl fun w hw => ⟨(G, _), rfl, ⟨hu1, hq.1⟩, hw.drop 1⟩
theorem rGood (r : Rat) (v : Value) (hv : RatV w0 F v r) (hr : Few 20000 r) : Giv cx F_ratio_Ratio_Good [v] w0 F (fun _ : Unit => .bool true) fun _ _ => True := by
  intro l
  obtain ⟨a, b, rfl, ha, hb⟩ := hv.is
  have hr1 := hr.1
  have hr2 := hr.2
  have hb' := hb
  obtain ⟨ab, cb, rfl, _⟩ := hb'.is
  have hbl : (limbs r.den).length ≠ 0 := fun e => r.den_nz (limbs_nil.1 (List.eq_nil_of_length_eq_zero e))
  refine fn_enter (n := N_ratio_Ratio_Good) fn_ratio_Ratio_Good rfl rfl rfl ?_
  refine wk ?_
  refine ec (oBox fun b1 => ?_)
  refine wk ?_
  refine C1 (Good_any (i := 1) _ _ (by omega) rfl ha) real_nat_Good ?_
  refine wk ?_
  refine C1 (Good_any (i := 1) _ _ (by omega) rfl hb) real_nat_Good ?_
  refine wk ?_
  refine el_val 17 (u := .bool true) rfl (by rw [decide_eq_true (by omega)]) ?_
  refine wk ?_
  refine G0 (nGcd _ _ _ _ ha hb (by omega) (by omega)) real_nat_Gcd fun G g hu1 hg => ?_
  refine G0 rOne real_ratio_one fun G1 v1 hu2 hv1 => ?_
  have hred : Nat.gcd (rn r) r.den = 1 := by
    have := r.reduced
    rw [rn]
    have h2 := num_nonneg hv.nn
    have h3 : r.num.natAbs = r.num.toNat := by omega
    rw [Nat.Coprime, h3] at this
    exact this
  rw [hred] at hg
  refine C1 (Cmp_any (i := 1) _ _ _ _ (by have := len_one; omega) rfl (hg.up hu2) hv1) real_nat_Cmp ?_
  refine wk ?_
  exact eq_rett rfl fun w hw => ⟨(G1, ()), rfl, ⟨hu1.trans hu2, trivial⟩, hw.drop 1⟩
end Go.Proofs.YtpbnjifefoniiaaGreatDoor
namespace Go.Proofs.YtpbnjifefoniiaaGreatDoor
open Go Go.SE
variable {w0 : World} {l : List HP} {F : Hp}
theorem few_mk {a b k : Nat} (hb : b ≠ 0) (h1 : (limbs a).length ≤ k) (h2 : (limbs b).length ≤ k) : Few k (mkRat (a : Int) b) := by
  refine ⟨?_, ?_⟩
  · rw [mk_num hb]; exact Nat.le_trans (len_mono (Nat.div_le_self _ _)) h1
  · rw [mk_den hb]; exact Nat.le_trans (len_mono (Nat.div_le_self _ _)) h2
theorem few_mul {j k : Nat} {r s : Rat} (hr : 0 ≤ r) (hs : 0 ≤ s) (h1 : Few j r) (h2 : Few k s) : Few (j + k) (r * s) := by
  rw [← mul_mk hr hs]
  have l1 := len_mul (rn r) (rn s)
  have l2 := len_mul r.den s.den
  have a1 := h1.1
  have a2 := h1.2
  have b1 := h2.1
  have b2 := h2.2
  exact few_mk (Nat.mul_ne_zero r.den_nz s.den_nz) (by omega) (by omega)
theorem few_sub {j k : Nat} {r s : Rat} (hr : 0 ≤ r) (hs : 0 ≤ s) (hle : s ≤ r) (h1 : Few j r) (h2 : Few k s) : Few (j + k) (r - s) := by
  rw [← sub_mk hr hs hle]
  have l1 := len_mul (rn r) s.den
  have l2 := len_mul r.den s.den
  have l3 := len_mono (Nat.sub_le (rn r * s.den) (rn s * r.den))
  have a1 := h1.1
  have a2 := h1.2
  have b1 := h2.1
  have b2 := h2.2
  exact few_mk (Nat.mul_ne_zero r.den_nz s.den_nz) (by omega) (by omega)
theorem few_div {j k : Nat} {r s : Rat} (hr : 0 ≤ r) (hs : 0 < s) (h1 : Few j r) (h2 : Few k s) : Few (j + k) (r / s) := by
  rw [← div_mk hr hs]
  have l1 := len_mul (rn r) s.den
  have l2 := len_mul r.den (rn s)
  have a1 := h1.1
  have a2 := h1.2
  have b1 := h2.1
  have b2 := h2.2
  exact few_mk (Nat.mul_ne_zero r.den_nz (pos_rn hs)) (by omega) (by omega)
theorem few_nat {n : Nat} (h : n < 18446744073709551616) : Few 1 (n : Rat) := by
  have e := int_mk n
  refine ⟨?_, ?_⟩
  · rw [e.1]; exact limbs_len (by simpa using h)
  · rw [e.2]; exact len_one
def sliceN (q : Nat) (r : Rat) : Nat := max 1 (rn (r * (q : Rat)) / (r * (q : Rat)).den)
theorem slice_le {q : Nat} {r : Rat} (h0 : 0 ≤ r) (h1 : r ≤ 1) (hq : 1 ≤ q) : 1 ≤ sliceN q r ∧ sliceN q r ≤ q := by
  refine ⟨Nat.le_max_left _ _, ?_⟩
  refine Nat.max_le.2 ⟨hq, ?_⟩
  have hqn := nat_nonneg q
  have hp : 0 ≤ r * (q : Rat) := Rat.mul_nonneg h0 hqn
  have h2 := (floor_lt hp (rn (r * (q : Rat)) / (r * (q : Rat)).den)).2 (Nat.le_refl _)
  have h3 : r * (q : Rat) ≤ (q : Rat) := by
    have := Rat.mul_le_mul_of_nonneg_right h1 hqn
    grind
  exact_mod_cast Rat.le_trans h2 h3
theorem right_any (q : Int) (H : WP) : Does cx F_slice_right [int q] H fun v w => v = .bool (decide (1 ≤ q ∧ q ≤ 1000)) ∧ H w := by
  refine fn_enter (n := N_slice_right) fn_slice_right rfl rfl rfl ?_
  refine wk ?_
  refine el_gdec rfl rfl (fun h => ?_) (fun h => ?_)
  · have h : 1 ≤ q := h
    refine wk ?_
    refine eq_rett rfl fun w hw => ⟨?_, hw⟩
    simp [pack, h]
  · have h : ¬ 1 ≤ q := h
    refine wk ?_
    refine eq_rett rfl fun w hw => ⟨?_, hw⟩
    simp [pack, h]
theorem sOf (q : Nat) (r : Rat) (v : Value) (hv : RatV w0 F v r) (hq : 1 ≤ q ∧ q ≤ 1000) (h1 : r ≤ 1) (hr : Few 1000 r) : Giv cx F_slice_Of [int q, v] w0 F (fun _ : Unit => .tuple #[int (sliceN q r), int 0]) fun _ _ => True := by
  intro l
  have hr' : Few 20000 r := hr.le (by omega)
  have hv' := hv
  obtain ⟨a, b, rfl, ha, hb⟩ := hv'.is
  have hfq := few_nat (n := q) (by omega)
  refine fn_enter (n := N_slice_Of) fn_slice_Of rfl rfl rfl ?_
  refine wk ?_
  refine ec (oBox fun b3 => ?_)
  refine wk ?_
  refine C1 (right_any q _) real_slice_right ?_
  refine el_val 10 (u := .bool true) rfl (by rw [decide_eq_true (by omega)]) ?_
  refine wk ?_
  refine G0 (rGood r _ hv hr') real_ratio_Ratio_Good fun G _ hu1 _ => ?_
  refine wk ?_
  have hI : ∀ G : Hp, ∀ w, S w0 (cells b3 T_ratio_Ratio [a, b] :: frz G :: l) w → Held w0 [cells b3 T_ratio_Ratio [a, b]] w := fun G => held1 (i := 0) rfl
  refine ej_held [cells b3 T_ratio_Ratio [a, b]] ?_
  have hI0 := hI G
  refine tv 0 rfl (rLdW 0) ?_
  refine wg0 1 rfl (rInt 1 (by decide)) real_ratio_Int fun G1 v1 hu2 hv1 => ⟨?_, ?_⟩
  · exact hI G1
  refine wg0 2 rfl (rCmp r _ _ _ ((hv.up hu1).up hu2) hv1 hr' ((few_nat (by decide)).le (by omega))) real_ratio_Cmp fun G2 _ hu3 _ => ⟨?_, ?_⟩
  · exact hI G2
  have hI2 := hI G2
  have hc : ¬ cmpR r ((1 : Nat) : Rat) > 0 := by
    have e : ((1 : Nat) : Rat) = 1 := rfl
    rw [e, cmpR]
    split
    · decide
    · rw [if_neg (by grind)]; decide
  refine tk 3 ?_
  refine tk 4 ?_
  refine wd ?_
  refine wk ?_
  refine ej_dec rfl (fun h => absurd h hc) (fun _ => ?_)
  refine wk ?_
  refine ej_held [cells b3 T_ratio_Ratio [a, b]] ?_
  refine tv 0 rfl (rLdW 0) ?_
  refine tk 1 ?_
  refine wg0 2 rfl (rInt q (by omega)) real_ratio_Int fun G3 vq hu4 hvq => ⟨?_, ?_⟩
  · exact hI G3
  refine wg0 3 rfl (rMul r _ _ _ (((hv.up hu1).up hu2).up hu3 |>.up hu4) hvq hr' (hfq.le (by omega))) real_ratio_Mul fun G4 vm hu5 hvm => ⟨?_, ?_⟩
  · exact hI G4
  have hfm := few_mul hv.nn (nat_nonneg q) hr hfq
  refine wg0 4 rfl (rFloor _ _ hvm (hfm.le (by omega))) real_ratio_Ratio_Floor fun G5 vf hu6 hvf => ⟨?_, ?_⟩
  · exact hI G5
  have hsl := slice_le hv.nn h1 hq.1
  have hfl : rn (r * (q : Rat)) / (r * (q : Rat)).den ≤ q := Nat.le_trans (Nat.le_max_right 1 _) hsl.2
  refine w1 5 rfl (Small_any (i := 1) _ _ (by omega) rfl hvf) real_nat_Small (hI G5) ?_
  have hI5 := hI G5
  refine tk 6 ?_
  refine tk 7 ?_
  refine tk 8 ?_
  refine tk 9 ?_
  refine tk 10 ?_
  refine wd ?_
  refine wk ?_
  refine el_cons rfl (eo_max rfl rfl rfl rfl rfl ?_)
  refine el_val 31 (u := int (sliceN q r)) rfl (by
    rw [sliceN]
    generalize rn (r * (q : Rat)) / (r * (q : Rat)).den = m at *
    congr 1
    rw [Nat.max_def]
    split <;> split <;> omega) ?_
  refine wk ?_
  refine eq_rett rfl fun w hw => ⟨(G5, ()), rfl, ⟨((((hu1.trans hu2).trans hu3).trans hu4).trans hu5).trans hu6, trivial⟩, hw.drop 1⟩
end Go.Proofs.YtpbnjifefoniiaaGreatDoor
open Go Go.SE
namespace Go.SE
variable {C : Cx} {n : Nat} {Q : Kont} {e : Env} {H : WP} {ops : Array Oper} {rest : List Oper} {o o1 o2 : Oper} {k : Env → WP → Prop} {w0 w : World} {l hs : List HP} {F : Hp}
theorem eq_frz (j : Nat) {i : Nat} {p : HP} {x : Exit} (h : ∀ G, Up F G → Froze p G → EQ C n x Q e (S w0 ((l.set i (frz G)).eraseIdx j))) (hj : l[j]? = some p := by exact rfl) (hi : l[i]? = some (frz F) := by first | exact at0 | exact at1 | exact at2 | exact at3 | exact at4 | exact at5 | exact at6 | exact at7 | exact at8 | exact at9 | exact at10 | exact at11 | exact at12 | assumption) (hij : i ≠ j := by omega) : EQ C n x Q e (S w0 l) :=
  ⟨fun a w hf hw => let ⟨G, hG, hS⟩ := hw.frzn hi hj hij; (h G hG.1 hG.2).run a w hf hS⟩
theorem eq_imp {x : Exit} {H' : WP} (hH : ∀ w, H w → H' w) (h : EQ C n x Q e H') : EQ C n x Q e H := ⟨fun a w hf hw => h.run a w hf (hH w hw)⟩
theorem ej_row0 {c : Code} (T sz : Nat) (h : EJ C n c Q e (S w0 (rowC none T sz [] 0 :: l))) : EJ C n c Q e (S w0 l) := ej_imp' (fun _ hw => hw.row_new) h
theorem el_row0 {l' : List Oper} (T sz : Nat) (h : EL C n l' ops Q e (S w0 (rowC none T sz [] 0 :: l))) : EL C n l' ops Q e (S w0 l) := el_imp (fun _ hw => hw.row_new) h
end Go.SE
namespace Go.Proofs.YtpbnjifefoniiaaGreatDoor
open Go Go.SE
variable {w0 : World} {l : List HP} {F : Hp}
abbrev pr (p : Value × Value) : List Value := [p.1, p.2]
theorem pr2 (p : Value × Value) : (pr p).length = 2 := rfl
structure RatsV (w0 : World) (F : Hp) (v : Value) (rs : List Rat) : Prop where
  is : ∃ a c ps, v = .slice a rs.length c ∧ Fv w0 F 2 a (rows pr ps) rs.length c ∧ ps.length = rs.length ∧ ∀ (i : Nat) (p : Value × Value) (r : Rat), ps[i]? = some p → rs[i]? = some r → RatV w0 F (.agg (pr p).toArray) r
theorem RatsV.up {F G : Hp} {v : Value} {rs : List Rat} (h : RatsV w0 F v rs) (hu : Up F G) : RatsV w0 G v rs :=
  let ⟨a, c, ps, h1, h2, h3, h4⟩ := h.is
  ⟨a, c, ps, h1, h2.up hu, h3, fun i p r hp hr => (h4 i p r hp hr).up hu⟩
abbrev ints (l : List Int) : List Value := l.map int
structure IntsV (w0 : World) (F : Hp) (v : Value) (xs : List Int) : Prop where
  is : ∃ a c, v = .slice a xs.length c ∧ Fv w0 F 1 a (ints xs) xs.length c
theorem IntsV.up {F G : Hp} {v : Value} {xs : List Int} (h : IntsV w0 F v xs) (hu : Up F G) : IntsV w0 G v xs :=
  let ⟨a, c, h1, h2⟩ := h.is
  ⟨a, c, h1, h2.up hu⟩
theorem ints_get {l : List Int} {k : Nat} {m : Int} (h : l[k]? = some m) : (ints l)[k]? = some (int m) := by simp [h]
theorem ints_row {r : Option (Nat × Nat)} {T m : Nat} {xs : List Int} {G : Hp} (h : Froze (rowC r T 1 (ints xs) m) G) (hl : xs.length = m) : IntsV w0 G (sv r m) xs := by
  subst hl
  exact ⟨_, _, rfl, fv_row h (by simp)⟩
theorem sAll (q : Nat) (rs : List Rat) (v : Value) (hv : RatsV w0 F v rs) (hq : 1 ≤ q ∧ q ≤ 1000) (h1 : ∀ r ∈ rs, r ≤ 1 ∧ Few 1000 r) (hn : rs.length ≤ 1000) : Giv cx F_slice_All [int q, v] w0 F (fun v : Value => .tuple #[v, int 0]) fun G v => IntsV w0 G v (rs.map fun r => (sliceN q r : Int)) := by
  intro l
  obtain ⟨a, c, ps, rfl, hV, hpl, hel⟩ := hv.is
  refine fn_enter (n := N_slice_All) fn_slice_All rfl rfl rfl ?_
  refine wk ?_
  refine C1 (right_any q _) real_slice_right ?_
  refine el_val 12 (u := .bool true) rfl (by rw [decide_eq_true (by omega)]) ?_
  refine wk ?_
  refine ej_imp' (fun w hw => hw.row_new (T := T_int) (sz := 1)) ?_
  refine ej_loop3 (fun (k : Nat) (r : Option (Nat × Nat)) (G : Hp) => k ≤ rs.length ∧ Up F G) (fun k r _ => [(0, int q), (1, .slice a rs.length c), (6, sv r k), (14, .slice a rs.length c), (15, int rs.length), (16, int k)])
    (fun k r G => S w0 (rowC r T_int 1 (ints ((rs.take k).map fun r => (sliceN q r : Int))) k :: frz G :: l)) (fun k _ _ => rs.length - k) 0 none F ⟨Nat.zero_le _, Up.rfl⟩ (le_of _ _ rfl) (fun w hw => by simpa using hw) ?_
  rintro k r G ⟨hk, hu⟩
  refine wk ?_
  refine ej_dec rfl (fun h => ?_) (fun h => ?_)
  · have h : k < rs.length := by omega
    have hp : ps[k]? = some (ps[k]'(by omega)) := by simp [show k < ps.length by omega]
    have hr : rs[k]? = some rs[k] := by simp [h]
    have hR := hel k _ _ hp hr
    have hr1 := h1 _ (List.getElem_mem h)
    have hsn : rs.take (k + 1) = rs.take k ++ [rs[k]] := List.take_succ_eq_append_getElem h
    generalize ps[k]'(by omega) = p at *
    generalize rs[k] = x at *
    refine wk ?_
    refine Ixf (hV.up hu) ?_
    refine LdfA (cs := pr p) (k * 2) (hV.up hu) (fun j hj => rows_get pr 2 pr2 ps k j p hp hj) ?_
    refine ec (oAlloc fun b8 => ?_)
    have hR' := hR
    obtain ⟨x1, x2, he, hx1, hx2⟩ := hR'.is
    have he1 : pr p = [x1, x2] := by simpa using he
    obtain ⟨p1, p2⟩ := p
    obtain ⟨rfl, rfl⟩ : p1 = x1 ∧ p2 = x2 := by simpa using he1
    obtain ⟨_, _, rfl, _⟩ := hx1.is
    obtain ⟨_, _, rfl, _⟩ := hx2.is
    refine ec (oStA 0 ?_)
    refine wk ?_
    refine G0 (sOf q x _ (hR.up hu) hq hr1.1 hr1.2) real_slice_Of fun G1 _ hu1 _ => ?_
    refine wk ?_
    refine App (fun r' b => ?_) (hc := by exact rfl)
    refine wk ?_
    refine eq_back3 (k + 1) r' G1 ⟨by omega, hu.trans hu1⟩ (by omega) (le_of _ _ rfl) fun w hw => ?_
    have e : ints ((rs.take (k + 1)).map fun r => (sliceN q r : Int)) = ints ((rs.take k).map fun r => (sliceN q r : Int)) ++ [int (sliceN q x)] := by rw [hsn]; simp
    rw [e]; exact hw.erase 0
  · obtain rfl : k = rs.length := by omega
    refine wk ?_
    refine eq_frz 0 (fun G1 hu1 hf => ?_)
    rw [List.take_length] at hf
    exact eq_rett rfl fun w hw => ⟨(G1, _), rfl, ⟨hu.trans hu1, ints_row hf (by simp)⟩, hw⟩
end Go.Proofs.YtpbnjifefoniiaaGreatDoor
namespace Go.Proofs.YtpbnjifefoniiaaGreatDoor.TP
open Go Go.SE
theorem wlk {G G' : Prop} (h : G') (a : Hid G' → G := by
  intro h
  (repeat (first | refine pu ?_ | refine sq ?_ | refine rg ?_ | refine ni ?_ | refine qs ?_ | refine qc ?_ | refine jt ?_ | refine jf ?_ | refine sk ?_ | refine jr ?_ | refine js ?_ | refine je ?_ | refine jb ?_ | refine qsr ?_ | refine qse ?_ | refine qb ?_ | refine qbe ?_ | refine qbr ?_ | refine qbn ?_ | refine qkr ?_ | refine qke ?_))
  exact h.out) : G := a ⟨h⟩
theorem wlz {G G' : Prop} (h : G') (a : Hid G' → G := by
  intro h
  (repeat (first | refine pu ?_ | refine sq ?_ | refine rg ?_ | refine ni ?_ | refine qs ?_ | refine qc ?_ | refine jt ?_ | refine jf ?_ | refine sk ?_ | refine jr ?_ | refine js ?_ | refine je ?_ | refine jb ?_ | refine qsr ?_ | refine qse ?_ | refine qb ?_ | refine qbe ?_ | refine qbr ?_ | refine qbn ?_ | refine qkr ?_ | refine qke ?_ | refine el_cons rfl (eo_lenv rfl rfl rfl rfl rfl rfl ?_) | refine el_cons rfl (eo_arith rfl rfl rfl rfl rfl rfl ⟨by omega, by omega⟩ ?_)))
  exact h.out) : G := a ⟨h⟩
def core (c : Int) : Prop := 0 ≤ c ∧ c < 64
instance (c : Int) : Decidable (core c) := inferInstanceAs (Decidable (_ ∧ _))
def has (s : Nat) (c : Int) : Bool := decide (core c) && s.testBit c.toNat
def withC (s : Nat) (c : Int) : Nat := if core c then s ||| 2 ^ c.toNat else s
theorem pow_lt (c : Int) (h : core c) : 2 ^ c.toNat < 18446744073709551616 := by
  unfold core at h
  calc 2 ^ c.toNat < 2 ^ 64 := Nat.pow_lt_pow_right (by omega) (by omega)
    _ = 18446744073709551616 := rfl
theorem withC_lt {s : Nat} (c : Int) (h : s < 18446744073709551616) : withC s c < 18446744073709551616 := by
  unfold withC
  split
  · rename_i hc
    exact Nat.or_lt_two_pow (n := 64) h (pow_lt c hc)
  · exact h
theorem bit_test (s : Nat) (c : Nat) : decide (((s >>> c &&& 1 : Nat) : Int) = 1) = s.testBit c := by
  rw [Nat.testBit, Nat.and_comm]
  by_cases h : (1 &&& s >>> c) = 0
  · simp [h]
  · have : (1 &&& s >>> c) = 1 := by
      have := Nat.and_le_left (n := 1) (m := s >>> c)
      omega
    simp [this]
theorem core_any (c : Int) (H : WP) : Does cx F_mask_core [.int .i64 c] H fun v w => v = .bool (decide (core c)) ∧ H w := by
  refine fn_enter (n := N_mask_core) fn_mask_core rfl rfl rfl ?_
  (repeat' (first | refine el_pure rfl rfl rfl rfl ?_ | refine ej_seq ?_ | refine ej_region ?_ | refine el_nil ?_ | refine eq_seq ?_ | refine eq_calm ?_ | refine ej_true rfl ?_ | refine ej_false rfl ?_ | refine el_skip rfl rfl rfl ?_ | refine ej_ret ?_ | refine ej_skip ?_ | refine ej_exit ?_ | refine ej_block ?_ | refine eq_seq_ret ?_ | refine eq_seq_exit ?_ | refine eq_block ?_ | refine eq_block_exit ?_ | refine eq_block_ret ?_ | refine eq_block_exit_ne rfl ?_ | refine eq_back_ret ?_ | refine eq_back_exit ?_ | (refine ej_dec rfl (fun h => ?_) (fun h => ?_)) | ((fail_if_success refine el_gt rfl rfl ?_); (fail_if_success refine el_gf rfl rfl ?_); refine el_gdec rfl rfl (fun h => ?_) (fun h => ?_)) | (refine ej_cond rfl (fun h => ?_) (fun h => ?_)) | ((fail_if_success refine el_gt rfl rfl ?_); (fail_if_success refine el_gf rfl rfl ?_); refine el_gsplit rfl rfl (fun h => ?_) (fun h => ?_))))
  all_goals (refine eq_rett rfl fun w hw => ⟨?_, hw⟩)
  all_goals simp [pack, core, *]
theorem Has_any (s : Nat) (c : Int) (hs : s < 18446744073709551616) (H : WP) : Does cx F_mask_Set_Has [u64 s, .int .i64 c] H fun v w => v = .bool (has s c) ∧ H w := by
  refine fn_enter (n := N_mask_Set_Has) fn_mask_Set_Has rfl rfl rfl ?_
  refine wlk ?_
  refine el_cons rfl (eo_call1 rfl rfl rfl rfl rfl real_mask_core (core_any _ _) ?_)
  (repeat' (first | refine el_pure rfl rfl rfl rfl ?_ | refine ej_seq ?_ | refine ej_region ?_ | refine el_nil ?_ | refine eq_seq ?_ | refine eq_calm ?_ | refine ej_true rfl ?_ | refine ej_false rfl ?_ | refine el_skip rfl rfl rfl ?_ | refine ej_ret ?_ | refine ej_skip ?_ | refine ej_exit ?_ | refine ej_block ?_ | refine eq_seq_ret ?_ | refine eq_seq_exit ?_ | refine eq_block ?_ | refine eq_block_exit ?_ | refine eq_block_ret ?_ | refine eq_block_exit_ne rfl ?_ | refine eq_back_ret ?_ | refine eq_back_exit ?_ | (refine ej_dec rfl (fun h => ?_) (fun h => ?_)) | ((fail_if_success refine el_gt rfl rfl ?_); (fail_if_success refine el_gf rfl rfl ?_); refine el_gdec rfl rfl (fun h => ?_) (fun h => ?_)) | (refine ej_cond rfl (fun h => ?_) (fun h => ?_)) | ((fail_if_success refine el_gt rfl rfl ?_); (fail_if_success refine el_gf rfl rfl ?_); refine el_gsplit rfl rfl (fun h => ?_) (fun h => ?_))))
  · refine el_cons rfl (eo_shr rfl rfl rfl rfl rfl (by assumption) ?_)
    refine el_cons rfl (eo_bits (b := 1) rfl rfl rfl rfl rfl ?_ (by decide) rfl ?_)
    · exact Nat.lt_of_le_of_lt (Nat.shiftRight_le _ _) hs
    (repeat' (first | refine el_pure rfl rfl rfl rfl ?_ | refine ej_seq ?_ | refine ej_region ?_ | refine el_nil ?_ | refine eq_seq ?_ | refine eq_calm ?_ | refine ej_true rfl ?_ | refine ej_false rfl ?_ | refine el_skip rfl rfl rfl ?_ | refine ej_ret ?_ | refine ej_skip ?_ | refine ej_exit ?_ | refine ej_block ?_ | refine eq_seq_ret ?_ | refine eq_seq_exit ?_ | refine eq_block ?_ | refine eq_block_exit ?_ | refine eq_block_ret ?_ | refine eq_block_exit_ne rfl ?_ | refine eq_back_ret ?_ | refine eq_back_exit ?_ | (refine ej_dec rfl (fun h => ?_) (fun h => ?_)) | ((fail_if_success refine el_gt rfl rfl ?_); (fail_if_success refine el_gf rfl rfl ?_); refine el_gdec rfl rfl (fun h => ?_) (fun h => ?_)) | (refine ej_cond rfl (fun h => ?_) (fun h => ?_)) | ((fail_if_success refine el_gt rfl rfl ?_); (fail_if_success refine el_gf rfl rfl ?_); refine el_gsplit rfl rfl (fun h => ?_) (fun h => ?_))))
    refine eq_rett rfl fun w hw => ⟨?_, hw⟩
    simp only [pack, has, h, decide_true, Bool.true_and]
    exact congrArg _ (bit_test s c.toNat)
  · refine eq_rett rfl fun w hw => ⟨?_, hw⟩
    simp [pack, has, h]
theorem Meets_any (s t : Nat) (hs : s < 18446744073709551616) (ht : t < 18446744073709551616) (H : WP) : Does cx F_mask_Set_Meets [u64 s, u64 t] H fun v w => v = .bool (decide (s &&& t ≠ 0)) ∧ H w := by
  refine fn_enter (n := N_mask_Set_Meets) fn_mask_Set_Meets rfl rfl rfl ?_
  refine wlk ?_
  refine el_cons rfl (eo_bits rfl rfl rfl rfl rfl hs ht rfl ?_)
  refine wlk ?_
  refine eq_rett rfl fun w hw => ⟨?_, hw⟩
  simp only [pack]
  congr 2
  apply propext
  omega
end Go.Proofs.YtpbnjifefoniiaaGreatDoor.TP
namespace Go.Proofs.YtpbnjifefoniiaaGreatDoor.TP
open Go Go.SE
structure Topo where
  doms : List Nat
  on : Nat
structure Topo.Ok (T : Topo) : Prop where
  doms : ∀ m ∈ T.doms, m < 18446744073709551616
  on : T.on < 18446744073709551616
  few : T.doms.length ≤ 8
structure At (l : List HP) (i j b : Nat) (r : Option (Nat × Nat)) (T : Topo) : Prop where
  top : l[i]? = some (cells b T_topo_Topo [sv r T.doms.length, u64 T.on])
  row : l[j]? = some (rowC r T_mask_Set 1 (u64s T.doms) T.doms.length)
theorem At.cons {l : List HP} {i j b : Nat} {r : Option (Nat × Nat)} {T : Topo} (h : At l i j b r T) (p : HP) : At (p :: l) (i + 1) (j + 1) b r T := ⟨h.top, h.row⟩
variable {w0 : World} {l : List HP} {i j b : Nat} {r : Option (Nat × Nat)} {T : Topo}
def idxOf (doms : List Nat) (c : Int) : Int := match doms.findIdx? (has · c) with
  | some i => i
  | none => -1
theorem u64s_get {l : List Nat} {k : Nat} {m : Nat} (h : l[k]? = some m) : (u64s l)[k]? = some (u64 m) := by simp [h]
theorem find_some {α : Type} {p : α → Bool} {l : List α} {k : Nat} (hk : k < l.length) (hp : p l[k] = true) (hno : ∀ j (h : j < k), p (l[j]'(by omega)) = false) : l.findIdx? p = some k := by
  rw [List.findIdx?_eq_some_iff_getElem]
  exact ⟨hk, hp, fun j hj => by simp [hno j hj]⟩
theorem find_none {α : Type} {p : α → Bool} {l : List α} (hno : ∀ j (h : j < l.length), p l[j] = false) : l.findIdx? p = none := by
  rw [List.findIdx?_eq_none_iff]
  intro x hx
  obtain ⟨j, hj, rfl⟩ := List.getElem_of_mem hx
  exact hno j hj
theorem Of1_any (m : Nat) (bc : Nat) (c : Int) (k : Nat) (hm : m < 18446744073709551616) (hk : l[k]? = some (cells bc T_int [int c])) :
    Does cx F_topo_Topo_Of_1 [u64 m, ptr bc] (S w0 l) fun v w => v = .bool (has m c) ∧ S w0 l w := by
  refine fn_enter (n := N_topo_Topo_Of_1) fn_topo_Topo_Of_1 rfl rfl rfl ?_
  refine wlk ?_
  refine el_cons rfl (eo_ld k rfl rfl rfl rfl rfl rfl hk rfl ?_)
  refine el_cons rfl (eo_call1 rfl rfl rfl rfl rfl real_mask_Set_Has (Has_any _ _ hm _) ?_)
  refine wlk ?_
  exact eq_rett rfl fun w hw => ⟨rfl, hw⟩
theorem Index_any (doms : List Nat) (bc : Nat) (c : Int) (k : Nat) (hd : ∀ m ∈ doms, m < 18446744073709551616) (hf : doms.length ≤ 8) (hk : l[k]? = some (cells bc T_int [int c])) (hj : l[j]? = some (rowC r T_mask_Set 1 (u64s doms) doms.length)) :
    Does cx F_slices_IndexFunc_mask_Set_mask_Set [sv r doms.length, .func (.func F_topo_Topo_Of_1) #[] #[ptr bc]] (S w0 l) fun v w => v = int (idxOf doms c) ∧ S w0 l w := by
  refine fn_enter (n := N_slices_IndexFunc_mask_Set_mask_Set) fn_slices_IndexFunc_mask_Set_mask_Set rfl rfl rfl ?_
  refine wlk ?_
  refine el_cons rfl (eo_lenv rfl rfl rfl rfl rfl rfl ?_)
  refine wlk ?_
  refine ej_loop (α := { k : Nat // k ≤ doms.length ∧ ∀ j (h : j < k) (h' : j < doms.length), has doms[j] c = false })
    (fun k => [(0, sv r doms.length), (1, .func (.func F_topo_Topo_Of_1) #[] #[ptr bc]), (7, int doms.length), (8, int k.1)]) (fun _ => S w0 l) (fun k => doms.length - k.1) ⟨0, by omega, by intro j h; omega⟩ (le_of _ _ rfl) (fun _ h => h) ?_
  rintro ⟨q, hq, hno⟩
  refine wlk ?_
  refine ej_dec rfl (fun h => ?_) (fun h => ?_)
  · have h : (q : Int) < doms.length := h
    have hq' : q < doms.length := by omega
    refine wlk ?_
    refine el_cons rfl (eo_idxr j rfl rfl rfl rfl rfl rfl rfl rfl hj ⟨by omega, h⟩ ?_)
    refine el_cons rfl (eo_ldr j rfl rfl rfl rfl rfl rfl hj (v := u64 doms[q]) (by simp [hq']) ?_)
    refine el_cons rfl (eo_call1 rfl rfl rfl rfl rfl real_topo_Topo_Of_1 (Of1_any _ _ _ k (hd _ (List.getElem_mem hq')) hk) ?_)
    refine wlk ?_
    refine ej_cond rfl (fun hb => ?_) (fun hb => ?_)
    · refine wlk ?_
      refine eq_rett rfl fun w hw => ⟨?_, hw⟩
      simp [pack, idxOf, find_some (p := fun x => has x c) hq' hb (fun j hj => hno j hj (by omega))]
    · refine wlk ?_
      refine el_cons rfl (eo_arith rfl rfl rfl rfl rfl rfl ⟨by omega, by omega⟩ ?_)
      refine wlk ?_
      exact eq_back ⟨q + 1, by omega, fun j h h' => by
        by_cases e : j = q
        · subst e; exact hb
        · exact hno j (by omega) h'⟩ (by simp; omega) (le_of _ _ rfl) (fun _ h => h)
  · have h : ¬ (q : Int) < doms.length := h
    have hq' : q = doms.length := by omega
    subst hq'
    refine wlk ?_
    refine eq_rett rfl fun w hw => ⟨?_, hw⟩
    simp [pack, idxOf, find_none (p := fun x => has x c) (fun j h => hno j h h)]
end Go.Proofs.YtpbnjifefoniiaaGreatDoor.TP
namespace Go.Proofs.YtpbnjifefoniiaaGreatDoor.TP
open Go Go.SE
def bit (x i : Nat) : Nat := if x.testBit i then 1 else 0
def popN (x : Nat) : Nat → Nat
  | 0 => 0
  | k + 1 => popN x k + bit x k
def pop (x : Nat) : Nat := popN x 64
def lanes (w : Nat) (f : Nat → Nat) : Nat → Nat
  | 0 => 0
  | p + 1 => f 0 + 2 ^ w * lanes w (fun j => f (j + 1)) p
theorem and_lane {w a b c d : Nat} (ha : a < 2 ^ w) (hc : c < 2 ^ w) : (a + 2 ^ w * b) &&& (c + 2 ^ w * d) = (a &&& c) + 2 ^ w * (b &&& d) := by
  apply Nat.eq_of_testBit_eq
  intro i
  have hac : a &&& c < 2 ^ w := Nat.and_lt_two_pow _ hc
  rw [Nat.testBit_and, Nat.add_comm a, Nat.add_comm c, Nat.add_comm (a &&& c), Nat.testBit_two_pow_mul_add _ ha, Nat.testBit_two_pow_mul_add _ hc, Nat.testBit_two_pow_mul_add _ hac]
  split
  · rw [Nat.testBit_and]
  · rw [Nat.testBit_and]
theorem lanes_and (w : Nat) : ∀ (p : Nat) (f g : Nat → Nat), (∀ j, f j < 2 ^ w) → (∀ j, g j < 2 ^ w) → lanes w f p &&& lanes w g p = lanes w (fun j => f j &&& g j) p := by
  intro p
  induction p with
  | zero => intro f g _ _; simp [lanes]
  | succ p ih =>
    intro f g hf hg
    simp only [lanes]
    rw [and_lane (hf 0) (hg 0), ih _ _ (fun j => hf _) (fun j => hg _)]
theorem lanes_add (w : Nat) : ∀ (p : Nat) (f g : Nat → Nat), lanes w f p + lanes w g p = lanes w (fun j => f j + g j) p := by
  intro p
  induction p with
  | zero => intro f g; rfl
  | succ p ih =>
    intro f g
    simp only [lanes]
    rw [← ih, Nat.mul_add]
    omega
theorem lanes_congr (w : Nat) : ∀ (p : Nat) (f g : Nat → Nat), (∀ j, j < p → f j = g j) → lanes w f p = lanes w g p := by
  intro p
  induction p with
  | zero => intro f g _; rfl
  | succ p ih =>
    intro f g h
    simp only [lanes]
    rw [h 0 (by omega), ih _ _ (fun j hj => h (j + 1) (by omega))]
theorem lanes_two (w : Nat) : ∀ (p : Nat) (f : Nat → Nat), lanes w f (2 * p) = lanes (2 * w) (fun j => f (2 * j) + 2 ^ w * f (2 * j + 1)) p := by
  intro p
  induction p with
  | zero => intro f; rfl
  | succ p ih =>
    intro f
    rw [show 2 * (p + 1) = 2 * p + 1 + 1 by omega]
    simp only [lanes]
    rw [ih]
    rw [show (2 : Nat) ^ (2 * w) = 2 ^ w * 2 ^ w by rw [← Nat.pow_add]; congr 1; omega]
    rw [Nat.mul_add, Nat.mul_assoc, Nat.add_assoc]
    congr 2
theorem lanes_shift (w : Nat) (p : Nat) (f : Nat → Nat) (h : f 0 < 2 ^ w) : lanes w f (p + 1) >>> w = lanes w (fun j => f (j + 1)) p := by
  simp only [lanes]
  rw [Nat.shiftRight_eq_div_pow, Nat.add_mul_div_left _ _ (Nat.two_pow_pos w), Nat.div_eq_of_lt h, Nat.zero_add]
theorem lanes_last (w : Nat) : ∀ (p : Nat) (f : Nat → Nat), f p = 0 → lanes w f (p + 1) = lanes w f p := by
  intro p
  induction p with
  | zero => intro f h; simp [lanes, h]
  | succ p ih =>
    intro f h
    simp only [lanes] at ih ⊢
    have := ih (fun j => f (j + 1)) h
    rw [this]
theorem lanes_bits : ∀ (p x : Nat), x < 2 ^ p → lanes 1 (bit x) p = x := by
  intro p
  induction p with
  | zero => intro x h; simp at h; subst h; rfl
  | succ p ih =>
    intro x h
    simp only [lanes]
    have h1 : lanes 1 (fun j => bit x (j + 1)) p = x / 2 := by
      rw [← ih (x / 2) (by omega)]
      exact lanes_congr _ _ _ _ fun j _ => by simp [bit, Nat.testBit_succ]
    rw [h1]
    have : bit x 0 = x % 2 := by
      simp only [bit, Nat.testBit_zero]
      rcases Nat.mod_two_eq_zero_or_one x with h | h <;> simp [h]
    rw [this]; omega
theorem step (w p : Nat) (f : Nat → Nat) (h : ∀ j, f j < 2 ^ w) (hp : f (2 * p) = 0) :
    (lanes w f (2 * p) >>> w &&& lanes (2 * w) (fun _ => 2 ^ w - 1) p) + (lanes w f (2 * p) &&& lanes (2 * w) (fun _ => 2 ^ w - 1) p) = lanes (2 * w) (fun j => f (2 * j) + f (2 * j + 1)) p := by
  have e : (2 : Nat) ^ (2 * w) = 2 ^ w * 2 ^ w := by rw [← Nat.pow_add]; congr 1; omega
  have hw := Nat.two_pow_pos w
  have hlt : ∀ a b, a < 2 ^ w → b < 2 ^ w → a + 2 ^ w * b < 2 ^ (2 * w) := fun a b ha hb => by
    rw [e]
    have : 2 ^ w * (b + 1) ≤ 2 ^ w * 2 ^ w := Nat.mul_le_mul_left _ hb
    rw [Nat.mul_add] at this
    omega
  have hm : (2 ^ w - 1) < 2 ^ (2 * w) := by
    have := hlt (2 ^ w - 1) 0 (by omega) hw
    simpa using this
  have pick : ∀ a b, a < 2 ^ w → (a + 2 ^ w * b) &&& (2 ^ w - 1) = a := fun a b ha => by
    have := and_lane (w := w) (a := a) (b := b) (c := 2 ^ w - 1) (d := 0) ha (by omega)
    simp only [Nat.mul_zero, Nat.add_zero, Nat.and_zero] at this
    rw [this, Nat.and_two_pow_sub_one_of_lt_two_pow ha]
  have a1 : lanes w f (2 * p) &&& lanes (2 * w) (fun _ => 2 ^ w - 1) p = lanes (2 * w) (fun j => f (2 * j)) p := by
    rw [lanes_two, lanes_and _ _ _ _ (fun j => hlt _ _ (h _) (h _)) (fun _ => hm)]
    exact lanes_congr _ _ _ _ fun j _ => pick _ _ (h _)
  have a2 : lanes w f (2 * p) >>> w &&& lanes (2 * w) (fun _ => 2 ^ w - 1) p = lanes (2 * w) (fun j => f (2 * j + 1)) p := by
    have h1 : lanes w f (2 * p) >>> w = lanes w (fun j => f (j + 1)) (2 * p) := by
      rw [← lanes_last w (2 * p) f hp, lanes_shift _ _ _ (h 0)]
    rw [h1, lanes_two, lanes_and _ _ _ _ (fun j => hlt _ _ (h _) (h _)) (fun _ => hm)]
    exact lanes_congr _ _ _ _ fun j _ => pick _ _ (h _)
  rw [a1, a2, lanes_add]
  exact lanes_congr _ _ _ _ fun j _ => by omega
theorem ones (x : Nat) (hx : x < 18446744073709551616) :
    let x1 := (x >>> 1 &&& 6148914691236517205) + (x &&& 6148914691236517205)
    let x2 := (x1 >>> 2 &&& 3689348814741910323) + (x1 &&& 3689348814741910323)
    let x3 := (x2 >>> 4) + x2
    x1 < 18446744073709551616 ∧ x2 < 18446744073709551616 ∧ x3 < 18446744073709551616 ∧ ∃ f : Nat → Nat, (∀ j, f j ≤ 8) ∧ x3 &&& 1085102592571150095 = lanes 8 f 8 ∧ pop x = f 0 + f 1 + f 2 + f 3 + f 4 + f 5 + f 6 + f 7 := by
  intro x1 x2 x3
  let f0 : Nat → Nat := bit x
  have b0 : ∀ j, f0 j ≤ 1 := fun j => by simp only [f0, bit]; split <;> omega
  have z0 : f0 64 = 0 := by
    simp only [f0, bit]
    rw [Nat.testBit_lt_two_pow (i := 64) (by simpa using hx)]; rfl
  have z0' : ∀ j, 64 ≤ j → f0 j = 0 := fun j hj => by
    simp only [f0, bit]
    rw [Nat.testBit_lt_two_pow (i := j) (Nat.lt_of_lt_of_le (show x < 2 ^ 64 by simpa using hx) (Nat.pow_le_pow_right (by omega) hj))]; rfl
  let f1 : Nat → Nat := fun j => f0 (2 * j) + f0 (2 * j + 1)
  have b1 : ∀ j, f1 j ≤ 2 := fun j => by have := b0 (2 * j); have := b0 (2 * j + 1); simp only [f1]; omega
  let f2 : Nat → Nat := fun j => f1 (2 * j) + f1 (2 * j + 1)
  have b2 : ∀ j, f2 j ≤ 4 := fun j => by have := b1 (2 * j); have := b1 (2 * j + 1); simp only [f2]; omega
  let f3 : Nat → Nat := fun j => f2 (2 * j) + f2 (2 * j + 1)
  have b3 : ∀ j, f3 j ≤ 8 := fun j => by have := b2 (2 * j); have := b2 (2 * j + 1); simp only [f3]; omega
  have e0 : x = lanes 1 f0 64 := (lanes_bits 64 x (by simpa using hx)).symm
  have e1 : x1 = lanes 2 f1 32 := by
    have := step 1 32 f0 (fun j => by have := b0 j; omega) z0
    simp only [show 2 * 32 = 64 from rfl, ← e0] at this
    exact this
  have e2 : x2 = lanes 4 f2 16 := by
    have := step 2 16 f1 (fun j => by have := b1 j; omega) (by simp only [f1]; rw [z0' _ (by omega), z0' _ (by omega)])
    simp only [show 2 * 16 = 32 from rfl, ← e1] at this
    exact this
  have lt : ∀ (w p : Nat) (f : Nat → Nat), (∀ j, f j < 2 ^ w) → lanes w f p < 2 ^ (w * p) := by
    intro w p
    induction p with
    | zero => intro f _; simp [lanes]
    | succ p ih =>
      intro f h
      have h1 := ih (fun j => f (j + 1)) (fun j => h _)
      have h0 := h 0
      simp only [lanes]
      rw [Nat.mul_succ, Nat.pow_add]
      have : 2 ^ w * (lanes w (fun j => f (j + 1)) p + 1) ≤ 2 ^ w * 2 ^ (w * p) := Nat.mul_le_mul_left _ h1
      rw [Nat.mul_add, Nat.mul_comm (2 ^ w) (2 ^ (w * p))] at this
      omega
  have e3 : x3 = lanes 8 (fun j => (f2 (2 * j) + f2 (2 * j + 1)) + 2 ^ 4 * (f2 (2 * j + 1) + f2 (2 * j + 1 + 1))) 8 := by
    have h1 : x2 >>> 4 = lanes 4 (fun j => f2 (j + 1)) 16 := by
      rw [e2, ← lanes_last 4 16 f2 (by simp only [f2, f1]; rw [z0' _ (by omega), z0' _ (by omega), z0' _ (by omega), z0' _ (by omega)]), lanes_shift _ _ _ (by have := b2 0; omega)]
    show x2 >>> 4 + x2 = _
    rw [h1, e2, show 16 = 2 * 8 from rfl, lanes_two, lanes_two, lanes_add]
    exact lanes_congr _ _ _ _ fun j _ => by omega
  refine ⟨?_, ?_, ?_, f3, b3, ?_, ?_⟩
  · rw [e1]; exact lt 2 32 f1 (fun j => by have := b1 j; omega)
  · rw [e2]; exact lt 4 16 f2 (fun j => by have := b2 j; omega)
  · rw [e3]
    refine lt 8 8 _ (fun j => ?_)
    have := b2 (2 * j); have := b2 (2 * j + 1); have := b2 (2 * j + 1 + 1)
    omega
  · rw [e3, show (1085102592571150095 : Nat) = lanes 8 (fun _ => 2 ^ 4 - 1) 8 from rfl, lanes_and _ _ _ _ (fun j => by
      have := b2 (2 * j); have := b2 (2 * j + 1); have := b2 (2 * j + 1 + 1); omega) (fun _ => by decide)]
    refine lanes_congr _ _ _ _ fun j _ => ?_
    have h1 : f2 (2 * j) + f2 (2 * j + 1) < 2 ^ 4 := by have := b2 (2 * j); have := b2 (2 * j + 1); omega
    have := and_lane (w := 4) (a := f2 (2 * j) + f2 (2 * j + 1)) (b := f2 (2 * j + 1) + f2 (2 * j + 1 + 1)) (c := 2 ^ 4 - 1) (d := 0) h1 (by omega)
    simp only [Nat.mul_zero, Nat.add_zero, Nat.and_zero] at this
    rw [this, Nat.and_two_pow_sub_one_of_lt_two_pow h1]
  · simp only [pop, popN, f3, f2, f1, f0, Nat.reduceMul, Nat.reduceAdd]
    omega
end Go.Proofs.YtpbnjifefoniiaaGreatDoor.TP
namespace Go.Proofs.YtpbnjifefoniiaaGreatDoor.TP
open Go Go.SE
variable {w0 : World} {l : List HP} {i j b : Nat} {r : Option (Nat × Nat)} {T : Topo}
theorem el_shr {C : Cx} {n : Nat} {Q : Kont} {e : Env} {H : WP} {ops : Array Oper} {rest : List Oper} {o : Oper} {d : Nat} {t t' : TypeId} {x y : Operand} {kd : IntKind} {a : Nat} (c : Nat) (hg : want ops e o = some true) (ho : o.op = .binOp .shr t x y t') (hd : o.dst = some d) (hn : Nat.ble n d = false)
    (hx : ev e x = some (u64 a)) (hy : ev e y = some (.int kd (c : Int))) (hc : Nat.ble 64 c = false) (h : EL C n rest ops Q ((d, u64 (a >>> c)) :: e) H) : EL C n (o :: rest) ops Q e H := by
  have hc' : c < 64 := by
    rcases Nat.lt_or_ge c 64 with h1 | h1
    · exact h1
    · rw [Nat.ble_eq_true_of_le h1] at hc; cases hc
  refine el_cons hg (eo_shr ho hd hn hx hy ⟨by omega, by omega⟩ ?_)
  simpa using h
theorem div_lane {a y : Nat} (k : Nat) (h : a < k) : (a + k * y) / k = y := by
  rw [Nat.add_mul_div_left _ _ (by omega), Nat.div_eq_of_lt h, Nat.zero_add]
theorem sum8 (a0 a1 a2 a3 a4 a5 a6 a7 x x4 x5 x6 : Nat) (h0 : a0 ≤ 8) (h1 : a1 ≤ 8) (h2 : a2 ≤ 8) (h3 : a3 ≤ 8) (h4 : a4 ≤ 8) (h5 : a5 ≤ 8) (h6 : a6 ≤ 8) (h7 : a7 ≤ 8)
    (hx : x = a0 + 256 * (a1 + 256 * (a2 + 256 * (a3 + 256 * (a4 + 256 * (a5 + 256 * (a6 + 256 * a7))))))) (e4 : x4 = x + x / 256) (e5 : x5 = x4 + x4 / 65536) (e6 : x6 = x5 + x5 / 4294967296) :
    x < 18446744073709551616 ∧ x4 < 18446744073709551616 ∧ x5 < 18446744073709551616 ∧ x6 < 9223372036854775808 ∧ x6 % 128 = a0 + a1 + a2 + a3 + a4 + a5 + a6 + a7 := by
  have d1 : x / 256 = a1 + 256 * (a2 + 256 * (a3 + 256 * (a4 + 256 * (a5 + 256 * (a6 + 256 * a7))))) := by rw [hx]; exact div_lane 256 (by omega)
  rw [d1] at e4
  have f4 : x4 = (a0 + a1 + 256 * (a1 + a2)) + 65536 * ((a2 + a3) + 256 * (a3 + a4) + 65536 * (a4 + a5) + 16777216 * (a5 + a6) + 4294967296 * (a6 + a7) + 1099511627776 * a7) := by omega
  clear e4 d1
  have d2 : x4 / 65536 = (a2 + a3) + 256 * (a3 + a4) + 65536 * (a4 + a5) + 16777216 * (a5 + a6) + 4294967296 * (a6 + a7) + 1099511627776 * a7 := by rw [f4]; exact div_lane 65536 (by omega)
  rw [d2] at e5
  clear d2
  have f5 : x5 = (a0 + a1 + a2 + a3 + 256 * (a1 + a2 + a3 + a4) + 65536 * (a2 + a3 + a4 + a5) + 16777216 * (a3 + a4 + a5 + a6)) + 4294967296 * ((a4 + a5 + a6 + a7) + 256 * (a5 + a6 + a7) + 65536 * (a6 + a7) + 16777216 * a7) := by omega
  clear e5
  have d3 : x5 / 4294967296 = (a4 + a5 + a6 + a7) + 256 * (a5 + a6 + a7) + 65536 * (a6 + a7) + 16777216 * a7 := by rw [f5]; exact div_lane 4294967296 (by omega)
  rw [d3] at e6
  clear d3
  have f6 : x6 = (a0 + a1 + a2 + a3 + a4 + a5 + a6 + a7) + 128 * (2 * ((a1 + a2 + a3 + a4) + (a5 + a6 + a7)) + 512 * ((a2 + a3 + a4 + a5) + (a6 + a7)) + 131072 * ((a3 + a4 + a5 + a6) + a7) + 33554432 * ((a4 + a5 + a6 + a7) + 256 * (a5 + a6 + a7) + 65536 * (a6 + a7) + 16777216 * a7)) := by omega
  clear e6
  refine ⟨?_, ?_, ?_, ?_, ?_⟩
  · clear f4 f5 f6; omega
  · clear f5 f6 hx; omega
  · clear f4 f6 hx; omega
  · clear f4 f5 hx; omega
  · rw [f6, Nat.add_mul_mod_self_left]
    clear f4 f5 f6 hx
    exact Nat.mod_eq_of_lt (by omega)
theorem sum_lanes (f : Nat → Nat) (h : ∀ j, f j ≤ 8) (x x4 x5 x6 : Nat) (hx : x = lanes 8 f 8) (e4 : x4 = x + x >>> 8) (e5 : x5 = x4 + x4 >>> 16) (e6 : x6 = x5 + x5 >>> 32) :
    x < 18446744073709551616 ∧ x4 < 18446744073709551616 ∧ x5 < 18446744073709551616 ∧ x6 < 9223372036854775808 ∧ x6 % 128 = f 0 + f 1 + f 2 + f 3 + f 4 + f 5 + f 6 + f 7 := by
  simp only [Nat.shiftRight_eq_div_pow, Nat.reducePow] at e4 e5 e6
  exact sum8 _ _ _ _ _ _ _ _ x x4 x5 x6 (h 0) (h 1) (h 2) (h 3) (h 4) (h 5) (h 6) (h 7) (by rw [hx]; rfl) e4 e5 e6
theorem inR_nat {x y : Nat} (h : x + y < 18446744073709551616) : inR .u64 ((x : Int) + (y : Int)) := ⟨by omega, by omega⟩
theorem ones_walk (x : Nat) (hx : x < 18446744073709551616) (H : WP) : Does cx F_math_bits_OnesCount64 [u64 x] H fun v w => v = int (pop x) ∧ H w := by
  obtain ⟨a1, a2, a3, f, hf, e3, hp⟩ := ones x hx
  have m1 : x >>> 1 < 18446744073709551616 := Nat.lt_of_le_of_lt (Nat.shiftRight_le _ _) hx
  refine fn_enter (n := N_math_bits_OnesCount64) fn_math_bits_OnesCount64 rfl rfl rfl ?_
  refine wlk ?_
  refine el_shr 1 rfl rfl rfl rfl rfl rfl rfl ?_
  refine el_cons rfl (eo_bits (b := 6148914691236517205) rfl rfl rfl rfl rfl m1 (by omega) rfl ?_)
  refine wlk ?_
  refine el_cons rfl (eo_bits (b := 6148914691236517205) rfl rfl rfl rfl rfl hx (by omega) rfl ?_)
  refine el_cons rfl (eo_arith rfl rfl rfl rfl rfl rfl (inR_nat a1) ?_)
  generalize hx1 : (x >>> 1 &&& 6148914691236517205) + (x &&& 6148914691236517205) = x1 at a1 a2 a3 e3
  refine el_val 8 (u := u64 x1) rfl (by rw [← hx1]; rfl) ?_
  refine wlk ?_
  refine el_shr 2 rfl rfl rfl rfl rfl rfl rfl ?_
  refine el_cons rfl (eo_bits (b := 3689348814741910323) rfl rfl rfl rfl rfl (Nat.lt_of_le_of_lt (Nat.shiftRight_le _ _) a1) (by omega) rfl ?_)
  refine wlk ?_
  refine el_cons rfl (eo_bits (b := 3689348814741910323) rfl rfl rfl rfl rfl a1 (by omega) rfl ?_)
  refine el_cons rfl (eo_arith rfl rfl rfl rfl rfl rfl (inR_nat a2) ?_)
  generalize hx2 : (x1 >>> 2 &&& 3689348814741910323) + (x1 &&& 3689348814741910323) = x2 at a2 a3 e3
  refine el_val 14 (u := u64 x2) rfl (by rw [← hx2]; rfl) ?_
  refine wlk ?_
  refine el_shr 4 rfl rfl rfl rfl rfl rfl rfl ?_
  refine wlk ?_
  refine el_cons rfl (eo_arith rfl rfl rfl rfl rfl rfl (inR_nat a3) ?_)
  refine el_val 18 (u := u64 (x2 >>> 4 + x2)) rfl rfl ?_
  refine el_cons rfl (eo_bits (b := 1085102592571150095) rfl rfl rfl rfl rfl a3 (by omega) rfl ?_)
  rw [e3]
  obtain ⟨x3, hx3⟩ : ∃ x3, x3 = lanes 8 f 8 := ⟨_, rfl⟩
  obtain ⟨x4, hx4⟩ : ∃ x4, x4 = x3 + x3 >>> 8 := ⟨_, rfl⟩
  obtain ⟨x5, hx5⟩ : ∃ x5, x5 = x4 + x4 >>> 16 := ⟨_, rfl⟩
  obtain ⟨x6, hx6⟩ : ∃ x6, x6 = x5 + x5 >>> 32 := ⟨_, rfl⟩
  obtain ⟨b3, b4, b5, b6, hs⟩ := sum_lanes f hf x3 x4 x5 x6 hx3 hx4 hx5 hx6
  rw [← hx3]
  refine wlk ?_
  refine el_shr 8 rfl rfl rfl rfl rfl rfl rfl ?_
  refine el_cons rfl (eo_arith rfl rfl rfl rfl rfl rfl (inR_nat (by rw [← hx4]; exact b4)) ?_)
  refine el_val 23 (u := u64 x4) rfl (by rw [hx4]; rfl) ?_
  refine wlk ?_
  refine el_shr 16 rfl rfl rfl rfl rfl rfl rfl ?_
  refine el_cons rfl (eo_arith rfl rfl rfl rfl rfl rfl (inR_nat (by rw [← hx5]; exact b5)) ?_)
  refine el_val 27 (u := u64 x5) rfl (by rw [hx5]; rfl) ?_
  refine wlk ?_
  refine el_shr 32 rfl rfl rfl rfl rfl rfl rfl ?_
  refine el_cons rfl (eo_arith rfl rfl rfl rfl rfl rfl (inR_nat (by rw [← hx6]; exact Nat.lt_trans b6 (by decide))) ?_)
  refine el_val 31 (u := u64 x6) rfl (by rw [hx6]; rfl) ?_
  refine wlk ?_
  refine el_cons rfl (eo_conv .i64 rfl rfl rfl rfl rfl rfl rfl rfl ⟨by omega, by omega⟩ ?_)
  refine el_cons rfl (eo_andI (b := 127) rfl rfl rfl rfl rfl b6 (by omega) ?_)
  refine wlk ?_
  refine eq_rett rfl fun w hw => ⟨?_, hw⟩
  rw [hp, ← hs]
  simp only [pack]
  rw [show (127 : Nat) = 2 ^ 7 - 1 from rfl, Nat.and_two_pow_sub_one_eq_mod]
theorem Len_any (x : Nat) (hx : x < 18446744073709551616) (H : WP) : Does cx F_mask_Set_Len [u64 x] H fun v w => v = int (pop x) ∧ H w := by
  refine fn_enter (n := N_mask_Set_Len) fn_mask_Set_Len rfl rfl rfl ?_
  refine wlk ?_
  refine el_cons rfl (eo_call1 rfl rfl rfl rfl rfl real_math_bits_OnesCount64 (ones_walk _ hx _) ?_)
  refine wlk ?_
  exact eq_rett rfl fun w hw => ⟨rfl, hw⟩
end Go.Proofs.YtpbnjifefoniiaaGreatDoor.TP
namespace Go.Proofs.YtpbnjifefoniiaaGreatDoor.TP
open Go Go.SE
variable {w0 : World} {l : List HP} {i j b : Nat} {r : Option (Nat × Nat)} {T : Topo}
def Topo.there (T : Topo) (d : Int) : Prop := 0 ≤ d ∧ d < (T.doms.length : Int)
instance (T : Topo) (d : Int) : Decidable (T.there d) := inferInstanceAs (Decidable (_ ∧ _))
def Topo.cores (T : Topo) (d : Int) : Nat := if T.there d then T.doms.getD d.toNat 0 else 0
def Topo.coresE (T : Topo) (d : Int) : Int := if T.there d then 0 else 5
def Topo.online (T : Topo) (d : Int) : Nat := T.cores d &&& T.on
def Topo.idx (T : Topo) (c : Int) : Int := idxOf T.doms c
def Topo.of (T : Topo) (c : Int) : Int := if T.idx c < 0 then 0 else T.idx c
def Topo.ofE (T : Topo) (c : Int) : Int := if T.idx c < 0 then 2 else 0
def Topo.up (T : Topo) (c : Int) : Topo := if T.idx c < 0 then T else if has T.on c then T else { T with on := withC T.on c }
def Topo.upE (T : Topo) (c : Int) : Int := if T.idx c < 0 then 2 else if has T.on c then 10 else 0
def Topo.checkE (T : Topo) (d : Int) (s : Nat) : Int := if T.coresE d ≠ 0 then 5 else if T.cores d &&& s = 0 then 8 else 0
def Topo.effE (T : Topo) (d : Int) (s : Nat) : Int := T.checkE d s
def Topo.eff (T : Topo) (d : Int) (s : Nat) : Nat := if T.checkE d s ≠ 0 then 0 else if T.online d &&& s = 0 then T.online d else T.online d &&& s
theorem Topo.Ok.cores (hT : T.Ok) (d : Int) : T.cores d < 18446744073709551616 := by
  unfold Topo.cores
  split
  · rename_i h
    obtain ⟨h1, h2⟩ := h
    have : d.toNat < T.doms.length := by omega
    rw [List.getD_eq_getElem?_getD, List.getElem?_eq_getElem this]
    exact hT.doms _ (List.getElem_mem this)
  · decide
theorem Topo.Ok.online (hT : T.Ok) (d : Int) : T.online d < 18446744073709551616 := Nat.and_lt_two_pow (n := 64) _ hT.on
theorem Topo.Ok.up (hT : T.Ok) (c : Int) : (T.up c).Ok := by
  unfold Topo.up
  split
  · exact hT
  · split
    · exact hT
    · exact ⟨hT.doms, withC_lt c hT.on, hT.few⟩
theorem Cores_any (d : Int) (h : At l i j b r T) : Does cx F_topo_Topo_Cores [ptr b, int d] (S w0 l) fun v w => v = .tuple #[u64 (T.cores d), int (T.coresE d)] ∧ S w0 l w := by
  refine fn_enter (n := N_topo_Topo_Cores) fn_topo_Topo_Cores rfl rfl rfl ?_
  by_cases h0 : d < 0
  · refine wlk ?_
    refine el_val 8 (u := .bool true) rfl (by simp [h0]) ?_
    refine wlk ?_
    refine eq_rett rfl fun w hw => ⟨?_, hw⟩
    have : ¬ T.there d := fun h => by have := h.1; omega
    simp [pack, Topo.cores, Topo.coresE, this]
  · refine wlk ?_
    refine el_val 8 (u := .bool false) rfl (by simp; omega) ?_
    refine wlk ?_
    refine el_cons rfl (eo_ld i rfl rfl rfl rfl rfl rfl h.top rfl ?_)
    refine el_cons rfl (eo_lenv rfl rfl rfl rfl rfl rfl ?_)
    refine wlk ?_
    refine ej_dec rfl (fun h1 => ?_) (fun h1 => ?_)
    · refine wlk ?_
      refine eq_rett rfl fun w hw => ⟨?_, hw⟩
      have : ¬ T.there d := fun h => by have := h.2; omega
      simp [pack, Topo.cores, Topo.coresE, this]
    · have ht : T.there d := ⟨by omega, by omega⟩
      have hd : d.toNat < T.doms.length := by omega
      refine wlk ?_
      refine el_cons rfl (eo_ld i rfl rfl rfl rfl rfl rfl h.top rfl ?_)
      refine wlk ?_
      refine el_cons rfl (eo_idxr j rfl rfl rfl rfl rfl rfl rfl rfl h.row ⟨by omega, by omega⟩ ?_)
      refine el_cons rfl (eo_ldr j rfl rfl rfl rfl rfl rfl h.row (v := u64 (T.cores d)) (by simp [Topo.cores, ht, hd]) ?_)
      refine wlk ?_
      refine eq_rett rfl fun w hw => ⟨?_, hw⟩
      simp [pack, Topo.coresE, ht]
theorem Online_any (d : Int) (h : At l i j b r T) (hT : T.Ok) : Does cx F_topo_Topo_Online [ptr b, int d] (S w0 l) fun v w => v = .tuple #[u64 (T.online d), int (T.coresE d)] ∧ S w0 l w := by
  refine fn_enter (n := N_topo_Topo_Online) fn_topo_Topo_Online rfl rfl rfl ?_
  refine wlk ?_
  refine el_cons rfl (eo_call1 rfl rfl rfl rfl rfl real_topo_Topo_Cores (Cores_any _ h) ?_)
  refine wlk ?_
  refine el_cons rfl (eo_ld i rfl rfl rfl rfl rfl rfl h.top rfl ?_)
  refine el_cons rfl (eo_bits rfl rfl rfl rfl rfl (hT.cores d) hT.on rfl ?_)
  refine wlk ?_
  exact eq_rett rfl fun w hw => ⟨rfl, hw⟩
theorem Of_any (c : Int) (h : At l i j b r T) (hT : T.Ok) : Does cx F_topo_Topo_Of [ptr b, int c] (S w0 l) fun v w => v = .tuple #[int (T.of c), int (T.ofE c)] ∧ S w0 l w := by
  refine fn_enter (n := N_topo_Topo_Of) fn_topo_Topo_Of rfl rfl rfl ?_
  refine ej_seq (ej_region (el_cons rfl (eo_box rfl rfl rfl rfl fun bc => ?_)))
  have h' := h.cons (cells bc T_int [int c])
  refine wlk ?_
  refine el_cons rfl (eo_ld (i + 1) rfl rfl rfl rfl rfl rfl h'.top rfl ?_)
  refine wlk ?_
  refine el_cons rfl (eo_call1 rfl rfl rfl rfl rfl real_slices_IndexFunc_mask_Set_mask_Set (Index_any T.doms bc c 0 hT.doms hT.few rfl h'.row) ?_)
  refine wlk ?_
  refine ej_dec rfl (fun h1 => ?_) (fun h1 => ?_)
  · refine wlk ?_
    refine eq_rett rfl fun w hw => ⟨?_, hw.erase 0⟩
    have h1 : idxOf T.doms c < 0 := h1
    simp [pack, Topo.of, Topo.ofE, Topo.idx, h1]
  · refine wlk ?_
    refine eq_rett rfl fun w hw => ⟨?_, hw.erase 0⟩
    have h1 : ¬ idxOf T.doms c < 0 := h1
    simp [pack, Topo.of, Topo.ofE, h1, Topo.idx]
theorem Check_any (d : Int) (s : Nat) (hs : s < 18446744073709551616) (h : At l i j b r T) (hT : T.Ok) : Does cx F_topo_Topo_Check [ptr b, int d, u64 s] (S w0 l) fun v w => v = int (T.checkE d s) ∧ S w0 l w := by
  refine fn_enter (n := N_topo_Topo_Check) fn_topo_Topo_Check rfl rfl rfl ?_
  refine wlk ?_
  refine el_cons rfl (eo_call1 rfl rfl rfl rfl rfl real_topo_Topo_Cores (Cores_any _ h) ?_)
  by_cases h1 : T.there d
  · rw [show T.coresE d = 0 by simp [Topo.coresE, h1]]
    refine wlk ?_
    refine el_cons rfl (eo_call1 rfl rfl rfl rfl rfl real_mask_Set_Meets (Meets_any _ _ (hT.cores d) hs _) ?_)
    by_cases h2 : T.cores d &&& s = 0
    · rw [decide_eq_false (by simpa using h2)]
      refine wlk ?_
      refine eq_rett rfl fun w hw => ⟨?_, hw⟩
      simp [pack, Topo.checkE, Topo.coresE, h1, h2]
    · rw [decide_eq_true h2]
      refine wlk ?_
      refine eq_rett rfl fun w hw => ⟨?_, hw⟩
      simp [pack, Topo.checkE, Topo.coresE, h1, h2]
  · rw [show T.coresE d = 5 by simp [Topo.coresE, h1]]
    refine wlk ?_
    refine eq_rett rfl fun w hw => ⟨?_, hw⟩
    simp [pack, Topo.checkE, Topo.coresE, h1]
theorem Effective_any (d : Int) (s : Nat) (hs : s < 18446744073709551616) (h : At l i j b r T) (hT : T.Ok) : Does cx F_topo_Topo_Effective [ptr b, int d, u64 s] (S w0 l) fun v w => v = .tuple #[u64 (T.eff d s), int (T.effE d s)] ∧ S w0 l w := by
  refine fn_enter (n := N_topo_Topo_Effective) fn_topo_Topo_Effective rfl rfl rfl ?_
  refine wlk ?_
  refine el_cons rfl (eo_call1 rfl rfl rfl rfl rfl real_topo_Topo_Check (Check_any _ _ hs h hT) ?_)
  refine wlk ?_
  refine ej_dec rfl (fun h1 => ?_) (fun h1 => ?_)
  · refine wlk ?_
    refine eq_rett rfl fun w hw => ⟨?_, hw⟩
    simp [pack, Topo.eff, Topo.effE, h1]
  · have h1 : T.checkE d s = 0 := by omega
    refine wlk ?_
    refine el_cons rfl (eo_call1 rfl rfl rfl rfl rfl real_topo_Topo_Online (Online_any _ h hT) ?_)
    refine wlk ?_
    refine el_cons rfl (eo_call1 rfl rfl rfl rfl rfl real_mask_Set_Meets (Meets_any _ _ (hT.online d) hs _) ?_)
    refine wlk ?_
    refine ej_dec rfl (fun h2 => ?_) (fun h2 => ?_)
    · refine wlk ?_
      refine el_cons rfl (eo_bits rfl rfl rfl rfl rfl (hT.online d) hs rfl ?_)
      refine wlk ?_
      refine eq_rett rfl fun w hw => ⟨?_, hw⟩
      simp [pack, Topo.eff, Topo.effE, h1, h2]
    · have h2 : T.online d &&& s = 0 := by omega
      refine wlk ?_
      refine eq_rett rfl fun w hw => ⟨?_, hw⟩
      simp [pack, Topo.eff, Topo.effE, h1, h2]
end Go.Proofs.YtpbnjifefoniiaaGreatDoor.TP
namespace Go.Proofs.YtpbnjifefoniiaaGreatDoor.TP
open Go Go.SE
variable {w0 : World} {l : List HP} {i j b : Nat} {r : Option (Nat × Nat)}
abbrev bools (bs : List Bool) : List Value := bs.map Value.bool
abbrev setV (bs : List Bool) : Value := .agg (bools bs).toArray
theorem all_bools (bs : List Bool) : (bools bs).all SE.one = true := by simp [bools, SE.one]
theorem all_ints (xs : List Int) : (ints xs).all SE.one = true := by simp [ints, SE.one]
def bitsL (n : Nat) : List Bool := (List.range 64).map n.testBit
theorem bitsL_length (n : Nat) : (bitsL n).length = 64 := by simp [bitsL]
theorem bitsL_get (n k : Nat) (h : k < (bitsL n).length) : (bitsL n)[k] = n.testBit k := by simp [bitsL]
def falses : List Bool := List.replicate 64 false
theorem falses_length : falses.length = 64 := by simp [falses]
end Go.Proofs.YtpbnjifefoniiaaGreatDoor.TP
namespace Go.Proofs.YtpbnjifefoniiaaGreatDoor.TP
open Go Go.SE
variable {w0 : World} {l : List HP} {i j b : Nat} {r : Option (Nat × Nat)}
def b1 (b : Bool) : Nat := if b then 1 else 0
def num : List Bool → Nat
  | [] => 0
  | b :: r => b1 b + 2 * num r
theorem num_range (n : Nat) : ∀ k, num ((List.range' k (64 - k)).map n.testBit) = n / 2 ^ k % 2 ^ (64 - k) := by
  intro k
  by_cases hk : 64 ≤ k
  · rw [show 64 - k = 0 by omega]; simp [num, Nat.mod_one]
  · have ih := num_range n (k + 1)
    rw [show 64 - k = (64 - (k + 1)) + 1 by omega, List.range'_succ, List.map_cons]
    simp only [num, b1, ih]
    rw [Nat.testBit_eq_decide_div_mod_eq, Nat.pow_succ, ← Nat.div_div_eq_div_mul, Nat.pow_succ, Nat.mul_comm (2 ^ (64 - (k + 1))) 2, Nat.mod_mul]
    generalize n / 2 ^ k = m
    rcases Nat.mod_two_eq_zero_or_one m with h | h <;> simp [h]
termination_by k => 64 - k
theorem num_bitsL (n : Nat) (h : n < 18446744073709551616) : num (bitsL n) = n := by
  have := num_range n 0
  simp only [Nat.sub_zero, Nat.pow_zero, Nat.div_one] at this
  rw [Nat.mod_eq_of_lt (by simpa using h)] at this
  rw [bitsL, List.range_eq_range']
  exact this
def both (xs bs : List Bool) : List Bool := xs.zipWith (· && ·) bs
theorem both_length (xs bs : List Bool) (ha : xs.length = 64) (hb : bs.length = 64) : (both xs bs).length = 64 := by simp [both, ha, hb]
end Go.Proofs.YtpbnjifefoniiaaGreatDoor.TP
namespace Go.Proofs.YtpbnjifefoniiaaGreatDoor.TP
open Go Go.SE
variable {w0 : World} {l : List HP} {i j b : Nat} {r : Option (Nat × Nat)}
structure RT where
  many : Int
  doms : List Int
  on : List Bool
structure RT.Ok (t : RT) : Prop where
  doms : t.doms.length = 64
  on : t.on.length = 64
def RT.cells (t : RT) : List Value := int t.many :: (ints t.doms ++ bools t.on)
abbrev RT.val (t : RT) : Value := .agg t.cells.toArray
theorem RT.Ok.len {t : RT} (h : t.Ok) : t.cells.length = 129 := by simp [RT.cells, h.doms, h.on]
theorem RT.one (t : RT) : t.cells.all SE.one = true := by
  rw [RT.cells, List.all_cons, List.all_append, all_ints, all_bools]; rfl
theorem RT.Ok.dom {t : RT} (h : t.Ok) {k : Nat} (hk : k < 64) : t.cells[0 + 1 + k * 1]? = some (int (t.doms.getD k 0)) := by
  have : k < t.doms.length := by rw [h.doms]; exact hk
  rw [show 0 + 1 + k * 1 = k + 1 by omega, RT.cells, List.getElem?_cons_succ, List.getElem?_append_left (by simpa using this)]
  simp [this, List.getD_eq_getElem?_getD]
def RT.domE (t : RT) (c : Int) : Int := if core c ∧ 0 ≤ t.doms.getD c.toNat 0 then 0 else 2
def RT.dom (t : RT) (c : Int) : Int := if core c ∧ 0 ≤ t.doms.getD c.toNat 0 then t.doms.getD c.toNat 0 else 0
def RT.there (t : RT) (d : Int) : Prop := 0 ≤ d ∧ d < t.many
instance (t : RT) (d : Int) : Decidable (t.there d) := inferInstanceAs (Decidable (_ ∧ _))
def RT.coresS (t : RT) (d : Int) (on : Bool) : List Bool := t.doms.zipWith (fun o u => decide (o = d) && (!on || u)) t.on
def RT.cores (t : RT) (d : Int) (on : Bool) : List Bool := if t.there d then t.coresS d on else falses
def RT.coresE (t : RT) (d : Int) : Int := if t.there d then 0 else 5
def RT.upE (t : RT) (c : Int) : Int := if t.domE c ≠ 0 then 2 else if t.on.getD c.toNat false then 10 else 0
def RT.up (t : RT) (c : Int) : RT := if t.upE c = 0 then { t with on := t.on.set c.toNat true } else t
def RT.checkE (t : RT) (d : Int) (s : List Bool) : Int := if t.coresE d ≠ 0 then 5 else if both (t.cores d false) s = falses then 8 else 0
def RT.eff (t : RT) (d : Int) (s : List Bool) : List Bool := if t.checkE d s ≠ 0 then falses else if both (t.cores d true) s = falses then t.cores d true else both (t.cores d true) s
theorem RT.Ok.coresS {t : RT} (h : t.Ok) (d : Int) (on : Bool) : (t.coresS d on).length = 64 := by simp [RT.coresS, h.doms, h.on]
theorem RT.Ok.cores {t : RT} (h : t.Ok) (d : Int) (on : Bool) : (t.cores d on).length = 64 := by
  unfold RT.cores; split
  · exact h.coresS d on
  · exact falses_length
theorem RT.Ok.up {t : RT} (h : t.Ok) (c : Int) : (t.up c).Ok := by
  unfold RT.up; split
  · exact ⟨h.doms, by simp [h.on]⟩
  · exact h
end Go.Proofs.YtpbnjifefoniiaaGreatDoor.TP
namespace Go.Proofs.YtpbnjifefoniiaaGreatDoor.TP
open Go Go.SE
variable {w0 : World} {l : List HP} {i j b : Nat} {r : Option (Nat × Nat)}
theorem same_set {xs ys : List Bool} (hx : xs.length = 64) (hy : ys.length = 64) : Same cx 10000 T_ref01_Set (setV xs) (setV ys) (decide (xs = ys)) :=
  same_array (C := cx) (d := 9999) Value.bool rfl rfl rfl rfl rfl (fun _ _ => same_bool rfl rfl) hx hy
end Go.Proofs.YtpbnjifefoniiaaGreatDoor.TP
namespace Go.Proofs.YtpbnjifefoniiaaGreatDoor.TP
open Go Go.SE
variable {w0 : World} {l : List HP} {i j b : Nat} {r : Option (Nat × Nat)}
def flat (L : List (List Bool)) : List Value := (L.map bools).flatten
def zeros : List Int := List.replicate 64 0
def wipe (c : Nat) : List Int := List.replicate c (-1) ++ List.replicate (64 - c) 0
theorem wipe_length {c : Nat} (h : c ≤ 64) : (wipe c).length = 64 := by simp [wipe]; omega
def RT.none : RT := ⟨0, zeros, falses⟩
def RT.base (m : Nat) (c : Nat) : RT := ⟨m, wipe c, falses⟩
theorem RT.base_ok (m : Nat) {c : Nat} (h : c ≤ 64) : (RT.base m c).Ok := ⟨wipe_length h, falses_length⟩
def mark1 (d : Nat) (s : List Bool) (t : RT) (c : Nat) : RT := if s.getD c false = true then { t with doms := t.doms.set c d, on := t.on.set c true } else t
def mark (d : Nat) (s : List Bool) (t : RT) : Nat → RT
  | 0 => t
  | c + 1 => mark1 d s (mark d s t c) c
def any1 (s : List Bool) : Nat → Bool
  | 0 => false
  | c + 1 => s.getD c false || any1 s c
def clash (d : Nat) (s : List Bool) (t : RT) (c : Nat) : Bool := s.getD c false && decide (0 ≤ (mark d s t c).doms.getD c 0)
theorem mark1_ok {d c : Nat} {s : List Bool} {t : RT} (h : t.Ok) : (mark1 d s t c).Ok := by
  unfold mark1; split
  · exact ⟨by simp [h.doms], by simp [h.on]⟩
  · exact h
theorem mark_ok {d : Nat} {s : List Bool} {t : RT} (h : t.Ok) : ∀ c, (mark d s t c).Ok
  | 0 => h
  | c + 1 => mark1_ok (mark_ok h c)
def domsTo (L : List (List Bool)) : Nat → RT
  | 0 => RT.base L.length 64
  | d + 1 => mark d (L.getD d []) (domsTo L d) 64
theorem domsTo_ok (L : List (List Bool)) : ∀ d, (domsTo L d).Ok
  | 0 => RT.base_ok _ (Nat.le_refl _)
  | d + 1 => mark_ok (domsTo_ok L d) 64
def badD (L : List (List Bool)) (d : Nat) : Prop := (∃ c, c < 64 ∧ clash d (L.getD d []) (domsTo L d) c = true) ∨ any1 (L.getD d []) 64 = false
open Classical in
noncomputable def newE (L : List (List Bool)) : Int := if L.length = 0 ∨ 8 < L.length then 14 else if ∃ d, d < L.length ∧ badD L d then 8 else 0
open Classical in
noncomputable def newT (L : List (List Bool)) : RT := if newE L = 0 then domsTo L L.length else RT.none
end Go.Proofs.YtpbnjifefoniiaaGreatDoor.TP
namespace Go.Proofs.YtpbnjifefoniiaaGreatDoor.TP
open Go Go.SE
variable {w0 : World} {l : List HP} {i j b : Nat} {r : Option (Nat × Nat)} {T : Topo}
theorem all_u64s (xs : List Nat) : (u64s xs).all SE.one = true := by simp [u64s, SE.one]
theorem Clone_any (xs : List Nat) (h0 : 0 < xs.length) (h8 : xs.length ≤ 8) (h : l[i]? = some (rowC r T_mask_Set 1 (u64s xs) xs.length)) :
    Does cx F_slices_Clone_mask_Set_mask_Set [sv r xs.length] (S w0 l) fun v w => ∃ r', v = sv r' xs.length ∧ True ∧ S w0 (rowC r' T_mask_Set 1 (u64s xs) xs.length :: l) w := by
  refine fn_enter (n := N_slices_Clone_mask_Set_mask_Set) fn_slices_Clone_mask_Set_mask_Set rfl rfl rfl ?_
  refine wlk ?_
  cases r with
  | none => exact el_pre (φ := xs.length = 0) (fun w hw => ⟨(hw.row_nil h).2, hw⟩) (fun h => absurd h (by omega))
  | some gc =>
    obtain ⟨g, c⟩ := gc
    refine el_cons rfl (eo_snil rfl (.inl rfl) rfl rfl rfl rfl rfl rfl ?_)
    refine wlk ?_
    refine el_cons rfl (eo_buildS rfl rfl rfl rfl rfl rfl rfl rfl rfl rfl fun b' => ?_)
    refine el_imp (H' := S w0 (rowC (some (b', 0)) T_mask_Set 1 [] 0 :: l)) (fun w hw => hw.imp (i := 0) rfl (fun h hp => row_of_cells rfl (by decide) hp)) ?_
    refine wlk ?_
    refine el_cons rfl (eo_append 0 (r := some (b', 0)) (n' := 0) (u64s xs) rfl rfl rfl rfl rfl rfl rfl rfl rfl rfl (by simp) ?_ (all_u64s _) h0 ?_ ?_ fun r' => ?_)
    · intro w hw j u hu
      have := hw.row_cell (i := i + 1) h hu
      rw [addr_add, Nat.zero_add]; exact this
    · show (0 + xs.length) * 8 ≤ _; omega
    · simp only [maxLen]; omega
    refine wlk ?_
    refine eq_rett rfl fun w hw => ⟨r', ?_, trivial, ?_⟩
    · simp [pack]
    · simpa using hw
def orTo (xs : List Nat) : Nat → Nat
  | 0 => 0
  | k + 1 => orTo xs k ||| xs.getD k 0
theorem orTo_lt {xs : List Nat} (h : ∀ m ∈ xs, m < 18446744073709551616) : ∀ k, orTo xs k < 18446744073709551616
  | 0 => by show 0 < 18446744073709551616; decide
  | k + 1 => by
    refine Nat.or_lt_two_pow (n := 64) (orTo_lt h k) ?_
    rw [List.getD_eq_getElem?_getD]
    cases hk : xs[k]? with
    | none => decide
    | some m => exact h _ (List.mem_of_getElem? hk)
def badM (xs : List Nat) (k : Nat) : Prop := xs.getD k 0 = 0 ∨ xs.getD k 0 &&& orTo xs k ≠ 0
open Classical in
noncomputable def topoE (xs : List Nat) : Int := if xs.length = 0 ∨ 8 < xs.length then 14 else if ∃ k, k < xs.length ∧ badM xs k then 8 else 0
def topoT (xs : List Nat) : Topo := ⟨xs, orTo xs xs.length⟩
theorem topoT_ok {xs : List Nat} (h : ∀ m ∈ xs, m < 18446744073709551616) (h8 : xs.length ≤ 8) : (topoT xs).Ok := ⟨h, orTo_lt h _, h8⟩
abbrev laid (b : Nat) (r : Option (Nat × Nat)) (T : Topo) (l : List HP) : List HP := cells b T_topo_Topo [sv r T.doms.length, u64 T.on] :: rowC r T_mask_Set 1 (u64s T.doms) T.doms.length :: l
theorem At.laid (b : Nat) (r : Option (Nat × Nat)) (T : Topo) (l : List HP) : At (laid b r T l) 0 1 b r T := ⟨rfl, rfl⟩
def NewR (w0 : World) (l : List HP) (xs : List Nat) (v : Value) (w : World) : Prop :=
  (topoE xs = 0 ∧ ∃ b r', v = .tuple #[ptr b, int 0] ∧ S w0 (laid b r' (topoT xs) l) w) ∨ (topoE xs ≠ 0 ∧ v = .tuple #[.pointer none, int (topoE xs)] ∧ S w0 l w)
set_option maxHeartbeats 800000 in
theorem NewT_any (xs : List Nat) (hm : ∀ m ∈ xs, m < 18446744073709551616) (h : l[i]? = some (rowC r T_mask_Set 1 (u64s xs) xs.length)) (hn : xs.length ≤ 1000) :
    Does cx F_topo_New [sv r xs.length] (S w0 l) (NewR w0 l xs) := by
  refine fn_enter (n := N_topo_New) fn_topo_New rfl rfl rfl ?_
  refine wlz ?_
  have fail : ∀ e, e ≠ 0 → topoE xs = e → ∀ w, S w0 l w → NewR w0 l xs (.tuple #[.pointer none, int e]) w := fun e he h w hw => .inr ⟨by rw [h]; exact he, by rw [h], hw⟩
  by_cases h1 : xs.length = 0
  · refine el_val 10 (u := .bool true) rfl (by simp [h1]) ?_
    refine wlz ?_
    exact eq_rett rfl fun w hw => fail 14 (by decide) (by rw [topoE, if_pos (.inl h1)]) w hw
  refine el_val 10 (u := .bool false) rfl (by rw [decide_eq_false (by omega)]) ?_
  refine wlz ?_
  refine ej_dec rfl (fun h2 => ?_) (fun h2 => ?_)
  · refine wlz ?_
    exact eq_rett rfl fun w hw => fail 14 (by decide) (by rw [topoE, if_pos (.inr (by omega))]) w hw
  have hno : ¬ (xs.length = 0 ∨ 8 < xs.length) := by omega
  have bad : ∀ k, k < xs.length → badM xs k → topoE xs = 8 := fun k hk hb => by rw [topoE, if_neg hno, if_pos ⟨k, hk, hb⟩]
  refine wlz ?_
  refine el_cons rfl (eo_callx rfl rfl rfl rfl rfl real_slices_Clone_mask_Set_mask_Set (Clone_any xs (by omega) (by omega) h) fun r' _ => ?_)
  refine el_cons rfl (eo_build (cs := [sv r' xs.length, u64 0]) rfl rfl rfl rfl rfl rfl rfl rfl ?_)
  refine el_cons rfl (eo_box rfl rfl rfl rfl fun b' => ?_)
  refine wlz ?_
  refine ej_loopP (fun k : Nat => k ≤ xs.length ∧ ∀ k', k' < k → ¬ badM xs k') (fun k => [(0, sv r xs.length), (4, ptr b'), (19, sv r xs.length), (20, int xs.length), (21, int k)])
    (fun k => S w0 (cells b' T_topo_Topo [sv r' xs.length, u64 (orTo xs k)] :: rowC r' T_mask_Set 1 (u64s xs) xs.length :: l)) (fun k => xs.length - k) 0 ⟨by omega, fun _ h => absurd h (by omega)⟩ (le_of _ _ rfl) (fun w hw => hw) ?_
  intro k hk
  obtain ⟨hk, hgood⟩ := hk
  refine wlk ?_
  refine ej_dec rfl (fun h3 => ?_) (fun h3 => ?_)
  · have hkl : k < xs.length := by omega
    have hb := bad k hkl
    have hor := orTo_lt hm k
    have e1 : orTo xs (k + 1) = orTo xs k ||| xs.getD k 0 := rfl
    have hx : xs[k]? = some (xs.getD k 0) := by simp [List.getD_eq_getElem?_getD, hkl]
    have hxm : xs.getD k 0 < 18446744073709551616 := hm _ (List.mem_of_getElem? hx)
    have hnext : ¬ badM xs k → ∀ k', k' < k + 1 → ¬ badM xs k' := fun h k' h' => by
      rcases Nat.lt_succ_iff_lt_or_eq.1 h' with h' | rfl
      · exact hgood k' h'
      · exact h
    have e2 : badM xs k ↔ xs.getD k 0 = 0 ∨ xs.getD k 0 &&& orTo xs k ≠ 0 := Iff.rfl
    generalize xs.getD k 0 = m at *
    generalize orTo xs k = s at *
    refine wlz ?_
    refine el_cons rfl (eo_idxr (i + 2) rfl rfl rfl rfl rfl rfl rfl rfl h ⟨by omega, h3⟩ ?_)
    refine el_cons rfl (eo_ldr (i + 2) rfl rfl rfl rfl rfl rfl h (v := u64 m) (by simp [hx]) ?_)
    refine wlz ?_
    refine el_gdec rfl rfl (fun h4 => ?_) (fun h4 => ?_)
    · refine wlz ?_
      exact eq_rett rfl fun w hw => fail 8 (by decide) (hb (e2.2 (.inl (by omega)))) w (hw.drop 2)
    · refine wlz ?_
      refine el_cons rfl (eo_ld 0 rfl rfl rfl rfl rfl rfl rfl rfl ?_)
      refine el_cons rfl (eo_call1 rfl rfl rfl rfl rfl real_mask_Set_Meets (Meets_any _ _ hxm hor _) ?_)
      by_cases h5 : m &&& s = 0
      · rw [decide_eq_false (by simpa using h5)]
        refine wlz ?_
        refine el_cons rfl (eo_ld 0 rfl rfl rfl rfl rfl rfl rfl rfl ?_)
        refine wlz ?_
        refine el_cons rfl (eo_bits rfl rfl rfl rfl rfl hor hxm rfl ?_)
        refine wlz ?_
        refine el_cons rfl (eo_st 0 rfl rfl rfl rfl rfl rfl rfl rfl rfl ?_)
        refine wlz ?_
        refine eq_backP (k + 1) ⟨by omega, hnext (fun h => by rcases e2.1 h with h | h; exact h4 (by omega); exact h h5)⟩ (by omega) (le_of _ _ rfl) (fun w hw => ?_)
        rw [e1]; exact hw
      · rw [decide_eq_true h5]
        refine wlz ?_
        exact eq_rett rfl fun w hw => fail 8 (by decide) (hb (e2.2 (.inr h5))) w (hw.drop 2)
  · obtain rfl : k = xs.length := by omega
    have e : topoE xs = 0 := by rw [topoE, if_neg hno, if_neg (fun ⟨d, h1, h2⟩ => hgood d h1 h2)]
    refine wlz ?_
    exact eq_rett rfl fun w hw => .inl ⟨e, b', r', rfl, hw⟩
end Go.Proofs.YtpbnjifefoniiaaGreatDoor.TP
namespace Go.Proofs.YtpbnjifefoniiaaGreatDoor.TP
open Go Go.SE
variable {w0 : World} {l : List HP} {i j b : Nat} {r : Option (Nat × Nat)} {T : Topo}
abbrev bitsLs (xs : List Nat) : List (List Bool) := xs.map bitsL
end Go.Proofs.YtpbnjifefoniiaaGreatDoor.TP
namespace Go.Proofs.YtpbnjifefoniiaaGreatDoor.TP
open Go Go.SE
theorem has_bit {s k : Nat} (hk : k < 64) : has s (k : Int) = s.testBit k := by
  have : core (k : Int) := ⟨by omega, by omega⟩
  simp [has, this]
theorem has_core {s : Nat} {c : Int} (h : has s c = true) : core c := by
  unfold has at h; simp only [Bool.and_eq_true, decide_eq_true_eq] at h; exact h.1
theorem core_nat {c : Int} (h : core c) : ∃ k : Nat, k < 64 ∧ c = k := ⟨c.toNat, by unfold core at h; omega, by unfold core at h; omega⟩
theorem idx_neg {doms : List Nat} {c : Int} : idxOf doms c < 0 ↔ ∀ m ∈ doms, has m c = false := by
  unfold idxOf
  split
  · rename_i i hi
    rw [List.findIdx?_eq_some_iff_getElem] at hi
    obtain ⟨h1, h2, _⟩ := hi
    constructor
    · intro h; omega
    · intro h; rw [h _ (List.getElem_mem h1)] at h2; cases h2
  · rename_i hi
    rw [List.findIdx?_eq_none_iff] at hi
    exact ⟨fun _ => hi, fun _ => by decide⟩
theorem idx_pos {doms : List Nat} {c : Int} (h : ¬ idxOf doms c < 0) : ∃ d : Nat, idxOf doms c = d ∧ d < doms.length ∧ has (doms.getD d 0) c = true := by
  unfold idxOf at *
  split at h
  · rename_i i hi
    rw [List.findIdx?_eq_some_iff_getElem] at hi
    obtain ⟨h1, h2, _⟩ := hi
    refine ⟨i, rfl, h1, ?_⟩
    rw [List.getD_eq_getElem?_getD, List.getElem?_eq_getElem h1]; exact h2
  · exact absurd (by decide) h
theorem idx_snoc (doms : List Nat) (m : Nat) (c : Int) : idxOf (doms ++ [m]) c = if idxOf doms c < 0 then (if has m c then (doms.length : Int) else -1) else idxOf doms c := by
  unfold idxOf
  rw [List.findIdx?_append]
  cases h : doms.findIdx? (has · c) with
  | none =>
    simp only [Option.none_or]
    by_cases hm : has m c <;> simp [List.findIdx?_cons, hm]
  | some i =>
    simp only [Option.some_or]
    rw [if_neg (by omega)]
theorem ext64 {xs ys : List Bool} (hx : xs.length = 64) (hy : ys.length = 64) (h : ∀ k, k < 64 → xs.getD k false = ys.getD k false) : xs = ys := by
  apply List.ext_getElem (by omega)
  intro k h1 h2
  have := h k (by omega)
  simpa [List.getD_eq_getElem?_getD, h1, h2] using this
theorem bitsL_getD (n : Nat) {k : Nat} (hk : k < 64) : (bitsL n).getD k false = n.testBit k := by
  rw [List.getD_eq_getElem?_getD, List.getElem?_eq_getElem (by rw [bitsL_length]; exact hk), bitsL_get]; rfl
theorem falses_getD (k : Nat) : falses.getD k false = false := by
  simp only [falses, List.getD_eq_getElem?_getD, List.getElem?_replicate]; split <;> rfl
theorem falses_bits : falses = bitsL 0 := ext64 falses_length (bitsL_length 0) fun k hk => by rw [falses_getD, bitsL_getD 0 hk]; simp
theorem bitsL_inj {a b : Nat} (ha : a < 18446744073709551616) (hb : b < 18446744073709551616) (h : bitsL a = bitsL b) : a = b := by rw [← num_bitsL a ha, ← num_bitsL b hb, h]
theorem both_getD (xs ys : List Bool) {k : Nat} (hx : xs.length = 64) (hy : ys.length = 64) (hk : k < 64) : (both xs ys).getD k false = (xs.getD k false && ys.getD k false) := by
  have h1 : k < xs.length := by omega
  have h2 : k < ys.length := by omega
  rw [List.getD_eq_getElem?_getD, both, List.getElem?_eq_getElem (by simp; omega), List.getElem_zipWith]
  simp [List.getD_eq_getElem?_getD, h1, h2]
theorem both_bits (a b : Nat) : both (bitsL a) (bitsL b) = bitsL (a &&& b) :=
  ext64 (both_length _ _ (bitsL_length a) (bitsL_length b)) (bitsL_length _) fun k hk => by
    rw [both_getD _ _ (bitsL_length a) (bitsL_length b) hk, bitsL_getD _ hk, bitsL_getD _ hk, bitsL_getD _ hk, Nat.testBit_and]
theorem and_lt {a b : Nat} (h : a < 18446744073709551616) : a &&& b < 18446744073709551616 := Nat.lt_of_le_of_lt Nat.and_le_left h
theorem both_none {a b : Nat} (h : a < 18446744073709551616) : both (bitsL a) (bitsL b) = falses ↔ a &&& b = 0 := by
  rw [both_bits, falses_bits]
  exact ⟨fun e => bitsL_inj (and_lt h) (by decide) e, fun e => by rw [e]⟩
theorem bit_lt {m k : Nat} (hm : m < 18446744073709551616) (h : m.testBit k = true) : k < 64 := by
  rcases Nat.lt_or_ge k 64 with hk | hk
  · exact hk
  · rw [Nat.testBit_lt_two_pow (Nat.lt_of_lt_of_le hm (Nat.pow_le_pow_right (show 0 < 2 by decide) hk))] at h; cases h
theorem some_bit {m : Nat} (hm : m < 18446744073709551616) (h : m ≠ 0) : ∃ k, k < 64 ∧ m.testBit k = true := by
  obtain ⟨k, hk⟩ := Nat.exists_testBit_of_ne_zero h
  exact ⟨k, bit_lt hm hk, hk⟩
theorem bit_ne {m k : Nat} (h : m.testBit k = true) : m ≠ 0 := by rintro rfl; simp at h
theorem with_bit {s : Nat} {c : Int} (hc : core c) (k : Nat) : (withC s c).testBit k = (s.testBit k || decide (k = c.toNat)) := by
  rw [withC, if_pos hc, Nat.testBit_or, Nat.testBit_two_pow]
  congr 1; apply decide_eq_decide.2; exact eq_comm
structure Rel (T : Topo) (t : RT) : Prop where
  okT : T.Ok
  okR : t.Ok
  many : t.many = T.doms.length
  dom : ∀ k : Nat, k < 64 → t.doms.getD k 0 = idxOf T.doms (k : Int)
  on : ∀ k : Nat, k < 64 → t.on.getD k false = T.on.testBit k
  one : ∀ d k : Nat, k < 64 → d < T.doms.length → (T.doms.getD d 0).testBit k = true → idxOf T.doms (k : Int) = d
  live : ∀ d : Nat, d < T.doms.length → T.doms.getD d 0 &&& T.on ≠ 0
  sub : ∀ k : Nat, k < 64 → T.on.testBit k = true → ¬ idxOf T.doms (k : Int) < 0
variable {T : Topo} {t : RT}
theorem not_core {c : Int} (h : ¬ core c) : T.idx c < 0 := by
  rw [Topo.idx, idx_neg]
  intro m _
  simp [has, h]
theorem Rel.there (h : Rel T t) (d : Int) : t.there d ↔ T.there d := by
  unfold RT.there Topo.there; rw [h.many]
theorem Rel.domIff (h : Rel T t) (c : Int) : (core c ∧ 0 ≤ t.doms.getD c.toNat 0) ↔ ¬ T.idx c < 0 := by
  by_cases hc : core c
  · obtain ⟨k, hk, rfl⟩ := core_nat hc
    rw [show ((k : Int)).toNat = k from rfl, h.dom k hk, Topo.idx]
    constructor
    · rintro ⟨_, h⟩; omega
    · intro h; exact ⟨hc, by omega⟩
  · have := not_core (T := T) hc
    constructor
    · intro h; exact absurd h.1 hc
    · intro h; exact absurd this h
theorem Rel.domE (h : Rel T t) (c : Int) : t.domE c = T.ofE c := by
  unfold RT.domE Topo.ofE
  by_cases hi : T.idx c < 0
  · rw [if_neg (fun h' => (h.domIff c).1 h' hi), if_pos hi]
  · rw [if_pos ((h.domIff c).2 hi), if_neg hi]
theorem Rel.onV (h : Rel T t) {c : Int} (hc : core c) : t.on.getD c.toNat false = has T.on c := by
  obtain ⟨k, hk, rfl⟩ := core_nat hc
  rw [has_bit hk]; exact h.on k hk
theorem coresS_getD (h : t.Ok) (d : Int) (on : Bool) {k : Nat} (hk : k < 64) : (t.coresS d on).getD k false = (decide (t.doms.getD k 0 = d) && (!on || t.on.getD k false)) := by
  have h1 : k < t.doms.length := by rw [h.doms]; exact hk
  have h2 : k < t.on.length := by rw [h.on]; exact hk
  rw [List.getD_eq_getElem?_getD, RT.coresS, List.getElem?_eq_getElem (by simp; omega), List.getElem_zipWith]
  simp [List.getD_eq_getElem?_getD, h1, h2]
theorem Rel.bitDom (h : Rel T t) {d k : Nat} (hk : k < 64) (hd : d < T.doms.length) : decide (t.doms.getD k 0 = (d : Int)) = (T.doms.getD d 0).testBit k := by
  rw [h.dom k hk]
  cases hb : (T.doms.getD d 0).testBit k with
  | true => rw [h.one d k hk hd hb]; simp
  | false =>
    rw [decide_eq_false_iff_not]
    intro e
    obtain ⟨d', h1, h2, h3⟩ := idx_pos (doms := T.doms) (c := (k : Int)) (by omega)
    obtain rfl : d' = d := by omega
    rw [has_bit hk, hb] at h3; cases h3
theorem Rel.cores (h : Rel T t) (d : Int) (on : Bool) : t.cores d on = bitsL (if on then T.online d else T.cores d) := by
  refine ext64 (h.okR.cores d on) (bitsL_length _) fun k hk => ?_
  rw [bitsL_getD _ hk]
  unfold RT.cores
  by_cases ht : T.there d
  · rw [if_pos ((h.there d).2 ht), coresS_getD h.okR d on hk, h.on k hk]
    have hdl : d.toNat < T.doms.length := by unfold Topo.there at ht; omega
    have e : d = (d.toNat : Int) := by unfold Topo.there at ht; omega
    have hb := h.bitDom hk hdl
    rw [← e] at hb
    rw [hb]
    cases on
    · simp [Topo.cores, ht]
    · simp [Topo.online, Topo.cores, ht]
  · rw [if_neg (fun h' => ht ((h.there d).1 h')), falses_getD]
    cases on <;> simp [Topo.online, Topo.cores, ht]
theorem Rel.coresE (h : Rel T t) (d : Int) : t.coresE d = T.coresE d := by
  unfold RT.coresE Topo.coresE
  by_cases ht : T.there d
  · rw [if_pos ((h.there d).2 ht), if_pos ht]
  · rw [if_neg (fun h' => ht ((h.there d).1 h')), if_neg ht]
theorem Rel.upE (h : Rel T t) (c : Int) : t.upE c = T.upE c := by
  unfold RT.upE Topo.upE
  rw [h.domE c]
  unfold Topo.ofE
  by_cases hi : T.idx c < 0
  · simp [hi]
  · simp only [if_neg hi, ne_eq, not_true, if_false]
    rw [h.onV ((h.domIff c).2 hi).1]
theorem Rel.up (h : Rel T t) (c : Int) : Rel (T.up c) (t.up c) := by
  unfold RT.up
  rw [h.upE c]
  unfold Topo.up Topo.upE
  by_cases hi : T.idx c < 0
  · simpa [hi] using h
  · have hc := ((h.domIff c).2 hi).1
    by_cases ho : has T.on c = true
    · simpa [hi, ho] using h
    · simp only [if_neg hi, if_neg ho, if_true]
      refine ⟨⟨h.okT.doms, withC_lt c h.okT.on, h.okT.few⟩, ⟨h.okR.doms, by simp [h.okR.on]⟩, h.many, h.dom, fun k hk => ?_, h.one, fun d hd => ?_, fun k hk hb => ?_⟩
      · rw [with_bit hc, ← h.on k hk]
        have hkl : k < t.on.length := by rw [h.okR.on]; exact hk
        simp only [List.getD_eq_getElem?_getD, List.getElem?_set]
        by_cases e : c.toNat = k
        · subst e; simp [hkl]
        · simp [e, Ne.symm e]
      · obtain ⟨k, hk, hb⟩ := some_bit (and_lt (b := T.on) (by
          have := h.okT.cores d
          simpa [Topo.cores, Topo.there, hd] using this)) (h.live d hd)
        rw [Nat.testBit_and, Bool.and_eq_true] at hb
        refine bit_ne (k := k) ?_
        rw [Nat.testBit_and, with_bit hc, hb.1, hb.2]; rfl
      · rw [with_bit hc, Bool.or_eq_true] at hb
        rcases hb with hb | hb
        · exact h.sub k hk hb
        · rw [decide_eq_true_eq] at hb
          obtain ⟨q, hq, rfl⟩ := core_nat hc
          obtain rfl : k = q := hb
          exact hi
end Go.Proofs.YtpbnjifefoniiaaGreatDoor.TP
namespace Go.Proofs.YtpbnjifefoniiaaGreatDoor.TP
open Go Go.SE
variable {T : Topo} {t : RT}
theorem Rel.lt (h : Rel T t) (d : Nat) : T.doms.getD d 0 < 18446744073709551616 := by
  have := h.okT.cores d
  by_cases hd : d < T.doms.length
  · simpa [Topo.cores, Topo.there, hd] using this
  · simp [List.getD_eq_getElem?_getD, hd]
theorem Rel.idx (_h : Rel T t) {c : Int} (hi : ¬ T.idx c < 0) : ∃ d k : Nat, T.idx c = d ∧ c = k ∧ k < 64 ∧ d < T.doms.length ∧ (T.doms.getD d 0).testBit k = true ∧ T.online (T.idx c) = T.doms.getD d 0 &&& T.on := by
  obtain ⟨d, h1, h2, h3⟩ := idx_pos hi
  obtain ⟨k, hk, rfl⟩ := core_nat (has_core h3)
  have h1 : T.idx k = d := h1
  refine ⟨d, k, h1, rfl, hk, h2, by rw [← has_bit hk]; exact h3, ?_⟩
  rw [h1]
  simp [Topo.online, Topo.cores, Topo.there, h2]
theorem Rel.checkE (h : Rel T t) (d : Int) (s : Nat) : t.checkE d (bitsL s) = T.checkE d s := by
  unfold RT.checkE Topo.checkE
  rw [h.coresE, h.cores d false]
  simp only [Bool.false_eq_true, if_false, both_none (h.okT.cores d)]
theorem Rel.eff (h : Rel T t) (d : Int) (s : Nat) : t.eff d (bitsL s) = bitsL (T.eff d s) := by
  unfold RT.eff Topo.eff
  rw [h.checkE, h.cores d true]
  simp only [if_true, both_none (h.okT.online d)]
  by_cases h1 : T.checkE d s ≠ 0
  · simp only [if_pos h1, falses_bits]
  · simp only [if_neg h1]
    split
    · rfl
    · exact both_bits _ _
theorem mark_dom (d : Nat) (s : List Bool) (t : RT) (ht : t.Ok) (k : Nat) (hk : k < 64) : ∀ c, (mark d s t c).doms.getD k 0 = if k < c ∧ s.getD k false = true then (d : Int) else t.doms.getD k 0
  | 0 => by simp [mark]
  | c + 1 => by
    have ih := mark_dom d s t ht k hk c
    have hl : k < (mark d s t c).doms.length := by rw [(mark_ok ht c).doms]; exact hk
    rw [mark, mark1]
    by_cases hs : s.getD c false = true
    · rw [if_pos hs]
      by_cases e : k = c
      · subst e
        rw [if_pos ⟨by omega, hs⟩]
        simp [List.getD_eq_getElem?_getD, hl]
      · have : ((mark d s t c).doms.set c (d : Int)).getD k 0 = (mark d s t c).doms.getD k 0 := by
          simp [List.getD_eq_getElem?_getD, Ne.symm e]
        rw [this, ih]
        congr 1; simp only [eq_iff_iff]; constructor <;> (rintro ⟨h1, h2⟩; exact ⟨by omega, h2⟩)
    · rw [if_neg hs, ih]
      congr 1; simp only [eq_iff_iff]; constructor
      · rintro ⟨h1, h2⟩; exact ⟨by omega, h2⟩
      · rintro ⟨h1, h2⟩; refine ⟨?_, h2⟩
        rcases Nat.lt_succ_iff_lt_or_eq.1 h1 with h | rfl
        · exact h
        · exact absurd h2 hs
theorem mark_on (d : Nat) (s : List Bool) (t : RT) (ht : t.Ok) (k : Nat) (hk : k < 64) : ∀ c, (mark d s t c).on.getD k false = (t.on.getD k false || (decide (k < c) && s.getD k false))
  | 0 => by simp [mark]
  | c + 1 => by
    have ih := mark_on d s t ht k hk c
    have hl : k < (mark d s t c).on.length := by rw [(mark_ok ht c).on]; exact hk
    rw [mark, mark1]
    by_cases hs : s.getD c false = true
    · rw [if_pos hs]
      by_cases e : k = c
      · subst e
        rw [hs]
        simp [List.getD_eq_getElem?_getD, hl]
      · have : ((mark d s t c).on.set c true).getD k false = (mark d s t c).on.getD k false := by
          simp [List.getD_eq_getElem?_getD, Ne.symm e]
        rw [this, ih, show decide (k < c + 1) = decide (k < c) from decide_eq_decide.2 (by omega)]
    · rw [if_neg hs, ih]
      by_cases e : k = c
      · subst e
        rw [Bool.not_eq_true] at hs
        rw [hs]; simp
      · rw [show decide (k < c + 1) = decide (k < c) from decide_eq_decide.2 (by omega)]
theorem mark_many (d : Nat) (s : List Bool) (t : RT) : ∀ c, (mark d s t c).many = t.many
  | 0 => rfl
  | c + 1 => by
    rw [mark, mark1]
    split
    · exact mark_many d s t c
    · exact mark_many d s t c
theorem any1_iff (s : List Bool) : ∀ c, any1 s c = true ↔ ∃ k, k < c ∧ s.getD k false = true
  | 0 => by simp [any1]
  | c + 1 => by
    rw [any1, Bool.or_eq_true, any1_iff s c]
    constructor
    · rintro (h | ⟨k, hk, h⟩)
      · exact ⟨c, by omega, h⟩
      · exact ⟨k, by omega, h⟩
    · rintro ⟨k, hk, h⟩
      rcases Nat.lt_succ_iff_lt_or_eq.1 hk with hk | rfl
      · exact .inr ⟨k, hk, h⟩
      · exact .inl h
theorem bitsLs_getD (xs : List Nat) (d : Nat) (h : d < xs.length) : (bitsLs xs).getD d [] = bitsL (xs.getD d 0) := by
  simp [List.getD_eq_getElem?_getD, h]
structure Up (xs : List Nat) (d : Nat) : Prop where
  dom : ∀ k : Nat, k < 64 → (domsTo (bitsLs xs) d).doms.getD k 0 = idxOf (xs.take d) (k : Int)
  on : ∀ k : Nat, k < 64 → (domsTo (bitsLs xs) d).on.getD k false = (orTo xs d).testBit k
  or : ∀ k : Nat, k < 64 → ((orTo xs d).testBit k = true ↔ ¬ idxOf (xs.take d) (k : Int) < 0)
theorem wipe_get {c k : Nat} (h : k < c) : (wipe c).getD k 0 = -1 := by
  rw [wipe, List.getD_eq_getElem?_getD, List.getElem?_append_left (by simpa using h), List.getElem?_replicate, if_pos h]; rfl
theorem up_zero (xs : List Nat) : Up xs 0 := by
  refine ⟨fun k hk => ?_, fun k hk => ?_, fun k hk => ?_⟩
  · have : (wipe 64).getD k 0 = -1 := wipe_get hk
    rw [show (domsTo (bitsLs xs) 0).doms = wipe 64 from rfl, this]; simp [idxOf]
  · rw [show (domsTo (bitsLs xs) 0).on = falses from rfl, falses_getD]; simp [orTo]
  · simp [orTo, idxOf]
variable {xs : List Nat} {d : Nat}
theorem bad_iff (hm : ∀ m ∈ xs, m < 18446744073709551616) (hd : d < xs.length) (h : Up xs d) : badD (bitsLs xs) d ↔ badM xs d := by
  have hx : xs.getD d 0 < 18446744073709551616 := hm _ (List.mem_of_getElem? (by rw [List.getD_eq_getElem?_getD, List.getElem?_eq_getElem hd]; rfl))
  unfold badD badM
  rw [bitsLs_getD xs d hd]
  have hcl : ∀ c, c < 64 → clash d (bitsL (xs.getD d 0)) (domsTo (bitsLs xs) d) c = ((xs.getD d 0).testBit c && (orTo xs d).testBit c) := fun c hc => by
    rw [clash, mark_dom _ _ _ (domsTo_ok _ _) c hc, if_neg (by simp), h.dom c hc, bitsL_getD _ hc]
    congr 1
    have := h.or c hc
    cases hb : (orTo xs d).testBit c with
    | true => rw [decide_eq_true_iff]; have := this.1 hb; omega
    | false =>
      rw [decide_eq_false_iff_not]; intro h'
      rw [this.2 (by omega)] at hb; cases hb
  constructor
  · rintro (⟨c, hc, h1⟩ | h1)
    · rw [hcl c hc] at h1
      exact .inr (bit_ne (k := c) (by rw [Nat.testBit_and]; exact h1))
    · refine .inl ?_
      apply Classical.byContradiction
      intro hne
      obtain ⟨k, hk, hb⟩ := some_bit hx hne
      rw [(any1_iff _ _).2 ⟨k, hk, by rw [bitsL_getD _ hk]; exact hb⟩] at h1; cases h1
  · rintro (h1 | h1)
    · refine .inr ?_
      rw [← Bool.not_eq_true, any1_iff]
      rintro ⟨k, hk, hb⟩
      rw [bitsL_getD _ hk, h1] at hb; simp at hb
    · obtain ⟨k, hk, hb⟩ := some_bit (and_lt hx) h1
      exact .inl ⟨k, hk, by rw [hcl k hk, ← Nat.testBit_and]; exact hb⟩
theorem up_step (_hm : ∀ m ∈ xs, m < 18446744073709551616) (hd : d < xs.length) (h : Up xs d) (hg : ¬ badM xs d) : Up xs (d + 1) := by
  have hidx : ∀ k : Nat, idxOf (xs.take (d + 1)) (k : Int) = if idxOf (xs.take d) (k : Int) < 0 then (if has (xs.getD d 0) (k : Int) then (d : Int) else -1) else idxOf (xs.take d) (k : Int) := fun k => by
    have e : xs[d] = xs.getD d 0 := by simp [List.getD_eq_getElem?_getD, hd]
    rw [List.take_succ_eq_append_getElem hd, idx_snoc, e, List.length_take, Nat.min_eq_left (Nat.le_of_lt hd)]
  have hno : ∀ k, k < 64 → (xs.getD d 0).testBit k = true → idxOf (xs.take d) (k : Int) < 0 := fun k hk hb => by
    apply Classical.byContradiction
    intro h'
    have h2 := (h.or k hk).2 h'
    exact hg (.inr (bit_ne (k := k) (by rw [Nat.testBit_and, hb, h2]; rfl)))
  refine ⟨fun k hk => ?_, fun k hk => ?_, fun k hk => ?_⟩
  · rw [domsTo, mark_dom _ _ _ (domsTo_ok _ _) k hk, bitsLs_getD xs d hd, bitsL_getD _ hk, hidx, h.dom k hk, has_bit hk]
    cases hb : (xs.getD d 0).testBit k with
    | true => simp [hk, hno k hk hb]
    | false =>
      simp only [Bool.false_eq_true, and_false, if_false]
      split
      · rename_i h1
        unfold idxOf at h1 ⊢
        split at h1
        · omega
        · rfl
      · rfl
  · rw [domsTo, mark_on _ _ _ (domsTo_ok _ _) k hk, bitsLs_getD xs d hd, bitsL_getD _ hk, h.on k hk, orTo, Nat.testBit_or]
    simp [hk]
  · rw [orTo, Nat.testBit_or, hidx, has_bit hk, Bool.or_eq_true, h.or k hk]
    by_cases h1 : idxOf (xs.take d) (k : Int) < 0
    · rw [if_pos h1]
      cases hb : (xs.getD d 0).testBit k with
      | true => simp
      | false => simp [h1]
    · rw [if_neg h1]; simp [h1]
theorem up_all (hm : ∀ m ∈ xs, m < 18446744073709551616) : ∀ d, d ≤ xs.length → (∀ d', d' < d → ¬ badM xs d') → Up xs d
  | 0, _, _ => up_zero xs
  | d + 1, h, hg => up_step hm (by omega) (up_all hm d (by omega) fun d' h' => hg d' (by omega)) (hg d (by omega))
theorem bad_any (hm : ∀ m ∈ xs, m < 18446744073709551616) : (∃ d, d < (bitsLs xs).length ∧ badD (bitsLs xs) d) ↔ ∃ d, d < xs.length ∧ badM xs d := by
  have key : ∀ (p q : Nat → Prop), (∀ d, d < xs.length → (∀ d', d' < d → ¬ p d') → (p d ↔ q d)) → (∃ d, d < xs.length ∧ p d) → ∃ d, d < xs.length ∧ q d := by
    rintro p q h ⟨d, hd, hp⟩
    obtain ⟨d0, h0, hmin⟩ : ∃ d0, (d0 < xs.length ∧ p d0) ∧ ∀ d', d' < d0 → ¬ p d' := by
      induction d using Nat.strongRecOn with
      | ind d ih =>
        by_cases hx : ∃ d', d' < d ∧ p d'
        · obtain ⟨d', h1, h2⟩ := hx
          exact ih d' h1 (by omega) h2
        · exact ⟨d, ⟨hd, hp⟩, fun d' h1 h2 => hx ⟨d', h1, h2⟩⟩
    exact ⟨d0, h0.1, (h d0 h0.1 hmin).1 h0.2⟩
  have main : ∀ d, d < xs.length → (∀ d', d' < d → ¬ badM xs d') → (badD (bitsLs xs) d ↔ badM xs d) := fun d hd hg => bad_iff hm hd (up_all hm d (Nat.le_of_lt hd) hg)
  have back : ∀ d, d < xs.length → (∀ d', d' < d → ¬ badD (bitsLs xs) d') → ∀ d', d' ≤ d → ¬ (d' < d ∧ badM xs d') := by
    intro d hd hg d'
    induction d' using Nat.strongRecOn with
    | ind d' ih =>
      rintro hle ⟨hlt, hb⟩
      exact hg d' hlt ((main d' (by omega) fun q hq h' => ih q hq (by omega) ⟨by omega, h'⟩).2 hb)
  rw [List.length_map]
  refine ⟨key _ _ fun d hd hg => main d hd fun q hq h' => back d hd hg q (by omega) ⟨hq, h'⟩, key _ _ fun d hd hg => (main d hd hg).symm⟩
theorem new_E (hm : ∀ m ∈ xs, m < 18446744073709551616) : newE (bitsLs xs) = topoE xs := by
  unfold newE topoE
  have := bad_any hm
  rw [List.length_map] at this ⊢
  split
  · rfl
  · by_cases h : ∃ d, d < xs.length ∧ badM xs d
    · rw [if_pos h, if_pos (this.2 h)]
    · rw [if_neg h, if_neg (fun h' => h (this.1 h'))]
theorem new_T (hm : ∀ m ∈ xs, m < 18446744073709551616) (h0 : topoE xs = 0) : Rel (topoT xs) (newT (bitsLs xs)) := by
  rw [newT, if_pos (by rw [new_E hm, h0])]
  unfold topoE at h0
  split at h0
  · cases h0
  rename_i hl
  split at h0
  · cases h0
  rename_i hg
  have hgood : ∀ d, d < xs.length → ¬ badM xs d := fun d hd hb => hg ⟨d, hd, hb⟩
  have hup := up_all hm xs.length (Nat.le_refl _) hgood
  rw [List.length_map]
  have hone : ∀ d k : Nat, k < 64 → d < xs.length → (xs.getD d 0).testBit k = true → ∀ n, d < n → n ≤ xs.length → idxOf (xs.take n) (k : Int) = d := by
    intro d k hk hd hb n
    induction n with
    | zero => intro h; omega
    | succ n ih =>
      intro h1 h2
      have e : xs[n] = xs.getD n 0 := by simp [List.getD_eq_getElem?_getD, show n < xs.length by omega]
      rw [List.take_succ_eq_append_getElem (by omega), idx_snoc, List.length_take, Nat.min_eq_left (by omega), e, has_bit hk]
      rcases Nat.lt_succ_iff_lt_or_eq.1 h1 with h1 | rfl
      · rw [ih h1 (by omega), if_neg (by omega)]
      · have hupd := up_all hm d (by omega) fun d' h' => hgood d' (by omega)
        have hlt : idxOf (xs.take d) (k : Int) < 0 := by
          apply Classical.byContradiction
          intro h'
          have h2 := (hupd.or k hk).2 h'
          exact hgood d hd (.inr (bit_ne (k := k) (by rw [Nat.testBit_and, hb, h2]; rfl)))
        rw [if_pos hlt, if_pos hb]
  have hall : xs.take xs.length = xs := List.take_length
  refine ⟨topoT_ok hm (by omega), domsTo_ok _ _, ?_, fun k hk => ?_, fun k hk => ?_, fun d k hk hd hb => ?_, fun d hd => ?_, fun k hk hb => ?_⟩
  · have : ∀ d, (domsTo (bitsLs xs) d).many = xs.length := by
      intro d
      induction d with
      | zero => simp [domsTo, RT.base]
      | succ d ih => rw [domsTo, mark_many, ih]
    exact this _
  · rw [hup.dom k hk, hall]; rfl
  · exact hup.on k hk
  · have := hone d k hk hd hb xs.length hd (Nat.le_refl _)
    rw [hall] at this; exact this
  · have hd : d < xs.length := hd
    have hx : xs.getD d 0 < 18446744073709551616 := hm _ (List.mem_of_getElem? (by rw [List.getD_eq_getElem?_getD, List.getElem?_eq_getElem hd]; rfl))
    have hne : xs.getD d 0 ≠ 0 := fun h => hgood d hd (.inl h)
    obtain ⟨k, hk, hb⟩ := some_bit hx hne
    refine bit_ne (k := k) ?_
    have h1 := hone d k hk hd hb xs.length hd (Nat.le_refl _)
    show (xs.getD d 0 &&& orTo xs xs.length).testBit k = true
    rw [Nat.testBit_and, hb, (hup.or k hk).2 (by omega)]; rfl
  · have := (hup.or k hk).1 hb
    rw [hall] at this; exact this
end Go.Proofs.YtpbnjifefoniiaaGreatDoor.TP
namespace Go.Proofs.YtpbnjifefoniiaaGreatDoor.TP
open Go Go.SE
variable {w0 : World} {l : List HP} {i j b : Nat} {r : Option (Nat × Nat)} {T : Topo} {t : RT}
structure Masks (w0 : World) (l : List HP) (i : Nat) (a : Option Addr) (xs : List Nat) : Prop where
  lt : ∀ m ∈ xs, m < 18446744073709551616
  sl : Sl w0 1 a (u64s xs) xs.length
  old : l[i]? = some (old w0)
  fits : xs.length * 8 ≤ 140737488351232
theorem Masks.cons {a : Option Addr} {xs : List Nat} (h : Masks w0 l i a xs) (p : HP) : Masks w0 (p :: l) (i + 1) a xs := ⟨h.lt, h.sl, h.old, h.fits⟩
theorem NewT2_any (xs : List Nat) (hm : ∀ m ∈ xs, m < 18446744073709551616) (h : l[i]? = some (rowC r T_mask_Set 1 (u64s xs) xs.length)) (hn : xs.length ≤ 1000) :
    Does cx F_topo_New [sv r xs.length] (S w0 l) fun v w => (∃ x : Nat × Option (Nat × Nat), v = .tuple #[ptr x.1, int 0] ∧ topoE xs = 0 ∧ S w0 (laid x.1 x.2 (topoT xs) l) w) ∨ (∃ _ : Unit, v = .tuple #[.pointer none, int (topoE xs)] ∧ topoE xs ≠ 0 ∧ S w0 l w) :=
  (NewT_any xs hm h hn).mono (fun _ h => h) fun v w h => by
    rcases h with ⟨h0, b, r', h1, h2⟩ | ⟨h0, h1, h2⟩
    · exact .inl ⟨(b, r'), h1, h0, h2⟩
    · exact .inr ⟨(), h1, h0, h2⟩
end Go.Proofs.YtpbnjifefoniiaaGreatDoor.TP
namespace Go.Proofs.YtpbnjifefoniiaaGreatDoor.TP
open Go Go.SE
variable {w0 : World} {l : List HP} {i j b : Nat} {r : Option (Nat × Nat)} {T : Topo} {t : RT}
end Go.Proofs.YtpbnjifefoniiaaGreatDoor.TP
namespace Go.Proofs.YtpbnjifefoniiaaGreatDoor.TP
open Go Go.SE
variable {w0 : World} {l : List HP} {i j b : Nat} {r : Option (Nat × Nat)} {T : Topo} {t : RT}
theorem Rel.online_ne (h : Rel T t) {d : Nat} (hd : d < T.doms.length) : T.online d ≠ 0 := by
  have := h.live d hd
  simpa [Topo.online, Topo.cores, Topo.there, hd] using this
theorem eff_lt (hT : T.Ok) (d : Int) (s : Nat) : T.eff d s < 18446744073709551616 := by
  unfold Topo.eff
  split
  · decide
  · split
    · exact hT.online d
    · exact and_lt (hT.online d)
end Go.Proofs.YtpbnjifefoniiaaGreatDoor.TP
open Go Go.SE
namespace Go.SE
variable {C : Cx} {n : Nat} {Q : Kont} {e : Env} {H : WP} {ops : Array Oper} {rest : List Oper} {o : Oper} {k : Env → WP → Prop} {w0 w : World} {l hs : List HP}
theorem eq_anyF {x : Exit} {Q : Post} (h : ∀ a w, Fits C.dfs n e a → H w → Q x a w) : EQ C n x (.any Q) e H := ⟨fun a w hf hw => h a w hf hw⟩
theorem eq_asg {β : Type} {E1 : β → Env} {A : β → List HP} {l0 : List HP} (z : β) (hd : C.dfs = []) (he : le (E1 z) e) (hw : ∀ w, S w0 l w → S w0 (A z ++ l0) w) : EQ C n .normal (.any fun t a w => t = .normal ∧ ∃ z, Fits [] n (E1 z) a ∧ S w0 (A z ++ l0) w) e (S w0 l) :=
  eq_anyF fun a w hf hw' => ⟨rfl, z, by rw [hd] at hf; exact hf.mono he, hw w hw'⟩
theorem ej_rangeFuncA {σ α β : Type} {g : Operand} {ps : Array Tmp} {assign body : Code} {gf : FuncId} {lb : List Value} (enc : α → List Value) (I : List α → σ → Prop) (Ix : Code → List α → σ → Prop) (Fin : List α → Prop) (Pm : List α → α → Prop) (L : σ → List HP) (s0 : σ) (E1 : α → β → Env) (A : α → β → List HP)
    (hg : ev e g = some (.func (.func gf) #[] lb.toArray)) (hr : Real C.P gf) (hro : C.rnd = none) (hQ : Q.flat = true) (hps : ∀ x, (enc x).length = ps.size) (hpn : ∀ p ∈ ps.toList, Nat.ble n p = false)
    (hiter : ∀ (y : Value) (a : Option Code → HP) (b : HP) (M : σ × Option Code → List HP), (∀ s, M s = a s.2 :: b :: L s.1) →
      (∀ (pre : List α) (x : α) (s : σ) (fr : List HP), Pm pre x → I pre s → Yld C y (enc x) (S w0 (fr ++ M (s, none))) fun t w => ∃ s', (if t then s'.2 = none ∧ I (pre ++ [x]) s'.1 else ∃ c, s'.2 = some c ∧ Ix c (pre ++ [x]) s'.1) ∧ S w0 (fr ++ M s') w) →
      Does C gf (y :: lb) (S w0 (M (s0, none))) fun _ w => ∃ s', ((s'.2 = none ∧ ∃ xs, Fin xs ∧ I xs s'.1) ∨ ∃ c pre, s'.2 = some c ∧ Ix c pre s'.1) ∧ S w0 (M s') w)
    (hassign : ∀ (m : Nat) (x : α) (l0 : List HP), EJ { C with rnd := some m, dfs := [] } n assign (.any fun t a w => t = .normal ∧ ∃ z, Fits [] n (E1 x z) a ∧ S w0 (A x z ++ l0) w) (parEnv ps.toList (enc x) ++ e) (S w0 l0))
    (hbody : ∀ (m : Nat) (pre : List α) (x : α) (z : β) (s : σ) (fr : List HP), Pm pre x → I pre s →
      EJ { C with rnd := some m, dfs := [] } n body (.any fun t _ w => ∃ s', (match t with | .normal => I (pre ++ [x]) s' | .ret => Ix .ret (pre ++ [x]) s' | .exit i => Ix (.exit i) (pre ++ [x]) s' | _ => False) ∧ S w0 (fr ++ L s') w) (E1 x z) (S w0 (A x z ++ (fr ++ L s))))
    (hdone : ∀ (D : Nat) (xs : List α) (s : σ), Fin xs → I xs s → EQ { C with dfs := markOf D :: C.dfs } n .normal Q e (S w0 (dfO D :: L s)))
    (hstop : ∀ (D : Nat) (c : Code) (pre : List α) (s : σ), Ix c pre s → EJ { C with dfs := markOf D :: C.dfs } n c Q e (S w0 (dfO D :: L s))) :
    EJ C n (.rangeFunc g ps assign body) Q e (S w0 (L s0)) := by
  refine ⟨fun a w hf hw => ?_⟩
  refine wpIn_rangeFunc fun fn hfn => ?_
  have hF : C.F = Fr none := by rw [Cx.F, hro]
  have hrd : C.F.round = none := by rw [hF]; rfl
  rw [hrd]
  obtain ⟨rec, hrec⟩ : ∃ rec : LoopState → Option Code → Loop, rec = fun st pe => { state := st, pending := pe, fn, tmps := a.tmps, params := ps, assign, body, defers := w.heap.size } := ⟨_, rfl⟩
  obtain ⟨W1, hW1⟩ : ∃ W1, (w.alloc (.deferred (some []))).alloc (.loop (rec .ready none)) = W1 := ⟨_, rfl⟩
  have hw1 : S w0 (loopO (w.heap.size + 1) rec none :: dfO w.heap.size :: L s0) W1 := by
    have h1 := hw.alloc (.deferred (some []))
    have h2 := h1.alloc (.loop (rec .ready none))
    rw [hW1] at h2
    rw [show (w.alloc (.deferred (some []))).heap.size = w.heap.size + 1 from World.size_alloc ..] at h2
    exact h2
  refine ⟨w.heap.size + 1, [markOf w.heap.size], W1, { target := .fn (.func gf) lb.toArray, args := #[.func (.yield (w.heap.size + 1)) #[] #[]] }, W1, gf,
    #[.func (.yield (w.heap.size + 1)) #[] #[]] ++ lb.toArray, W1, ?_, ?_, ?_, ?_, fun h => ?_, ?_⟩
  · rw [← hW1, hrec]; exact run_enterLoop_outer _ _ _ _ _
  · simp only [resolve, hf.ev hg]
    simp [go_sem]
  · intro f' hf'; exact trivial
  · obtain ⟨fn', h1, h2, h3⟩ := hr
    simp [invoke, go_sem, callFunc_run h1 h2 h3]
  · rw [hF] at h; cases h
  · rw [hF, show #[Value.func (Fn.yield (w.heap.size + 1)) #[] #[]] ++ lb.toArray = (Value.func (Fn.yield (w.heap.size + 1)) #[] #[] :: lb).toArray by simp]
    refine CallsIn.mono (calls_in (m := 0) (hiter (.func (.yield (w.heap.size + 1)) #[] #[]) (loopO (w.heap.size + 1) rec) (dfO w.heap.size) (fun s => loopO (w.heap.size + 1) rec s.2 :: dfO w.heap.size :: L s.1) (fun s => rfl) ?_ W1 hw1)) ?_
    ·
      intro pre x s fr hpm hI
      intro r ds n' Q' e' k o c d xo ho hc hx ha hd hn hk
      refine ⟨fun K hK a' w' hf' hw' => ⟨fun _ _ => trivial, ?_⟩⟩
      have hfl : (fr ++ loopO (w.heap.size + 1) rec none :: dfO w.heap.size :: L s)[fr.length]? = some (pt (w.heap.size + 1) (.loop (rec .ready none))) := by simp [loopO]
      have hL := hw'.get hfl
      have hsz : (enc x).toArray.size = ps.size := by simp [hps]
      have hy := run_yield (P := C.P) (args := (enc x).toArray) hL (by rw [hrec]; exact hsz)
      have hex : (execOp a'.eval o).run C.P w' = .ok (.round (w.heap.size + 1) fn ((ps.zip (enc x).toArray).foldl (fun t (p, v) => t.setIfInBounds p v) a.tmps) assign body) w' := by
        unfold execOp
        rw [ho]
        obtain ⟨cl, ags, ts⟩ := c
        have hc' : cl = .value xo := hc
        subst hc'
        have hargs := evs_arr hf' ha
        simp only at hargs
        simp only [resolve, Sem.run_bind, hf'.ev hx, hargs, Deferred.ofValue, Sem.run_pure, Result.andThen_ok, invoke]
        rw [hrec] at hy
        simp at hy ⊢
        exact hy
      rw [sem_at _ hex (by simp), Oper.uponIn_round]
      refine ⟨fun h => (by cases h), RoundIn.mono (R := fun t w'' => ∃ b, t = .returned (.bool b) ∧ ∃ s' : σ × Option Code, (if b then s'.2 = none ∧ I (pre ++ [x]) s'.1 else ∃ c, s'.2 = some c ∧ Ix c (pre ++ [x]) s'.1) ∧ S w0 (fr ++ (loopO (w.heap.size + 1) rec s'.2 :: dfO w.heap.size :: L s'.1)) w'') (roundIn_of_wpIn (F := Fr r) trivial ?_) ?_⟩
      · have hset : (fr ++ loopO (w.heap.size + 1) rec none :: dfO w.heap.size :: L s).set fr.length (pt (w.heap.size + 1) (.loop { rec .ready none with state := .busy })) = (fr ++ [pt (w.heap.size + 1) (.loop { rec .ready none with state := .busy }), dfO w.heap.size]) ++ L s := by simp
        have hpe : ∀ (qs : List Nat) (vs : List Value) (T : Array Value), (∀ p ∈ qs, Nat.ble n p = false) → Fits [] n e { tmps := T, defers := [] } →
            Fits [] n (parEnv qs vs ++ e) { tmps := (qs.zip vs).foldl (fun t (p, v) => t.setIfInBounds p v) T, defers := [] } := by
          intro qs
          suffices hgen : ∀ (qs : List Nat) (vs : List Value) (T : Array Value) (e1 : Env), (∀ p ∈ qs, Nat.ble n p = false) → Fits [] n e1 { tmps := T, defers := [] } →
            Fits [] n (parEnv qs vs ++ e1) { tmps := (qs.zip vs).foldl (fun t (p, v) => t.setIfInBounds p v) T, defers := [] } from fun vs T => hgen qs vs T e
          intro qs
          induction qs with
          | nil => intro vs T e1 _ h; simpa [parEnv] using h
          | cons p qs ih =>
            intro vs T e1 hp h
            cases vs with
            | nil => simpa [parEnv] using h
            | cons v vs =>
              simp only [parEnv, List.zip_cons_cons, List.foldl_cons, List.append_assoc, List.cons_append, List.nil_append]
              exact ih vs _ _ (fun q hq => hp q (by simp [hq])) (h.put (hp p (by simp)) v)
        have hfit := hpe ps.toList (enc x) a.tmps hpn ⟨hf.size, rfl, hf.slot⟩
        have hfold : (ps.toList.zip (enc x)).foldl (fun t (p, v) => t.setIfInBounds p v) a.tmps = (ps.zip (enc x).toArray).foldl (fun t (p, v) => t.setIfInBounds p v) a.tmps := by
          rw [← Array.foldl_toList, Array.toList_zip]
        rw [hfold] at hfit
        refine wpIn_mono ((hassign (w.heap.size + 1) x (fr ++ loopO (w.heap.size + 1) rec none :: dfO w.heap.size :: L s)).run _ _ hfit hw') ?_
        rintro t1 a1 w1 ⟨rfl, z, hfit1, hw1⟩
        have hflA : (A x z ++ (fr ++ loopO (w.heap.size + 1) rec none :: dfO w.heap.size :: L s))[(A x z).length + fr.length]? = some (pt (w.heap.size + 1) (.loop (rec .ready none))) := by
          rw [← List.append_assoc, List.getElem?_append_right (by simp)]; simp [loopO]
        have hL1 := hw1.get hflA
        refine ⟨_, run_beginRound hL1 (by rw [hrec]), ?_⟩
        have hw2 := hw1.put (.loop { rec .ready none with state := .busy }) hflA
        have hsetA : (A x z ++ (fr ++ loopO (w.heap.size + 1) rec none :: dfO w.heap.size :: L s)).set ((A x z).length + fr.length) (pt (w.heap.size + 1) (.loop { rec .ready none with state := .busy })) = A x z ++ ((fr ++ [pt (w.heap.size + 1) (.loop { rec .ready none with state := .busy }), dfO w.heap.size]) ++ L s) := by
          rw [List.set_append_right _ _ (by omega), show (A x z).length + fr.length - (A x z).length = fr.length by omega, hset]
        rw [hsetA] at hw2
        refine wpIn_mono ((hbody (w.heap.size + 1) pre x z s _ hpm hI).run _ _ hfit1 hw2) ?_
        intro t a3 w3 ht
        obtain ⟨s', h1, h2⟩ := ht
        have hfl3 : (fr ++ [pt (w.heap.size + 1) (.loop { rec .ready none with state := .busy }), dfO w.heap.size] ++ L s')[fr.length]? = some (pt (w.heap.size + 1) (.loop { rec .ready none with state := .busy })) := by simp
        have hL3 := h2.get hfl3
        have fin : ∀ (jump : Option Code), (Instr.endRound (w.heap.size + 1) jump).run C.P w3 = .ok (.bool jump.isNone) (w3.putObj (w.heap.size + 1) (.loop (rec (if jump.isNone then .ready else .done) jump))) ∧
            S w0 (fr ++ (loopO (w.heap.size + 1) rec jump :: dfO w.heap.size :: L s')) (w3.putObj (w.heap.size + 1) (.loop (rec (if jump.isNone then .ready else .done) jump))) := by
          intro jump
          constructor
          · have := run_endRound (P := C.P) jump hL3
            rw [hrec] at this ⊢
            exact this
          · have h3 := h2.put (.loop (rec (if jump.isNone then .ready else .done) jump)) hfl3
            have : (fr ++ [pt (w.heap.size + 1) (.loop { rec .ready none with state := .busy }), dfO w.heap.size] ++ L s').set fr.length (pt (w.heap.size + 1) (.loop (rec (if jump.isNone then .ready else .done) jump))) = fr ++ (loopO (w.heap.size + 1) rec jump :: dfO w.heap.size :: L s') := by simp [loopO]
            rw [this] at h3; exact h3
        cases t with
        | normal => exact ⟨_, _, (fin none).1, true, rfl, (s', none), by simpa using h1, (fin none).2⟩
        | ret => exact ⟨_, _, (fin (some .ret)).1, false, rfl, (s', some .ret), by simpa using h1, (fin (some .ret)).2⟩
        | exit i => exact ⟨_, _, (fin (some (.exit i))).1, false, rfl, (s', some (.exit i)), by simpa using h1, (fin (some (.exit i))).2⟩
        | goto t => exact h1.elim
        | panic ch => exact h1.elim
        | outgrown => exact h1.elim
      · rintro t w'' ⟨b, rfl, hR⟩
        simp only [hd]
        exact hK _ _ (hk b) _ _ (hf'.put hn _) hR
    · rintro t w2 ⟨v, rfl, s', hs, hw2⟩
      have hfl : (loopO (w.heap.size + 1) rec s'.2 :: dfO w.heap.size :: L s'.1)[0]? = some (pt (w.heap.size + 1) (.loop (rec (if s'.2.isNone then .ready else .done) s'.2))) := rfl
      have hL := hw2.get hfl
      have hend := run_endLoop (P := C.P) hL (by rw [hrec]; cases s'.2 <;> simp)
      have hw3 := (hw2.put (.loop { rec (if s'.2.isNone then .ready else .done) s'.2 with state := .exhausted }) hfl).erase 0
      refine ⟨_, _, hend, ?_⟩
      have hfit : Fits (markOf w.heap.size :: C.dfs) n e { a with defers := [markOf w.heap.size] ++ a.defers } := ⟨hf.size, by simp [hf.defers], hf.slot⟩
      rcases hs with ⟨hn, xs, hfin, hI⟩ | ⟨c, pre, hc, hI⟩
      · have h1 : (rec (if s'.2.isNone then .ready else .done) s'.2).pending = none := by rw [hrec, hn]
        have := (hdone w.heap.size xs s'.1 hfin hI).run _ _ hfit hw3
        rw [post_flat C n _ Q hQ] at this
        split
        · exact this
        · rename_i c heq; rw [h1] at heq; cases heq
      · have h1 : (rec (if s'.2.isNone then .ready else .done) s'.2).pending = some c := by rw [hrec, hc]
        have := (hstop w.heap.size c pre s'.1 hI).run _ _ hfit hw3
        rw [post_flat C n _ Q hQ] at this
        have h2 : ({ C with dfs := markOf w.heap.size :: C.dfs } : Cx).F = Fr none := by simp only [Cx.F, hro]
        rw [h2] at this
        split
        · rename_i heq; rw [h1] at heq; cases heq
        · rename_i c' heq
          rw [h1] at heq
          cases heq
          exact this
theorem eh_le {I : WP} {fuel : Nat} {listed : List Bool} {e' : Env} (hle : le e' e) (h : EH C n I fuel listed ops Q e' H) : EH C n I fuel listed ops Q e H := ⟨fun a w hf hw => h.run a w (hf.mono hle) hw⟩
structure EHA (C : Cx) (n : Nat) (I : WP) (j dj t : Nat) (z : List Value) (fuel : Nat) (listed : List Bool) (ops : Array Oper) (Q : Kont) (e : Env) (w0 : World) (l : List HP) : Prop where
  no : EH C n I (fuel + 1) listed ops Q e (S w0 l)
  yes : ∀ b, EH C n I fuel (listed.set j true) ops Q ((dj, .pointer (some ⟨b, 0, none⟩)) :: e) (S w0 (cells b t z :: l))
theorem wa0 {I : WP} {fuel : Nat} {listed : List Bool} (j : Nat) {dj t : Nat} {oj : Oper} {tj : TI} (h : EHA C n I j dj t tj.zero.cells.toList fuel listed ops Q e w0 l)
    (_hj : ops[j]? = some oj := by exact rfl) (_hoj : oj.op = .alloc t := by exact rfl) (_hdj : oj.dst = some dj := by exact rfl) (_htj : C.L.ti t = some tj := by exact rfl) : EH C n I (fuel + 1) listed ops Q e (S w0 l) := h.no
theorem le_swap {a b : Nat × Value} (h : Nat.beq a.1 b.1 = false) : le (a :: b :: e) (b :: a :: e) := by
  intro t v ht
  simp only [get] at ht ⊢
  have hne : a.1 ≠ b.1 := fun h' => by rw [h'] at h; simp at h
  have e1 : Nat.beq b.1 a.1 = false := by
    cases hb : Nat.beq b.1 a.1 with
    | false => rfl
    | true => exact absurd (Nat.eq_of_beq_eq_true hb).symm hne
  by_cases h1 : a.1 = t
  · subst h1
    rw [e1]
    have e2 : Nat.beq a.1 a.1 = true := Nat.beq_refl _
    rw [e2] at ht ⊢
    exact ht
  · have h2 : Nat.beq a.1 t = false := by
      cases hb : Nat.beq a.1 t with
      | false => rfl
      | true => exact absurd (Nat.eq_of_beq_eq_true hb) h1
    rw [h2] at ht ⊢
    exact ht
theorem wga {I : WP} {fuel : Nat} {listed : List Bool} {F : Hp} {j dj t : Nat} {oj : Oper} {tj : TI} (i : Nat) {oi : Oper} (hii : ops[i]? = some oi) {c : Call} {d f k : Nat} {first capt args argv : List Value} {β : Type} {V : β → Value} {φ : Hp → β → Prop} (hs : Giv C f argv w0 F V φ) (hr : Real C.P f)
    (h : ∀ G v, Up F G → φ G v → (∀ w, S w0 (l.set k (frz G)) w → I w) ∧ EHA C n I j dj t tj.zero.cells.toList fuel (listed.set i true) ops Q ((d, V v) :: e) w0 (l.set k (frz G)))
    (hI : ∀ w, S w0 l w → I w := by assumption) (hrs : (Region.ready .any ops listed.toArray).all (fun x => x == i || x == j) = true := by kernel_rfl) (hne : (Region.ready .any ops listed.toArray).isEmpty = false := by kernel_rfl) (hrd2 : Region.ready .any ops (listed.set j true).toArray = [i] := by kernel_rfl) (hij : Nat.beq i j = false := by exact rfl)
    (hj : ops[j]? = some oj := by exact rfl) (hoj : oj.op = .alloc t := by exact rfl) (hdj : oj.dst = some dj := by exact rfl) (hnj : Nat.ble n dj = false := by exact rfl) (htj : C.L.ti t = some tj := by exact rfl) (hgj : want ops e oj = some true := by exact rfl)
    (hg : want ops e oi = some true := by exact rfl) (hg' : ∀ b, want ops ((dj, .pointer (some ⟨b, 0, none⟩)) :: e) oi = some true := by exact fun _ => rfl) (ho : oi.op = .call c := by exact rfl) (hd : oi.dst = some d := by exact rfl) (hn : Nat.ble n d = false := by exact rfl) (hdd : Nat.beq dj d = false := by exact rfl) (hc : callee e c.callee = some (f, first, capt) := by exact rfl) (ha : evs e c.args.toList = some args := by exact rfl)
    (hc' : ∀ b, callee ((dj, .pointer (some ⟨b, 0, none⟩)) :: e) c.callee = some (f, first, capt) := by exact fun _ => rfl) (ha' : ∀ b, evs ((dj, .pointer (some ⟨b, 0, none⟩)) :: e) c.args.toList = some args := by exact fun _ => rfl) (hargs : first ++ args ++ capt = argv := by exact rfl) (hi : l[k]? = some (frz F) := by first | exact at0 | exact at1 | exact at2 | exact at3 | exact at4 | exact at5 | exact at6 | exact at7 | exact at8 | exact at9 | exact at10 | exact at11 | exact at12 | assumption | exact nx (by assumption) | exact nx (nx (by assumption)) | exact nx (nx (nx (by assumption)))) :
    EHA C n I j dj t tj.zero.cells.toList (fuel + 1) listed ops Q e w0 l := by
  subst hargs
  have hne2 : i ≠ j := fun e => by rw [e] at hij; simp at hij
  have hyes : ∀ b, EH C n I (fuel + 1) (listed.set j true) ops Q ((dj, .pointer (some ⟨b, 0, none⟩)) :: e) (S w0 (cells b t tj.zero.cells.toList :: l)) := fun b => by
    refine wx i hii (does_at (i := k + 1) hs (by simpa using hi)) hr (fun x hx => ⟨fun w hw => (h x.1 x.2 hx.1 hx.2).1 w ?_, ?_⟩) hrd2 (hg' b) ho hd hn (hc' b) (ha' b) rfl
    · exact S.erase (i := 0) (by simpa using hw)
    · have h2 := (h x.1 x.2 hx.1 hx.2).2.yes b
      rw [List.set_comm _ _ hne2] at h2
      exact eh_le (le_swap hdd) h2
  refine ⟨eh_ways _ rfl hne ?_, hyes⟩
  have hI2 : ∀ b w, S w0 (cells b t tj.zero.cells.toList :: l) w → I w := fun b w hw => hI w (hw.erase 0)
  have key : ∀ rs : List Nat, (∀ x ∈ rs, x = i ∨ x = j) → HWays C n I (fuel + 1) listed ops Q e (S w0 l) rs := by
    intro rs
    induction rs with
    | nil => intro _; exact .nil
    | cons x rs ih =>
      intro hx
      refine .cons ?_ (ih fun y hy => hx y (by simp [hy]))
      rcases hx x (by simp) with rfl | rfl
      · refine hway hii hg (eo_callx ho hd hn hc ha hr (does_at hs hi) fun x hx => ⟨(h x.1 x.2 hx.1 hx.2).1, (h x.1 x.2 hx.1 hx.2).2.no⟩)
      · exact hway hj hgj (eo_alloc hoj hdj hnj htj fun b => ⟨hI2 b, hyes b⟩)
  refine key _ fun x hx => ?_
  have := List.all_eq_true.1 hrs x hx
  simpa using this
theorem wad {I : WP} {fuel : Nat} {listed : List Bool} {j dj t : Nat} {oj : Oper} {tj : TI} (h : ∀ b, EH C n I fuel (listed.set j true) ops Q ((dj, .pointer (some ⟨b, 0, none⟩)) :: e) (S w0 (cells b t tj.zero.cells.toList :: l)))
    (hI : ∀ w, S w0 l w → I w := by assumption) (hrd : Region.ready .any ops listed.toArray = [j] := by kernel_rfl) (hj : ops[j]? = some oj := by exact rfl) (hoj : oj.op = .alloc t := by exact rfl) (hdj : oj.dst = some dj := by exact rfl) (hnj : Nat.ble n dj = false := by exact rfl) (htj : C.L.ti t = some tj := by exact rfl) (hgj : want ops e oj = some true := by exact rfl) :
    EHA C n I j dj t tj.zero.cells.toList fuel listed ops Q e w0 l :=
  ⟨eh_way j hrd (hway hj hgj (eo_alloc hoj hdj hnj htj fun b => ⟨fun w hw => hI w (hw.erase 0), h b⟩)), h⟩
theorem wak {I : WP} {fuel : Nat} {listed : List Bool} {j dj t : Nat} {z : List Value} (i : Nat) {d : Nat} {v : Value} {oi : Oper} (h : EHA C n I j dj t z fuel (listed.set i true) ops (.calm Q) ((d, v) :: e) w0 l) (hI : ∀ w, S w0 l w → I w := by assumption) (hi : ops[i]? = some oi := by exact rfl) (hs : Region.noSelect ops = true := by kernel_rfl)
    (hfr : Region.free .any ops listed.toArray i = true := by kernel_rfl) (hr : (Region.ready .any ops listed.toArray).contains i = true := by kernel_rfl) (hfr2 : Region.free .any ops (listed.set j true).toArray i = true := by kernel_rfl) (hr2 : (Region.ready .any ops (listed.set j true).toArray).contains i = true := by kernel_rfl) (hij : Nat.beq i j = false := by exact rfl)
    (hg : want ops e oi = some true := by exact rfl) (hv : pureOp C.L e oi.op = some v := by exact rfl) (hg2 : ∀ b, want ops ((dj, .pointer (some ⟨b, 0, none⟩)) :: e) oi = some true := by exact fun _ => rfl) (hv2 : ∀ b, pureOp C.L ((dj, .pointer (some ⟨b, 0, none⟩)) :: e) oi.op = some v := by exact fun _ => rfl) (hd : oi.dst = some d := by exact rfl) (hn : Nat.ble n d = false := by exact rfl) (hdd : Nat.beq dj d = false := by exact rfl) :
    EHA C n I j dj t z (fuel + 1) listed ops (.calm Q) e w0 l := by
  have hne2 : i ≠ j := fun e => by rw [e] at hij; simp at hij
  refine ⟨tk i h.no hI hi hs hfr hr hg hv hd hn, fun b => ?_⟩
  refine tk i ?_ (fun w hw => hI w (hw.erase 0)) hi hs hfr2 hr2 (hg2 b) (hv2 b) hd hn
  have h2 := h.yes b
  rw [List.set_comm _ _ hne2] at h2
  exact eh_le (le_swap hdd) h2
theorem wgl {I : WP} {fuel : Nat} {listed : List Bool} {F : Hp} {dj t b T q : Nat} {oj : Oper} {tj : TI} {x : Operand} {cs : List Value} (i j : Nat) {oi : Oper} (hii : ops[i]? = some oi) (hjj : ops[j]? = some oj) {c : Call} {d f k : Nat} {first capt args argv : List Value} {β : Type} {V : β → Value} {φ : Hp → β → Prop} (hs : Giv C f argv w0 F V φ) (hr : Real C.P f)
    (h : ∀ G v, Up F G → φ G v → (∀ w, S w0 (l.set k (frz G)) w → I w) ∧ EH C n I fuel ((listed.set j true).set i true) ops Q ((d, V v) :: (dj, .agg cs.toArray) :: e) (S w0 (l.set k (frz G))))
    (hI : ∀ w, S w0 l w → I w := by assumption) (hrs : (Region.ready .any ops listed.toArray).all (fun x => x == i || x == j) = true := by kernel_rfl) (hne : (Region.ready .any ops listed.toArray).isEmpty = false := by kernel_rfl) (hrd2 : Region.ready .any ops (listed.set j true).toArray = [i] := by kernel_rfl) (hrd1 : Region.ready .any ops (listed.set i true).toArray = [j] := by kernel_rfl) (hij : Nat.beq i j = false := by exact rfl)
    (hoj : oj.op = .load t x := by exact rfl) (hdj : oj.dst = some dj := by exact rfl) (hnj : Nat.ble n dj = false := by exact rfl) (hxj : ev e x = some (.pointer (some ⟨b, 0, none⟩)) := by exact rfl) (htj : C.L.ti t = some tj := by exact rfl) (hkj : tj.kind.agg = true := by exact rfl) (hgj : want ops e oj = some true := by exact rfl)
    (hg : want ops e oi = some true := by exact rfl) (hg' : want ops ((dj, .agg cs.toArray) :: e) oi = some true := by exact rfl) (ho : oi.op = .call c := by exact rfl) (hd : oi.dst = some d := by exact rfl) (hn : Nat.ble n d = false := by exact rfl) (hdd : Nat.beq dj d = false := by exact rfl) (hgj' : ∀ v, want ops ((d, V v) :: e) oj = some true := by exact fun _ => rfl) (hxj' : ∀ v, ev ((d, V v) :: e) x = some (.pointer (some ⟨b, 0, none⟩)) := by exact fun _ => rfl) (hc : callee e c.callee = some (f, first, capt) := by exact rfl) (ha : evs e c.args.toList = some args := by exact rfl)
    (hc' : callee ((dj, .agg cs.toArray) :: e) c.callee = some (f, first, capt) := by exact rfl) (ha' : evs ((dj, .agg cs.toArray) :: e) c.args.toList = some args := by exact rfl) (hargs : first ++ args ++ capt = argv := by exact rfl) (hi : l[k]? = some (frz F) := by first | exact at0 | exact at1 | exact at2 | exact at3 | exact at4 | exact at5 | exact at6 | exact at7 | exact at8 | exact at9 | exact at10 | exact at11 | exact at12 | assumption | exact nx (by assumption) | exact nx (nx (by assumption)) | exact nx (nx (nx (by assumption))))
    (hq : l[q]? = some (cells b T cs) := by first | exact at0 | exact at1 | exact at2 | exact at3 | exact at4 | exact at5 | exact at6 | exact at7 | exact at8 | exact at9 | exact at10 | exact at11 | exact at12 | exact at13 | exact at14 | exact at15) (hqk : k ≠ q := by omega) (hl : cs.length = tj.size := by exact rfl) :
    EH C n I (fuel + 2) listed ops Q e (S w0 l) := by
  subst hargs
  have hne2 : i ≠ j := fun e => by rw [e] at hij; simp at hij
  refine eh_ways _ rfl hne ?_
  have key : ∀ rs : List Nat, (∀ x ∈ rs, x = i ∨ x = j) → HWays C n I (fuel + 1) listed ops Q e (S w0 l) rs := by
    intro rs
    induction rs with
    | nil => intro _; exact .nil
    | cons x rs ih =>
      intro hx
      refine .cons ?_ (ih fun y hy => hx y (by simp [hy]))
      rcases hx x (by simp) with rfl | rfl
      · refine hway hii hg (eo_callx ho hd hn hc ha hr (does_at hs hi) fun x hx => ⟨(h x.1 x.2 hx.1 hx.2).1, ?_⟩)
        refine eh_way j hrd1 (hway hjj (hgj' _) (eo_ldW q hoj hdj hnj (hxj' _) htj hkj (by rw [List.getElem?_set_ne hqk]; exact hq) hl ⟨(h x.1 x.2 hx.1 hx.2).1, ?_⟩))
        rw [List.set_comm _ _ hne2]
        exact eh_le (le_swap (by cases hb : Nat.beq d dj with
          | false => rfl
          | true => have := Nat.eq_of_beq_eq_true hb; rw [this] at hdd; simp at hdd)) (h x.1 x.2 hx.1 hx.2).2
      · refine hway hjj hgj (eo_ldW q hoj hdj hnj hxj htj hkj hq hl ⟨hI, ?_⟩)
        exact eh_way i hrd2 (hway hii hg' (eo_callx ho hd hn hc' ha' hr (does_at hs hi) fun x hx => h x.1 x.2 hx.1 hx.2))
  refine key _ fun x hx => ?_
  have := List.all_eq_true.1 hrs x hx
  simpa using this
theorem ej_fin {α : Type} {i : Nat} {c : Code} (φ : α → Prop) (E0 : α → Env) (H0 : α → WP) (h1 : (∀ a, φ a → EQ C n .normal Q (E0 a) (H0 a)) → EJ C n c (.block i (.stop Q)) e H) (h2 : ∀ a, φ a → EQ C n .normal Q (E0 a) (H0 a)) : EJ C n c (.block i Q) e H := ⟨(h1 h2).run⟩
theorem ej_opn {c : Code} {i : Nat} {p : HP} {α : Type} (qs : α → List HP) (hi : l[i]? = some p) (hp : ∀ h, p h → ∃ x, stars (qs x) h) (h : ∀ x, EJ C n c Q e (S w0 (qs x ++ l.eraseIdx i))) : EJ C n c Q e (S w0 l) := ⟨fun a w hf hw => let ⟨x, hx⟩ := hw.opn hi hp; (h x).run a w hf hx⟩
end Go.SE
open Go Go.SE
open Go.ChangeMaps (setBlock)
open Go.MapKept
namespace Go.SE
variable {C : Cx} {n : Nat} {Q : Kont} {e : Env} {H : WP} {ops : Array Oper} {rest : List Oper} {o : Oper} {k : Env → WP → Prop} {w0 w : World} {l hs : List HP}
theorem rLenv {I : WP} {x : Operand} {a : Option Addr} {c t m : Nat} {tl : TI} {E : TypeId} (ho : o.op = .call { callee := .builtin .len, args := #[x], argTypes := #[t] } := by exact rfl) (hx : ev e x = some (.slice a m c) := by exact rfl) (ht : C.L.ti t = some tl := by exact rfl) (hk : tl.kind = .slice E := by exact rfl) : ER C n o e I (.int .i64 (m : Int)) := by
  refine ⟨fun ac w hf hw => ?_⟩
  unfold execOp
  simp only [ho, resolve, invoke, builtin, Sem.run_bind, Sem.run_pure, Result.andThen_ok, List.map_toArray, List.map_cons, List.map_nil, hf.ev hx]
  simp [Builtin.len_, underlying_run (kind_slice (C.ok _ _ ht) hk), goInt]
theorem rMin {I : WP} {x y : Operand} {t t' : Nat} {kd kd' : IntKind} {a b : Int} (ho : o.op = .call { callee := .builtin .min, args := #[x, y], argTypes := #[t, t'] } := by exact rfl) (hx : ev e x = some (.int kd a) := by exact rfl) (hy : ev e y = some (.int kd' b) := by exact rfl) : ER C n o e I (.int kd (if b < a then b else a)) := by
  refine ⟨fun ac w hf hw => ?_⟩
  unfold execOp
  simp only [ho, resolve, invoke, builtin, Sem.run_bind, Sem.run_pure, Result.andThen_ok, List.map_toArray, List.map_cons, List.map_nil, hf.ev hx, hf.ev hy, run_min_int2]
theorem filter_set_skip {α : Type} (q : α → Bool) (b : α) (hb : q b = false) : ∀ (L : List α) (j : Nat) (a : α), L[j]? = some a → q a = false → (L.set j b).filter q = L.filter q
  | [], _, _, h, _ => by simp at h
  | x :: L, 0, a, h, ha => by
    have e : x = a := by simpa using h
    subst e
    simp [ha, hb]
  | x :: L, j + 1, a, h, ha => by
    simp only [List.set_cons_succ, List.filter_cons, filter_set_skip q b hb L j a (by simpa using h) ha]
theorem modify_set {α : Type} {L : List α} {j : Nat} {a : α} (f : α → α) (h : L[j]? = some a) : L.modify j f = L.set j (f a) := by
  obtain ⟨hlt, rfl⟩ := List.getElem?_eq_some_iff.1 h
  refine List.ext_getElem (by simp) fun i h1 h2 => ?_
  rw [List.getElem_modify, List.getElem_set]
  split
  · rename_i e; subst e; rfl
  · rfl
theorem eo_mapsetR (i : Nat) {b r t kt et : Nat} {x y z : Operand} {K : IntKind} {kvs left : List (Int × Value)} {p : Int × Value} {tl tk : TI} {v : Value} (ho : o.op = .mapUpdate t x y z) (hd : o.dst = none)
    (hx : ev e x = some (.map (some b))) (hy : ev e y = some (.int K p.1)) (hz : ev e z = some v) (ht : C.L.ti t = some tl) (hk : tl.kind = .map kt et) (htk : C.L.ti kt = some tk) (hkk : tk.kind = .int K)
    (hi : l[i]? = some (rangeO b r K kvs left (some p))) (h : k e (S w0 (l.set i (rangeO b r K (kput kvs p.1 v) left (some (p.1, v)))))) : EO C n o Q e (S w0 l) k := by
  refine eo_skip hd (S w0 (l.set i (rangeO b r K (kput kvs p.1 v) left (some (p.1, v))))) (fun ac w hf hw => ?_) h
  obtain ⟨es, clock, seen, hS, hE, hl, hc, hb, hr⟩ := range_open hw hi
  have hil := (List.getElem?_eq_some_iff.1 hi).1
  have hdk := kind_int (C.ok _ _ htk) hkk
  have hbr : b ≠ r := fun e => by subst e; rw [hb] at hr; cases hr
  obtain ⟨en, hen, ⟨s, hs⟩, hk1, hv1⟩ := hc p rfl
  unfold execOp
  rw [ho]
  simp only [hf.ev hx, hf.ev hy, hf.ev hz, Instr.mapUpdate, Sem.run_bind, run_underlying (kind_map (C.ok _ _ ht) hk), Result.andThen_ok, getObj, Sem.run, hb]
  have hck : (Instr.checkKey false 10000 kt (.int K p.1)).run C.P w = .ok () w := run_checkKey (d := .int K) (k := .int K p.1) hdk rfl _ 9999
  rw [hck]
  simp only [Result.andThen_ok]
  rcases find_ents hdk hE p.1 w with ⟨_, h2, _⟩ | ⟨j, q, en2, h1, h2, h3, h4, h5, h6, _, h7⟩
  · exfalso
    obtain ⟨j, hj⟩ := List.getElem?_of_mem hen
    have h3 : (es.map (fun e => (e.key, e.val)))[j]? = some (en.key, en.val) := by rw [List.getElem?_map, hj]; rfl
    rw [hE.reads, List.getElem?_map] at h3
    cases hq : kvs[j]? with
    | none => rw [hq] at h3; simp at h3
    | some q =>
      rw [hq] at h3
      simp only [Option.map_some, Option.some.injEq, Prod.mk.injEq] at h3
      have e1 : q.1 = p.1 := by have := h3.1.trans hk1; simpa using this
      have h4 := List.find?_eq_none.1 (show kvs.find? (fun q => decide (q.1 = p.1)) = none by simpa [kget] using h2) q (List.mem_of_getElem? hq)
      simp [e1] at h4
  · rw [h1]
    have hes : es.modify j (fun e => { e with key := .int K q.1, val := v }) = es.set j { en2 with key := .int K q.1, val := v } := modify_set _ h2
    have hE2 := hE.modify h5 h2 v (by rw [h6]; exact h7)
    have hee : en2 = en := by
      obtain ⟨j', hj'⟩ := List.getElem?_of_mem hen
      have g1 : (es.map (fun e => (e.key, e.val)))[j']? = some (en.key, en.val) := by rw [List.getElem?_map, hj']; rfl
      rw [hE.reads, List.getElem?_map] at g1
      cases hq' : kvs[j']? with
      | none => rw [hq'] at g1; simp at g1
      | some q' =>
        rw [hq'] at g1
        simp only [Option.map_some, Option.some.injEq, Prod.mk.injEq] at g1
        have e1 : q'.1 = p.1 := by have := g1.1.trans hk1; simpa using this
        have hlt := (List.getElem?_eq_some_iff.1 h5).1
        have hlt' := (List.getElem?_eq_some_iff.1 hq').1
        have : j = j' := by
          rcases Nat.decEq j j' with hne | he
          · exfalso
            have := nodup_ne hE.keys (i := j) (j := j') (by simpa using hlt) (by simpa using hlt') hne
            apply this
            have a1 := (List.getElem?_eq_some_iff.1 h5).2
            have a2 := (List.getElem?_eq_some_iff.1 hq').2
            simp only [List.getElem_map, a1, a2, h6, e1]
          · exact he
        subst this
        rw [h2] at hj'
        exact Option.some.inj hj'
    subst hee
    have hseen : (!seen.contains en2.born) = false := by rw [hs]; simp
    have hfl : (es.set j { en2 with key := .int K q.1, val := v }).filter (fun e => !seen.contains e.born) = es.filter (fun e => !seen.contains e.born) := filter_set_skip (fun e : MapEntry => !seen.contains e.born) { en2 with key := .int K q.1, val := v } hseen es j en2 h2 hseen
    rw [hes] at hE2
    have hlt := (Array.getElem?_eq_some_iff.1 hb).1
    have h5' := hS.change (i := i) (x := b) (o' := .map (es.set j { en2 with key := .int K q.1, val := v }).toArray clock) (w' := setBlock w b (.map (es.set j { en2 with key := .int K q.1, val := v }).toArray clock)) (p := fun h => h b = some (.map es.toArray clock) ∧ h r = some (.mapIter (some b) clock seen clock)) (q := rangeO b r K (kput kvs p.1 v) left (some (p.1, v))) (by simp [hil])
      (fun h hp => .inl ⟨_, hp.1⟩) rfl rfl rfl (Nat.le_refl _) (by simp [setBlock]) (by simp [setBlock, hlt]) (fun x hx => by simp [setBlock, Ne.symm hx]) (fun h hp' => by
        refine ⟨es.set j { en2 with key := .int K q.1, val := v }, clock, seen, ⟨by simp, ?_⟩, by rw [← h6]; exact hE2, by rw [hfl]; exact hl, fun p' hp2 => ?_⟩
        · simp only [if_neg (Ne.symm hbr)]; exact hp'.2
        · cases hp2
          exact ⟨_, List.mem_set (List.getElem?_eq_some_iff.1 h2).1 _, ⟨s, hs⟩, by rw [← h6], rfl⟩)
    rw [List.set_set] at h5'
    refine ⟨_, ?_, h5'⟩
    have hkk1 : ((es.toArray[j]?).map (·.key)).getD (.int K p.1) = .int K p.1 := by
      rw [List.getElem?_toArray, h2]; simp [h3]
    simp only [Result.andThen_ok, Sem.run_bind, hkk1]
    rw [run_keyThatStays (d := .int K) (k := .int K p.1) rfl]
    simp only [Result.andThen_ok, List.modify_toArray]
    have hes2 : es.modify j (fun e => { e with key := .int K p.1, val := v }) = es.set j { en2 with key := .int K q.1, val := v } := by rw [modify_set _ h2, h6]
    simp [hes2, setObj, Sem.run, hb, setBlock]
theorem eo_lenm (i : Nat) {d b t kt et : Nat} {x : Operand} {K : IntKind} {kvs : List (Int × Value)} {tl : TI} (ho : o.op = .call { callee := .builtin .len, args := #[x], argTypes := #[t] }) (hd : o.dst = some d) (hn : Nat.ble n d = false)
    (hx : ev e x = some (.map (some b))) (ht : C.L.ti t = some tl) (hk : tl.kind = .map kt et) (hi : l[i]? = some (mapO b K kvs)) (h : k ((d, .int .i64 (kvs.length : Int)) :: e) (S w0 l)) : EO C n o Q e (S w0 l) k := by
  refine eo_value hd hn (fun ac w hf hw => ?_) h
  obtain ⟨es, clock, _, hE, hb⟩ := map_open hw hi
  have hlen : es.length = kvs.length := by simpa using congrArg List.length hE.reads
  unfold execOp
  simp only [ho, resolve, invoke, builtin, Sem.run_bind, Sem.run_pure, Result.andThen_ok, List.map_toArray, List.map_cons, List.map_nil, hf.ev hx]
  simp [Builtin.len_, run_underlying (kind_map (C.ok _ _ ht) hk), getObj, Sem.run, hb, goInt, hlen]
end Go.SE
open Go Go.SE
namespace Go.SE
variable {C : Cx} {n : Nat} {Q : Kont} {e : Env} {H : WP} {ops : Array Oper} {rest : List Oper} {o : Oper} {k : Env → WP → Prop} {w0 w : World} {l hs : List HP}
theorem S.famCell {i b off T : Nat} {fs : List (Nat × List Value)} {cs : List Value} {v : Value} (h : S w0 l w) (hi : l[i]? = some (famO T fs)) (hm : (b, cs) ∈ fs) (hv : cs[off]? = some v) : w.cell? ⟨b, off, none⟩ = some v := by
  obtain ⟨j, hj⟩ := List.getElem?_of_mem hm
  exact (h.take hi hj).cell (i := 0) (T := T) (cs := cs) rfl hv
theorem Held.famCell {j b off T : Nat} {fs : List (Nat × List Value)} {cs : List Value} {v : Value} (h : Held w0 hs w) (hi : hs[j]? = some (famO T fs)) (hm : (b, cs) ∈ fs) (hv : cs[off]? = some v) : w.cell? ⟨b, off, none⟩ = some v := by
  obtain ⟨l, h1, h2⟩ := h
  obtain ⟨i, q, h3, hq⟩ := h2.get hi
  have hil := (List.getElem?_eq_some_iff.1 h3).1
  exact S.famCell (l := l.set i (famO T fs)) (i := i) (h1.imp h3 hq) (List.getElem?_set_self hil) hm hv
theorem LdF {d t b off T i : Nat} {x : Operand} {ti : TI} {v : Value} {cs : List Value} {fs : List (Nat × List Value)} (hm : (b, cs) ∈ fs) (h : EL C n rest ops Q ((d, v) :: e) (S w0 l)) (hg : want ops e o = some true := by exact rfl) (ho : o.op = .load t x := by exact rfl) (hd : o.dst = some d := by exact rfl) (hn : Nat.ble n d = false := by exact rfl)
    (ha : ev e x = some (.pointer (some ⟨b, off, none⟩)) := by exact rfl) (ht : C.L.ti t = some ti := by exact rfl) (hk : ti.kind.agg = false := by exact rfl) (hi : l[i]? = some (famO T fs) := by first | exact at0 | exact at1 | exact at2 | exact at3 | exact at4 | exact at5 | exact at6 | exact at7 | exact at8 | exact at9 | exact at10 | exact at11 | exact at12 | exact at13 | exact at14 | exact at15)
    (hv : cs[off]? = some v := by exact rfl) : EL C n (o :: rest) ops Q e (S w0 l) := el_cons hg (eo_load ho hd hn ha ht hk (fun _ hw => hw.famCell hi hm hv) h)
theorem rLdF {t b off T : Nat} {x : Operand} {ti : TI} {v : Value} {cs : List Value} {fs : List (Nat × List Value)} (j : Nat) (hm : (b, cs) ∈ fs) (ho : o.op = .load t x := by exact rfl) (ha : ev e x = some (.pointer (some ⟨b, off, none⟩)) := by exact rfl) (ht : C.L.ti t = some ti := by exact rfl) (hk : ti.kind.agg = false := by exact rfl)
    (hi : hs[j]? = some (famO T fs) := by exact rfl) (hv : cs[off]? = some v := by exact rfl) : ER C n o e (Held w0 hs) v := er_load ho ha ht hk fun _ hw => hw.famCell hi hm hv
theorem wgc {I : WP} {fuel : Nat} {listed : List Bool} {j dj t : Nat} {oj : Oper} {tj : TI} (i : Nat) {oi : Oper} (hii : ops[i]? = some oi) {c : Call} {d f : Nat} {first capt args argv : List Value} {β : Type} {V : β → Value} {φ : β → Prop} (hs : Does C f argv (S w0 l) fun v w => ∃ x, v = V x ∧ φ x ∧ S w0 l w) (hs1 : ∀ b, Does C f argv (S w0 (cells b t tj.zero.cells.toList :: l)) fun v w => ∃ x, v = V x ∧ φ x ∧ S w0 (cells b t tj.zero.cells.toList :: l) w) (hr : Real C.P f)
    (h : ∀ v, φ v → EHA C n I j dj t tj.zero.cells.toList fuel (listed.set i true) ops Q ((d, V v) :: e) w0 l)
    (hI : ∀ w, S w0 l w → I w := by assumption) (hrs : (Region.ready .any ops listed.toArray).all (fun x => x == i || x == j) = true := by kernel_rfl) (hne : (Region.ready .any ops listed.toArray).isEmpty = false := by kernel_rfl) (hrd2 : Region.ready .any ops (listed.set j true).toArray = [i] := by kernel_rfl) (hij : Nat.beq i j = false := by exact rfl)
    (hj : ops[j]? = some oj := by exact rfl) (hoj : oj.op = .alloc t := by exact rfl) (hdj : oj.dst = some dj := by exact rfl) (hnj : Nat.ble n dj = false := by exact rfl) (htj : C.L.ti t = some tj := by exact rfl) (hgj : want ops e oj = some true := by exact rfl)
    (hg : want ops e oi = some true := by exact rfl) (hg' : ∀ b, want ops ((dj, .pointer (some ⟨b, 0, none⟩)) :: e) oi = some true := by exact fun _ => rfl) (ho : oi.op = .call c := by exact rfl) (hd : oi.dst = some d := by exact rfl) (hn : Nat.ble n d = false := by exact rfl) (hdd : Nat.beq dj d = false := by exact rfl) (hc : callee e c.callee = some (f, first, capt) := by exact rfl) (ha : evs e c.args.toList = some args := by exact rfl)
    (hc' : ∀ b, callee ((dj, .pointer (some ⟨b, 0, none⟩)) :: e) c.callee = some (f, first, capt) := by exact fun _ => rfl) (ha' : ∀ b, evs ((dj, .pointer (some ⟨b, 0, none⟩)) :: e) c.args.toList = some args := by exact fun _ => rfl) (hargs : first ++ args ++ capt = argv := by exact rfl) :
    EHA C n I j dj t tj.zero.cells.toList (fuel + 1) listed ops Q e w0 l := by
  subst hargs
  have hne2 : i ≠ j := fun e => by rw [e] at hij; simp at hij
  have hyes : ∀ b, EH C n I (fuel + 1) (listed.set j true) ops Q ((dj, .pointer (some ⟨b, 0, none⟩)) :: e) (S w0 (cells b t tj.zero.cells.toList :: l)) := fun b => by
    refine wx i hii (hs1 b) hr (fun x hx => ⟨fun w hw => hI w (hw.erase 0), ?_⟩) hrd2 (hg' b) ho hd hn (hc' b) (ha' b) rfl
    have h2 := (h x hx).yes b
    rw [List.set_comm _ _ hne2] at h2
    exact eh_le (le_swap hdd) h2
  refine ⟨eh_ways _ rfl hne ?_, hyes⟩
  have hI2 : ∀ b w, S w0 (cells b t tj.zero.cells.toList :: l) w → I w := fun b w hw => hI w (hw.erase 0)
  have key : ∀ rs : List Nat, (∀ x ∈ rs, x = i ∨ x = j) → HWays C n I (fuel + 1) listed ops Q e (S w0 l) rs := by
    intro rs
    induction rs with
    | nil => intro _; exact .nil
    | cons x rs ih =>
      intro hx
      refine .cons ?_ (ih fun y hy => hx y (by simp [hy]))
      rcases hx x (by simp) with rfl | rfl
      · refine hway hii hg (eo_callx ho hd hn hc ha hr hs fun x hx => ⟨hI, (h x hx).no⟩)
      · exact hway hj hgj (eo_alloc hoj hdj hnj htj fun b => ⟨hI2 b, hyes b⟩)
  refine key _ fun x hx => ?_
  have := List.all_eq_true.1 hrs x hx
  simpa using this
theorem wav {I : WP} {fuel : Nat} {listed : List Bool} {j dj t : Nat} {z : List Value} (i : Nat) {d : Nat} {v : Value} {oi : Oper} (hi : ops[i]? = some oi) (hv : ER C n oi e I v) (hv2 : ∀ b, ER C n oi ((dj, .pointer (some ⟨b, 0, none⟩)) :: e) I v) (h : EHA C n I j dj t z fuel (listed.set i true) ops (.calm Q) ((d, v) :: e) w0 l) (hI : ∀ w, S w0 l w → I w := by assumption) (hs : Region.noSelect ops = true := by kernel_rfl)
    (hfr : Region.free .any ops listed.toArray i = true := by kernel_rfl) (hr : (Region.ready .any ops listed.toArray).contains i = true := by kernel_rfl) (hfr2 : Region.free .any ops (listed.set j true).toArray i = true := by kernel_rfl) (hr2 : (Region.ready .any ops (listed.set j true).toArray).contains i = true := by kernel_rfl) (hij : Nat.beq i j = false := by exact rfl)
    (hg : want ops e oi = some true := by exact rfl) (hg2 : ∀ b, want ops ((dj, .pointer (some ⟨b, 0, none⟩)) :: e) oi = some true := by exact fun _ => rfl) (hd : oi.dst = some d := by exact rfl) (hn : Nat.ble n d = false := by exact rfl) (hdd : Nat.beq dj d = false := by exact rfl) :
    EHA C n I j dj t z (fuel + 1) listed ops (.calm Q) e w0 l := by
  have hne2 : i ≠ j := fun e => by rw [e] at hij; simp at hij
  refine ⟨tv i hi hv h.no hI hs hfr hr hg hd hn, fun b => ?_⟩
  refine tv i hi (hv2 b) ?_ (fun w hw => hI w (hw.erase 0)) hs hfr2 hr2 (hg2 b) hd hn
  have h2 := h.yes b
  rw [List.set_comm _ _ hne2] at h2
  exact eh_le (le_swap hdd) h2
end Go.SE
open Go Go.SE
namespace Go.SE
variable {C : Cx} {n : Nat} {Q : Kont} {e : Env} {H : WP} {ops : Array Oper} {rest : List Oper} {o : Oper} {k : Env → WP → Prop} {w0 w : World} {l hs : List HP}
theorem eo_stF {t b off T i j : Nat} {x y : Operand} {ti : TI} {v : Value} {cs : List Value} {fs : List (Nat × List Value)} (fs' : List (Nat × List Value)) (hj : fs[j]? = some (b, cs)) (hfs : fs.set j (b, splice cs off v.cells.toList) = fs') (ho : o.op = .store t x y) (hd : o.dst = none)
    (ha : ev e x = some (.pointer (some ⟨b, off, none⟩))) (hv : ev e y = some v) (ht : C.L.ti t = some ti) (hz : v.cells.size = ti.size) (h1 : v.cells.toList.all one = true)
    (hi : l[i]? = some (famO T fs)) (hl : Nat.ble (off + ti.size) cs.length = true) (h : k e (S w0 (l.set i (famO T fs')))) : EO C n o Q e (S w0 l) k := by
  refine eo_skip hd (S w0 (l.set i (famO T fs'))) (fun a w hf hw => ?_) h
  have hl' := Nat.le_of_ble_eq_true hl
  have hil := (List.getElem?_eq_some_iff.1 hi).1
  obtain ⟨w', h2, h3⟩ := storeCells_run (P := C.P) (i := 0) (b := b) (T := T) v.cells.toList off 0 cs _ w (fun u hu => List.all_eq_true.1 h1 u hu) (hw.take hi hj) rfl (by simp; omega)
  refine ⟨w', ?_, ?_⟩
  · unfold execOp
    rw [ho]
    simp [hf.ev ha, hf.ev hv, Instr.storeAt, Instr.sureAddr, storeVar, sizeOf_run (C.ok _ _ ht), hz, h2]
  · have h4 : S w0 (SE.cells b T (splice cs off v.cells.toList) :: l.set i (famO T (fs.eraseIdx j))) w' := by simpa using h3
    rw [← hfs]
    exact S.give (q := (b, splice cs off v.cells.toList)) h4 hil hj
theorem StF {t b off T i j : Nat} {x y : Operand} {ti : TI} {v : Value} {cs : List Value} {fs : List (Nat × List Value)} (fs' : List (Nat × List Value)) (hj : fs[j]? = some (b, cs)) (hfs : fs.set j (b, splice cs off v.cells.toList) = fs') (h : EL C n rest ops Q e (S w0 (l.set i (famO T fs')))) (hg : want ops e o = some true := by exact rfl) (ho : o.op = .store t x y := by exact rfl) (hd : o.dst = none := by exact rfl)
    (ha : ev e x = some (.pointer (some ⟨b, off, none⟩)) := by exact rfl) (hv : ev e y = some v := by exact rfl) (ht : C.L.ti t = some ti := by exact rfl) (hz : v.cells.size = ti.size := by exact rfl) (h1 : v.cells.toList.all one = true := by exact rfl)
    (hi : l[i]? = some (famO T fs) := by first | exact at0 | exact at1 | exact at2 | exact at3 | exact at4 | exact at5 | exact at6 | exact at7 | exact at8 | exact at9 | exact at10 | exact at11 | exact at12 | exact at13 | exact at14 | exact at15) (hl : Nat.ble (off + ti.size) cs.length = true := by exact rfl) : EL C n (o :: rest) ops Q e (S w0 l) :=
  el_cons hg (eo_stF fs' hj hfs ho hd ha hv ht hz h1 hi hl h)
def allO (ps : List HP) : HP := stars ps
theorem all_take {ps : List HP} {j : Nat} {p : HP} (hj : ps[j]? = some p) (f : Hp) (h : allO ps f) : stars [p, allO (ps.eraseIdx j)] f := by
  obtain ⟨a, b, hd, he, ha, hb⟩ := stars_perm (perm_front hj) h
  exact ⟨a, b, hd, he, ha, b, fun _ => none, fun _ => .inr rfl, by funext x; simp [uni], hb, trivial⟩
theorem all_give {ps : List HP} {j : Nat} {p : HP} (q : HP) (hj : ps[j]? = some p) (f : Hp) (h : star q (allO (ps.eraseIdx j)) f) : allO (ps.set j q) f := stars_perm (set_front hj).symm (l := q :: ps.eraseIdx j) h
theorem S.takeO {i j : Nat} {ps : List HP} {p : HP} (h : S w0 l w) (hi : l[i]? = some (allO ps)) (hj : ps[j]? = some p) : S w0 (p :: l.set i (allO (ps.eraseIdx j))) w := by
  have h1 := (h.front hi).split (qs := [p, allO (ps.eraseIdx j)]) fun f hf => all_take hj f hf
  exact h1.perm ((set_front hi).symm.cons _)
theorem S.giveO {i j : Nat} {ps : List HP} {p q : HP} (h : S w0 (q :: l.set i (allO (ps.eraseIdx j))) w) (hi : i < l.length) (hj : ps[j]? = some p) : S w0 (l.set i (allO (ps.set j q))) w := by
  have hi' : (l.set i (allO (ps.eraseIdx j)))[i]? = some (allO (ps.eraseIdx j)) := by simp [hi]
  have h1 := h.perm ((perm_front hi').cons _)
  have h2 := h1.join2 (p := allO (ps.set j q)) (fun f hf => all_give q hj f hf)
  refine h2.perm ?_
  have hl : l[i]? = some l[i] := by simp [hi]
  have e1 : (l.set i (allO (ps.eraseIdx j))).eraseIdx i = l.eraseIdx i := by
    refine List.ext_getElem? fun j => ?_
    rw [List.getElem?_eraseIdx, List.getElem?_eraseIdx]
    split
    · rw [List.getElem?_set_ne (by omega)]
    · rw [List.getElem?_set_ne (by omega)]
  rw [e1]
  exact (set_front hl).symm
theorem all_new {ps : List HP} {p : HP} (f : Hp) (h : star p (allO ps) f) : allO (p :: ps) f := h
theorem allO_perm {ps qs : List HP} (hp : ps.Perm qs) (f : Hp) (h : allO ps f) : allO qs f := stars_perm hp h
theorem does_all {f : FuncId} {argv : List Value} {α : Type} {V : α → Value} {φ : α → Prop} {p : HP} {p' : α → HP} {ps : List HP} {j : Nat} (hs : ∀ l, Does C f argv (S w0 (p :: l)) fun v w => ∃ x, v = V x ∧ φ x ∧ S w0 (p' x :: l) w) (hj : ps[j]? = some p) :
    ∀ l, Does C f argv (S w0 (allO ps :: l)) fun v w => ∃ x, v = V x ∧ φ x ∧ S w0 (allO (ps.set j (p' x)) :: l) w := fun l =>
  (hs (allO (ps.eraseIdx j) :: l)).mono (fun w hw => by simpa using hw.takeO (i := 0) rfl hj) fun v w ⟨x, h1, h2, h3⟩ => ⟨x, h1, h2, by
    have := S.giveO (i := 0) (l := allO (ps.eraseIdx j) :: l) (q := p' x) (by simpa using h3) (by simp) hj
    simpa using this⟩
theorem does_one {f : FuncId} {argv : List Value} {V : Value} {p p' : HP} {i : Nat} (hs : ∀ l, Does C f argv (S w0 (p :: l)) fun v w => v = V ∧ S w0 (p' :: l) w) (hi : l[i]? = some p) :
    Does C f argv (S w0 l) fun v w => v = V ∧ S w0 (l.set i p') w :=
  Does.mono (hs (l.eraseIdx i)) (fun _ hw => hw.perm (perm_front hi)) fun _ _ ⟨h1, h3⟩ => ⟨h1, h3.perm (set_front hi).symm⟩
theorem does_keep {f : FuncId} {argv : List Value} {V : Value} {p : HP} {i : Nat} (hs : ∀ l, Does C f argv (S w0 (p :: l)) fun v w => v = V ∧ S w0 (p :: l) w) (hi : l[i]? = some p) :
    Does C f argv (S w0 l) fun v w => v = V ∧ S w0 l w :=
  Does.mono (does_one hs hi) (fun _ h => h) fun v w ⟨h1, h2⟩ => ⟨h1, by rw [set_perm_front _ _ _ hi] at h2; exact h2⟩
theorem F1 {c : Call} {d f i : Nat} {first capt args argv : List Value} {V : Value} {p p' : HP} (hs : ∀ l, Does C f argv (S w0 (p :: l)) fun v w => v = V ∧ S w0 (p' :: l) w) (hr : Real C.P f) (h : EL C n rest ops Q ((d, V) :: e) (S w0 (l.set i p')))
    (hg : want ops e o = some true := by exact rfl) (ho : o.op = .call c := by exact rfl) (hd : o.dst = some d := by exact rfl) (hn : Nat.ble n d = false := by exact rfl) (hc : callee e c.callee = some (f, first, capt) := by exact rfl) (ha : evs e c.args.toList = some args := by exact rfl) (hargs : first ++ args ++ capt = argv := by exact rfl) (hi : l[i]? = some p := by first | exact at0 | exact at1 | exact at2 | exact at3 | exact at4 | exact at5 | exact at6 | exact at7 | exact at8 | exact at9 | exact at10 | exact at11 | exact at12 | exact at13 | exact at14 | exact at15 | assumption | exact nx (by assumption) | exact nx (nx (by assumption)) | exact nx (nx (nx (by assumption)))) : EL C n (o :: rest) ops Q e (S w0 l) :=
  C1 (does_one hs hi) hr h hg ho hd hn hc ha hargs
theorem Fk1 {c : Call} {d f i : Nat} {first capt args argv : List Value} {V : Value} {p : HP} (hs : ∀ l, Does C f argv (S w0 (p :: l)) fun v w => v = V ∧ S w0 (p :: l) w) (hr : Real C.P f) (h : EL C n rest ops Q ((d, V) :: e) (S w0 l))
    (hg : want ops e o = some true := by exact rfl) (ho : o.op = .call c := by exact rfl) (hd : o.dst = some d := by exact rfl) (hn : Nat.ble n d = false := by exact rfl) (hc : callee e c.callee = some (f, first, capt) := by exact rfl) (ha : evs e c.args.toList = some args := by exact rfl) (hargs : first ++ args ++ capt = argv := by exact rfl) (hi : l[i]? = some p := by first | exact at0 | exact at1 | exact at2 | exact at3 | exact at4 | exact at5 | exact at6 | exact at7 | exact at8 | exact at9 | exact at10 | exact at11 | exact at12 | exact at13 | exact at14 | exact at15 | assumption | exact nx (by assumption) | exact nx (nx (by assumption)) | exact nx (nx (nx (by assumption)))) : EL C n (o :: rest) ops Q e (S w0 l) :=
  C1 (does_keep hs hi) hr h hg ho hd hn hc ha hargs
def pick (is : List Nat) (n : Nat) (l : List HP) : List HP := is.filterMap (l[·]?) ++ l.drop n
end Go.SE
open Go Go.SE
namespace Go.SE
variable {C : Cx} {n : Nat} {Q : Kont} {e : Env} {H : WP} {ops : Array Oper} {rest : List Oper} {o : Oper} {k : Env → WP → Prop} {w0 w : World} {l hs : List HP}
theorem S.famObj {i b T : Nat} {fs : List (Nat × List Value)} {cs : List Value} (h : S w0 l w) (hi : l[i]? = some (famO T fs)) (hm : (b, cs) ∈ fs) : w.heap[b]? = some (.cells cs.toArray T) := by
  obtain ⟨j, hj⟩ := List.getElem?_of_mem hm
  exact S.get (i := 0) (h.take hi hj) rfl
theorem fam_nod {T : Nat} : ∀ (fs : List (Nat × List Value)) (f : Hp), famO T fs f → (fs.map (·.1)).Nodup ∧ ∀ p ∈ fs, f p.1 = some (.cells p.2.toArray T)
  | [], _, _ => ⟨.nil, fun p hp => by simp at hp⟩
  | p :: fs, f, h => by
    obtain ⟨a, b, hd, he, ha, hb⟩ := h
    obtain ⟨h1, h2⟩ := fam_nod fs b hb
    have ha' : a p.1 = some (.cells p.2.toArray T) := ha
    refine ⟨List.nodup_cons.2 ⟨fun hm => ?_, h1⟩, fun q hq => ?_⟩
    · obtain ⟨q, hq, e⟩ := List.mem_map.1 hm
      have h3 := h2 q hq
      rw [e] at h3
      rcases hd p.1 with h4 | h4
      · rw [h4] at ha'; cases ha'
      · rw [h4] at h3; cases h3
    · rw [he]
      rcases List.mem_cons.1 hq with rfl | hq
      · exact uni_left ha'
      · exact uni_right hd (h2 q hq)
theorem S.famNod {i T : Nat} {fs : List (Nat × List Value)} (h : S w0 l w) (hi : l[i]? = some (famO T fs)) : (fs.map (·.1)).Nodup := by
  obtain ⟨h1, h2, _, _, hp, _⟩ := stars_focus l i _ _ h.sat hi
  exact (fam_nod fs h1 hp).1
theorem equal_ptr2 {P : Program} {t E sz : Nat} {a b : Addr} {ca cb : Array Value} {ta tb : TypeId} (hu : P.underlying t = some (.pointer E)) (hs : ∀ w, (sizeOf E).run P w = .ok sz w) (hz : sz ≠ 0) (ha : w.heap[a.block]? = some (.cells ca ta)) (hb : w.heap[b.block]? = some (.cells cb tb)) :
    (Op.equal t (.pointer (some a)) (.pointer (some b))).run P w = .ok (decide (a = b)) w := by
  show (Op.equalIn (9999 + 1) t _ _).run P w = _
  rw [Op.equalIn]
  simp only [Sem.run_bind, underlying_run hu, Result.andThen_ok, hs w]
  rw [if_pos hz]
  by_cases h : a = b
  · subst h
    rw [run_sameAddr_same, decide_eq_true rfl]
  · rw [run_sameAddr_other _ h ha hb, decide_eq_false h]
theorem eo_peqF {i d T b1 b2 : Nat} {x y : Operand} {op : BinOp} {t t' E : Nat} {ti te : TI} {fs : List (Nat × List Value)} {cs1 cs2 : List Value} (hm1 : (b1, cs1) ∈ fs) (hm2 : (b2, cs2) ∈ fs) (ho : o.op = .binOp op t x y t') (hop : op = .eql ∨ op = .neq) (hd : o.dst = some d) (hn : Nat.ble n d = false)
    (hx : ev e x = some (.pointer (some ⟨b1, 0, none⟩))) (hy : ev e y = some (.pointer (some ⟨b2, 0, none⟩))) (ht : C.L.ti t = some ti) (hk : ti.kind = .ptr E) (hE : C.L.ti E = some te) (hz : Nat.beq te.size 0 = false) (hi : l[i]? = some (famO T fs))
    (h : k ((d, .bool (eqOr op (decide (b1 = b2)))) :: e) (S w0 l)) : EO C n o Q e (S w0 l) k := by
  refine eo_value hd hn (fun ac w hf hw => ?_) h
  have hz' : te.size ≠ 0 := fun e => by rw [e] at hz; simp at hz
  have he := equal_ptr2 (P := C.P) (w := w) (a := ⟨b1, 0, none⟩) (b := ⟨b2, 0, none⟩) (kind_ptr (C.ok _ _ ht) hk) (fun w => sizeOf_run (C.ok _ _ hE) w) hz' (hw.famObj hi hm1) (hw.famObj hi hm2)
  have e1 : decide ((⟨b1, 0, none⟩ : Addr) = ⟨b2, 0, none⟩) = decide (b1 = b2) := by
    by_cases h : b1 = b2
    · simp [h]
    · rw [decide_eq_false h, decide_eq_false (fun e => h (congrArg Addr.block e))]
  rw [e1] at he
  have hg : (eqGuard op t x y (.pointer (some ⟨b1, 0, none⟩)) (.pointer (some ⟨b2, 0, none⟩))).run C.P w = .ok () w := eqGuard_ptr ..
  unfold execOp
  rcases hop with rfl | rfl
  · simp only [ho, Sem.run_bind, hf.ev hx, hf.ev hy, hg, Result.andThen_ok, binOp, he, Sem.run_pure, eqOr]
  · simp only [ho, Sem.run_bind, hf.ev hx, hf.ev hy, hg, Result.andThen_ok, binOp, he, Sem.run_pure, eqOr]
theorem PeqF {i d T b1 b2 : Nat} {x y : Operand} {op : BinOp} {t t' E : Nat} {ti te : TI} {fs : List (Nat × List Value)} {cs1 cs2 : List Value} (hm1 : (b1, cs1) ∈ fs) (hm2 : (b2, cs2) ∈ fs) (h : EL C n rest ops Q ((d, .bool (eqOr op (decide (b1 = b2)))) :: e) (S w0 l)) (hg : want ops e o = some true := by exact rfl) (ho : o.op = .binOp op t x y t' := by exact rfl) (hop : op = .eql ∨ op = .neq := by first | exact .inl rfl | exact .inr rfl) (hd : o.dst = some d := by exact rfl) (hn : Nat.ble n d = false := by exact rfl)
    (hx : ev e x = some (.pointer (some ⟨b1, 0, none⟩)) := by exact rfl) (hy : ev e y = some (.pointer (some ⟨b2, 0, none⟩)) := by exact rfl) (ht : C.L.ti t = some ti := by exact rfl) (hk : ti.kind = .ptr E := by exact rfl) (hE : C.L.ti E = some te := by exact rfl) (hz : Nat.beq te.size 0 = false := by exact rfl)
    (hi : l[i]? = some (famO T fs) := by first | exact at0 | exact at1 | exact at2 | exact at3 | exact at4 | exact at5 | exact at6 | exact at7 | exact at8 | exact at9 | exact at10 | exact at11 | exact at12 | exact at13 | exact at14 | exact at15) : EL C n (o :: rest) ops Q e (S w0 l) :=
  el_cons hg (eo_peqF hm1 hm2 ho hop hd hn hx hy ht hk hE hz hi h)
theorem does_new {f : FuncId} {argv : List Value} {α : Type} {V : α → Value} {φ : α → Prop} {p : HP} {q : α → HP} {i : Nat} (hs : ∀ l, Does C f argv (S w0 (p :: l)) fun v w => ∃ x, v = V x ∧ φ x ∧ S w0 (q x :: p :: l) w) (hi : l[i]? = some p) :
    Does C f argv (S w0 l) fun v w => ∃ x, v = V x ∧ φ x ∧ S w0 (q x :: l) w :=
  Does.mono (hs (l.eraseIdx i)) (fun _ hw => hw.perm (perm_front hi)) fun _ _ ⟨x, h1, h2, h3⟩ => ⟨x, h1, h2, h3.perm ((perm_front hi).symm.cons _)⟩
theorem Fn1 {c : Call} {d f i : Nat} {first capt args argv : List Value} {α : Type} {V : α → Value} {φ : α → Prop} {p : HP} {q : α → HP} (hs : ∀ l, Does C f argv (S w0 (p :: l)) fun v w => ∃ x, v = V x ∧ φ x ∧ S w0 (q x :: p :: l) w) (hr : Real C.P f) (h : ∀ x, φ x → EL C n rest ops Q ((d, V x) :: e) (S w0 (q x :: l)))
    (hg : want ops e o = some true := by exact rfl) (ho : o.op = .call c := by exact rfl) (hd : o.dst = some d := by exact rfl) (hn : Nat.ble n d = false := by exact rfl) (hc : callee e c.callee = some (f, first, capt) := by exact rfl) (ha : evs e c.args.toList = some args := by exact rfl) (hargs : first ++ args ++ capt = argv := by exact rfl) (hi : l[i]? = some p := by first | exact at0 | exact at1 | exact at2 | exact at3 | exact at4 | exact at5 | exact at6 | exact at7 | exact at8 | exact at9 | exact at10 | exact at11 | exact at12 | exact at13 | exact at14 | exact at15 | assumption | exact nx (by assumption) | exact nx (nx (by assumption)) | exact nx (nx (nx (by assumption)))) : EL C n (o :: rest) ops Q e (S w0 l) :=
  Cx1 (does_new hs hi) hr h hg ho hd hn hc ha hargs
end Go.SE
open Go Go.SE
namespace Go.SE
variable {C : Cx} {n : Nat} {Q : Kont} {e : Env} {H : WP} {ops : Array Oper} {rest : List Oper} {o : Oper} {k : Env → WP → Prop} {w0 w : World} {l hs hs' : List HP}
theorem eo_app1 (j i : Nat) {d b : Nat} {x y : Operand} {r : Option (Nat × Nat)} {t E n' : Nat} {te tl : TI} {xs cs : List Value} (ho : o.op = .call { callee := .builtin .append, args := #[x, y], argTypes := #[t, t] }) (hd : o.dst = some d) (hn : Nat.ble n d = false)
    (hx : ev e x = some (sv r n')) (hy : ev e y = some (.slice (some ⟨b, 0, none⟩) 1 1)) (ht : C.L.ti t = some tl) (hk : tl.kind = .slice E) (hE : C.L.ti E = some te) (hz : te.zero.cells.size = te.size)
    (hi : l[i]? = some (rowC r E te.size xs n')) (hj : l[j]? = some (cells b E cs)) (hcs : cs.length = te.size) (h1 : cs.all one = true) (hN : n' ≤ 1000000) (hb : Nat.ble te.bytes 10000 = true)
    (h : ∀ r', k ((d, sv r' (n' + 1)) :: e) (S w0 (l.set i (rowC r' E te.size (xs ++ cs) (n' + 1))))) : EO C n o Q e (S w0 l) k := by
  have hb1 := Nat.le_of_ble_eq_true hb
  have hb2 : (n' + 1) * te.bytes ≤ 1000001 * 10000 := Nat.mul_le_mul (by omega) hb1
  refine eo_append i cs ho hd hn hx hy ht hk hE hz hi (by omega) (fun w hw j u hju => ?_) h1 (by omega) (by omega) (by rw [maxLen_eq]; omega) h
  have := hw.cell (b := b) (T := E) (cs := cs) hj hju
  rw [addr_add, Nat.zero_add]; exact this
theorem eh_imp {I : WP} {fuel : Nat} {listed : List Bool} {H' : WP} (hH : ∀ w, H w → H' w) (h : EH C n I fuel listed ops Q e H') : EH C n I fuel listed ops Q e H := ⟨fun a w hf hw => h.run a w hf (hH w hw)⟩
theorem wapp2 {I : WP} {fuel : Nat} {listed : List Bool} (i1 a1 i2 a2 p1 p2 : Nat) {o1 oa1 o2 oa2 : Oper} {d1 da1 d2 da2 t E n1 n2 : Nat} {ps1 ps2 : Array (Nat × Operand)} {parts1 parts2 : List (Nat × Value)} {x1 y1 x2 y2 : Operand} {r1 r2 : Option (Nat × Nat)} {te tl : TI} {xs1 xs2 cs1 cs2 : List Value}
    (h1 : ops[i1]? = some o1) (h2 : ops[a1]? = some oa1) (h3 : ops[i2]? = some o2) (h4 : ops[a2]? = some oa2)
    (h : ∀ r1' r2' b1 b2, EH C n I fuel ((((listed.set i1 true).set a1 true).set i2 true).set a2 true) ops Q ((da2, sv r2' (n2 + 1)) :: (da1, sv r1' (n1 + 1)) :: (d2, .slice (some ⟨b2, 0, none⟩) 1 1) :: (d1, .slice (some ⟨b1, 0, none⟩) 1 1) :: e) (S w0 ((l.set p1 (rowC r1' E te.size (xs1 ++ cs1) (n1 + 1))).set p2 (rowC r2' E te.size (xs2 ++ cs2) (n2 + 1)))))
    (hI : ∀ q1 q2 w, S w0 ((l.set p1 q1).set p2 q2) w → I w) (hp12 : Nat.beq p1 p2 = false)
    (hr1 : l[p1]? = some (rowC r1 E te.size xs1 n1)) (hr2 : l[p2]? = some (rowC r2 E te.size xs2 n2)) (hN1 : n1 ≤ 1000000) (hN2 : n2 ≤ 1000000)
    (hd4 : Nat.beq i1 a1 = false ∧ Nat.beq i1 i2 = false ∧ Nat.beq i1 a2 = false ∧ Nat.beq a1 i2 = false ∧ Nat.beq a1 a2 = false ∧ Nat.beq i2 a2 = false := by exact ⟨rfl, rfl, rfl, rfl, rfl, rfl⟩)
    (hy0 : (Region.ready .any ops listed.toArray).all (fun x => x == i1 || x == i2) = true := by kernel_rfl) (hz0 : (Region.ready .any ops listed.toArray).isEmpty = false := by kernel_rfl)
    (hyA : (Region.ready .any ops (listed.set i1 true).toArray).all (fun x => x == a1 || x == i2) = true := by kernel_rfl) (hzA : (Region.ready .any ops (listed.set i1 true).toArray).isEmpty = false := by kernel_rfl)
    (hyB : Region.ready .any ops ((listed.set i1 true).set a1 true).toArray = [i2] := by kernel_rfl) (hyC : Region.ready .any ops ((listed.set i1 true).set i2 true).toArray = [a1] := by kernel_rfl) (hyD : Region.ready .any ops (listed.set i2 true).toArray = [i1] := by kernel_rfl)
    (hyE : Region.ready .any ops (((listed.set i1 true).set a1 true).set i2 true).toArray = [a2] := by kernel_rfl)
    (ho1 : o1.op = .buildSlice t 1 ps1 := by exact rfl) (hd1 : o1.dst = some d1 := by exact rfl) (hn1 : Nat.ble n d1 = false := by exact rfl) (ho2 : o2.op = .buildSlice t 1 ps2 := by exact rfl) (hd2 : o2.dst = some d2 := by exact rfl) (hn2 : Nat.ble n d2 = false := by exact rfl)
    (hb1 : oa1.op = .call { callee := .builtin .append, args := #[x1, y1], argTypes := #[t, t] } := by exact rfl) (hda1 : oa1.dst = some da1 := by exact rfl) (hna1 : Nat.ble n da1 = false := by exact rfl)
    (hb2 : oa2.op = .call { callee := .builtin .append, args := #[x2, y2], argTypes := #[t, t] } := by exact rfl) (hda2 : oa2.dst = some da2 := by exact rfl) (hna2 : Nat.ble n da2 = false := by exact rfl)
    (hq1 : evParts e ps1.toList = some parts1 := by exact rfl) (hq2 : evParts e ps2.toList = some parts2 := by exact rfl) (hq1' : ∀ u, evParts ((d2, u) :: e) ps1.toList = some parts1 := by exact fun _ => rfl) (hq2' : ∀ u, evParts ((d1, u) :: e) ps2.toList = some parts2 := by exact fun _ => rfl) (hq2'' : ∀ u v, evParts ((da1, v) :: (d1, u) :: e) ps2.toList = some parts2 := by exact fun _ _ => rfl)
    (ht : C.L.ti t = some tl := by exact rfl) (hk : tl.kind = .slice E := by exact rfl) (hE : C.L.ti E = some te := by exact rfl) (hzs : te.zero.cells.size = te.size := by exact rfl) (hm : Nat.ble (1 * te.size) 16777216 = true := by exact rfl)
    (hc1 : fillL (fun i => some (i * te.size, te.size)) (rowZ 1 te.zero.cells.toList) parts1 = some cs1 := by exact rfl) (hc2 : fillL (fun i => some (i * te.size, te.size)) (rowZ 1 te.zero.cells.toList) parts2 = some cs2 := by exact rfl)
    (hx1 : ∀ u, ev ((d1, u) :: e) x1 = some (sv r1 n1) := by exact fun _ => rfl) (hx1' : ∀ u v, ev ((d2, v) :: (d1, u) :: e) x1 = some (sv r1 n1) := by exact fun _ _ => rfl)
    (hy1 : ∀ u, ev ((d1, u) :: e) y1 = some u := by exact fun _ => rfl) (hy1' : ∀ u v, ev ((d2, v) :: (d1, u) :: e) y1 = some u := by exact fun _ _ => rfl)
    (hx2 : ∀ u v w, ev ((da1, w) :: (d2, v) :: (d1, u) :: e) x2 = some (sv r2 n2) := by exact fun _ _ _ => rfl) (hy2 : ∀ u v w, ev ((da1, w) :: (d2, v) :: (d1, u) :: e) y2 = some v := by exact fun _ _ _ => rfl)
    (hg1 : want ops e o1 = some true := by exact rfl) (hg2 : want ops e o2 = some true := by exact rfl) (hg1' : ∀ u, want ops ((d2, u) :: e) o1 = some true := by exact fun _ => rfl) (hg2' : ∀ u, want ops ((d1, u) :: e) o2 = some true := by exact fun _ => rfl) (hg2'' : ∀ u v, want ops ((da1, v) :: (d1, u) :: e) o2 = some true := by exact fun _ _ => rfl)
    (hga1 : ∀ u, want ops ((d1, u) :: e) oa1 = some true := by exact fun _ => rfl) (hga1' : ∀ u v, want ops ((d2, v) :: (d1, u) :: e) oa1 = some true := by exact fun _ _ => rfl) (hga2 : ∀ u v w, want ops ((da1, w) :: (d2, v) :: (d1, u) :: e) oa2 = some true := by exact fun _ _ _ => rfl)
    (hdd : Nat.beq d2 d1 = false := by exact rfl) (hdd2 : Nat.beq da1 d2 = false := by exact rfl)
    (hl1 : cs1.length = te.size := by exact rfl) (hl2 : cs2.length = te.size := by exact rfl) (hone1 : cs1.all one = true := by exact rfl) (hone2 : cs2.all one = true := by exact rfl) (hbb : Nat.ble te.bytes 10000 = true := by exact rfl) :
    EH C n I (fuel + 4) listed ops Q e (S w0 l) := by
  have ne : ∀ {a b : Nat}, Nat.beq a b = false → a ≠ b := fun {a b} h e => by rw [e] at h; simp at h
  have n1' := ne hd4.1; have n2' := ne hd4.2.1; have n3' := ne hd4.2.2.1; have n4' := ne hd4.2.2.2.1; have n5' := ne hd4.2.2.2.2.1; have n6' := ne hd4.2.2.2.2.2
  have np := ne hp12
  have hb1' : ∀ a b : Nat, (a == b) = true → a = b := fun a b h => by simpa using h
  have hl0 : l = (l.set p1 (rowC r1 E te.size xs1 n1)).set p2 (rowC r2 E te.size xs2 n2) := by
    rw [set_perm_front _ _ _ hr1, set_perm_front _ _ _ hr2]
  have hr2' : ∀ q, (l.set p1 q)[p2]? = some (rowC r2 E te.size xs2 n2) := fun q => by rw [List.getElem?_set_ne np]; exact hr2
  have hI0 : ∀ w, S w0 l w → I w := fun w hw => hI _ _ w (by rw [← hl0]; exact hw)
  have hI1 : ∀ q w, S w0 (l.set p1 q) w → I w := fun q w hw => hI q _ w (by rw [set_perm_front _ _ _ (hr2' q)]; exact hw)
  have fin : ∀ b1 b2 r1', EH C n I (fuel + 1) (((listed.set i1 true).set a1 true).set i2 true) ops Q ((da1, sv r1' (n1 + 1)) :: (d2, .slice (some ⟨b2, 0, none⟩) 1 1) :: (d1, .slice (some ⟨b1, 0, none⟩) 1 1) :: e) (S w0 (cells b2 E cs2 :: l.set p1 (rowC r1' E te.size (xs1 ++ cs1) (n1 + 1)))) := fun b1 b2 r1' => by
    refine eh_way a2 hyE (hway h4 (hga2 _ _ _) (eo_app1 (j := 0) (i := p2 + 1) (b := b2) (r := r2) (xs := xs2) (cs := cs2) hb2 hda2 hna2 (hx2 _ _ _) (hy2 _ _ _) ht hk hE hzs (by simpa using hr2' _) rfl hl2 hone2 hN2 hbb fun r2' => ⟨fun w hw => ?_, ?_⟩))
    · exact hI _ _ w (by simpa using hw.erase 0)
    · exact eh_imp (fun w hw => by simpa using hw.erase 0) (h r1' r2' b1 b2)
  have mid : ∀ b1 b2, EH C n I (fuel + 2) ((listed.set i1 true).set i2 true) ops Q ((d2, .slice (some ⟨b2, 0, none⟩) 1 1) :: (d1, .slice (some ⟨b1, 0, none⟩) 1 1) :: e) (S w0 (cells b2 E cs2 :: cells b1 E cs1 :: l)) := fun b1 b2 => by
    refine eh_way a1 hyC (hway h2 (hga1' _ _) (eo_app1 (j := 1) (i := p1 + 2) (b := b1) (r := r1) (xs := xs1) (cs := cs1) hb1 hda1 hna1 (hx1' _ _) (hy1' _ _) ht hk hE hzs (by simpa using hr1) rfl hl1 hone1 hN1 hbb fun r1' => ⟨fun w hw => ?_, ?_⟩))
    · exact hI1 _ w (by simpa using (hw.erase 0).erase 0)
    · have h5 := fin b1 b2 r1'
      rw [List.set_comm _ _ n4'] at h5
      exact eh_imp (fun w hw => by simpa using S.erase (i := 1) hw) h5
  have wayA : HWay C n I i1 (fuel + 3) listed ops Q e (S w0 l) := by
    refine hway h1 hg1 (eo_buildS ho1 hd1 hn1 ht hk hE hzs hm hq1 hc1 fun b1 => ⟨fun w hw => hI0 w (hw.erase 0), ?_⟩)
    refine eh_ways _ rfl hzA ?_
    have key : ∀ rs : List Nat, (∀ x ∈ rs, x = a1 ∨ x = i2) → HWays C n I (fuel + 2) (listed.set i1 true) ops Q ((d1, .slice (some ⟨b1, 0, none⟩) 1 1) :: e) (S w0 (cells b1 E cs1 :: l)) rs := by
      intro rs
      induction rs with
      | nil => intro _; exact .nil
      | cons x rs ih =>
        intro hx
        refine .cons ?_ (ih fun y hy => hx y (by simp [hy]))
        rcases hx x (by simp) with rfl | rfl
        · refine hway h2 (hga1 _) (eo_app1 (j := 0) (i := p1 + 1) (b := b1) (r := r1) (xs := xs1) (cs := cs1) hb1 hda1 hna1 (hx1 _) (hy1 _) ht hk hE hzs (by simpa using hr1) rfl hl1 hone1 hN1 hbb fun r1' => ⟨fun w hw => hI1 _ w (by simpa using hw.erase 0), ?_⟩)
          refine eh_way i2 hyB (hway h3 (hg2'' _ _) (eo_buildS ho2 hd2 hn2 ht hk hE hzs hm (hq2'' _ _) hc2 fun b2 => ⟨fun w hw => hI1 _ w (by simpa using (hw.erase 0).erase 0), ?_⟩))
          refine eh_le (le_swap hdd2) ?_
          exact eh_imp (fun w hw => by simpa using S.erase (i := 1) hw) (fin b1 b2 r1')
        · exact hway h3 (hg2' _) (eo_buildS ho2 hd2 hn2 ht hk hE hzs hm (hq2' _) hc2 fun b2 => ⟨fun w hw => hI0 w ((hw.erase 0).erase 0), mid b1 b2⟩)
    exact key _ fun x hx => by
      have := List.all_eq_true.1 hyA x hx
      simpa using this
  have wayB : HWay C n I i2 (fuel + 3) listed ops Q e (S w0 l) := by
    refine hway h3 hg2 (eo_buildS ho2 hd2 hn2 ht hk hE hzs hm hq2 hc2 fun b2 => ⟨fun w hw => hI0 w (hw.erase 0), ?_⟩)
    refine eh_way i1 hyD (hway h1 (hg1' _) (eo_buildS ho1 hd1 hn1 ht hk hE hzs hm (hq1' _) hc1 fun b1 => ⟨fun w hw => hI0 w ((hw.erase 0).erase 0), ?_⟩))
    have h5 := mid b1 b2
    rw [List.set_comm _ _ n2'] at h5
    exact eh_le (le_swap hdd) (eh_imp (fun w hw => hw.perm (List.Perm.swap _ _ _)) h5)
  refine eh_ways _ rfl hz0 ?_
  have key : ∀ rs : List Nat, (∀ x ∈ rs, x = i1 ∨ x = i2) → HWays C n I (fuel + 3) listed ops Q e (S w0 l) rs := by
    intro rs
    induction rs with
    | nil => intro _; exact .nil
    | cons x rs ih =>
      intro hx
      refine .cons ?_ (ih fun y hy => hx y (by simp [hy]))
      rcases hx x (by simp) with rfl | rfl
      · exact wayA
      · exact wayB
  exact key _ fun x hx => by
    have := List.all_eq_true.1 hy0 x hx
    simpa using this
theorem rLdfA {F : Hp} {i t sz m c q : Nat} {a : Option Addr} {x : Operand} {ti : TI} {xs cs : List Value} (j : Nat) (hV : Fv w0 F sz a xs m c) (hv : ∀ q, q < ti.size → xs[j + q]? = cs[q]?) (ho : o.op = .load t x := by exact rfl) (ha : ev e x = some (.pointer (some ⟨ob a, oo a + q, none⟩)) := by exact rfl) (ht : C.L.ti t = some ti := by exact rfl) (hk : ti.kind.agg = true := by exact rfl)
    (hs : cs.length = ti.size := by exact rfl) (hi : hs'[i]? = some (frz F) := by exact rfl) (hq : q = j := by first | omega | (dsimp only; omega)) : ER C n o e (Held w0 hs') (.agg cs.toArray) := by
  subst hq
  refine er_loadA ho ha ht hk hs fun w hw j hj => ?_
  have hlt : j < cs.length := by omega
  have := hv j hj
  rw [List.getElem?_eq_getElem hlt] at this
  rw [List.getElem?_eq_getElem hlt, Nat.add_assoc]
  exact ((View.ok hV w (hw.one hi)).2 _ _ this).2
theorem filt_range {α : Type} (L : List α) : ∀ k, k ≤ L.length → (List.range k).filterMap (fun i => L[i]?) = L.take k
  | 0, _ => by simp
  | k + 1, h => by
    rw [List.range_succ, List.filterMap_append, filt_range L k (by omega), List.take_add_one]
    simp [List.getElem?_eq_getElem (show k < L.length by omega)]
theorem perm_ix {α : Type} (n : Nat) (is : List Nat) {L L' : List α} (hd : L.drop n = L'.drop n := by exact rfl) (ht : is.filterMap (fun i => (L.take n)[i]?) = L'.take n := by exact rfl) (hn : (L.take n).length = n := by exact rfl) (h : is.Perm (List.range n) := by decide) : L.Perm L' := by
  have h1 := (h.filterMap fun i => (L.take n)[i]?).symm
  rw [ht, filt_range (L.take n) n (by omega), List.take_take, Nat.min_self] at h1
  have h2 := h1.append_right (L.drop n)
  rw [List.take_append_drop, hd, List.take_append_drop] at h2
  exact h2
end Go.SE
namespace Go.Proofs.YtpbnjifefoniiaaGreatDoor
open Go Go.SE
variable {w0 : World} {w : World} {l : List HP} {i : Nat} {b : Nat} {T : TP.Topo}
def topoO (b : Nat) (T : TP.Topo) : HP := fun h => ∃ r : Option (Nat × Nat), stars [cells b T_topo_Topo [sv r T.doms.length, u64 T.on], rowC r T_mask_Set 1 (u64s T.doms) T.doms.length] h
theorem shut_topo {r : Option (Nat × Nat)} (h : S w0 (TP.laid b r T l) w) : S w0 (topoO b T :: l) w := S.fold (qs := [cells b T_topo_Topo [sv r T.doms.length, u64 T.on], rowC r T_mask_Set 1 (u64s T.doms) T.doms.length]) h fun _ hp => ⟨r, hp⟩
theorem topo_keep {f : FuncId} {args : List Value} {V : Value} (hs : ∀ (l : List HP) (i j : Nat) (r : Option (Nat × Nat)), TP.At l i j b r T → Does cx f args (S w0 l) fun v w => v = V ∧ S w0 l w) : ∀ l, Does cx f args (S w0 (topoO b T :: l)) fun v w => v = V ∧ S w0 (topoO b T :: l) w := fun l =>
  does_open (i := 0) (qs := fun r : Option (Nat × Nat) => [cells b T_topo_Topo [sv r T.doms.length, u64 T.on], rowC r T_mask_Set 1 (u64s T.doms) T.doms.length]) rfl (fun _ hp => hp) fun r =>
    (hs (TP.laid b r T l) 0 1 r (TP.At.laid b r T l)).mono (fun _ h => h) fun _ _ h => ⟨h.1, shut_topo h.2⟩
theorem tOnline (hT : T.Ok) (d : Int) : ∀ l, Does cx F_topo_Topo_Online [ptr b, int d] (S w0 (topoO b T :: l)) fun v w => v = .tuple #[u64 (T.online d), int (T.coresE d)] ∧ S w0 (topoO b T :: l) w := topo_keep fun _ _ _ _ h => TP.Online_any d h hT
theorem tCheck (hT : T.Ok) (d : Int) (m : Nat) (hm : m < 18446744073709551616) : ∀ l, Does cx F_topo_Topo_Check [ptr b, int d, u64 m] (S w0 (topoO b T :: l)) fun v w => v = int (T.checkE d m) ∧ S w0 (topoO b T :: l) w := topo_keep fun _ _ _ _ h => TP.Check_any d m hm h hT
theorem tEffective (hT : T.Ok) (d : Int) (m : Nat) (hm : m < 18446744073709551616) : ∀ l, Does cx F_topo_Topo_Effective [ptr b, int d, u64 m] (S w0 (topoO b T :: l)) fun v w => v = .tuple #[u64 (T.eff d m), int (T.effE d m)] ∧ S w0 (topoO b T :: l) w := topo_keep fun _ _ _ _ h => TP.Effective_any d m hm h hT
end Go.Proofs.YtpbnjifefoniiaaGreatDoor
namespace Go.Proofs.YtpbnjifefoniiaaGreatDoor
open Go Go.SE
structure Grp where
  id : Int
  parent : Int
  weight : Int
  members : Int
  awake : Int
deriving DecidableEq
abbrev gget (L : List Grp) (g : Int) : Option Grp := kfind Grp.id L g
inductive Path (L : List Grp) : Int → List Int → Prop where
  | root {g : Int} {x : Grp} (h : gget L g = some x) (hp : x.parent < 0) : Path L g [g]
  | up {g : Int} {x : Grp} {l : List Int} (h : gget L g = some x) (hp : 0 ≤ x.parent) (hl : Path L x.parent l) : Path L g (g :: l)
theorem Path.ne {L : List Grp} {g : Int} {l : List Int} (h : Path L g l) : ∃ r, l = g :: r := by cases h <;> exact ⟨_, rfl⟩
theorem Path.uniq {L : List Grp} {g : Int} {l : List Int} (h : Path L g l) : ∀ {l' : List Int}, Path L g l' → l = l' := by
  induction h with
  | root h hp =>
    intro l' h'
    cases h' with
    | root _ _ => rfl
    | up h2 hp2 _ => rw [h] at h2; cases h2; omega
  | up h hp _ ih =>
    intro l' h'
    cases h' with
    | root h2 hp2 => rw [h] at h2; cases h2; omega
    | up h2 _ hl2 => rw [h] at h2; cases h2; rw [ih hl2]
theorem Path.get {L : List Grp} {g : Int} {l : List Int} (h : Path L g l) : ∃ x, gget L g = some x := by cases h <;> exact ⟨_, by assumption⟩
theorem Path.mem {L : List Grp} {g : Int} {l : List Int} (h : Path L g l) : ∀ i ∈ l, ∃ x, gget L i = some x := by
  induction h with
  | root h _ => intro i hi; simp at hi; subst hi; exact ⟨_, h⟩
  | up h _ _ ih =>
    intro i hi
    rcases List.mem_cons.1 hi with rfl | hi
    · exact ⟨_, h⟩
    · exact ih i hi
theorem Path.sub {L : List Grp} {g : Int} {l : List Int} (h : Path L g l) : ∀ i ∈ l, ∃ a b, l = a ++ i :: b ∧ Path L i (i :: b) := by
  induction h with
  | root h hp => intro i hi; simp at hi; subst hi; exact ⟨[], [], rfl, .root h hp⟩
  | up h hp hl ih =>
    intro i hi
    rcases List.mem_cons.1 hi with rfl | hi
    · exact ⟨[], _, rfl, .up h hp hl⟩
    · obtain ⟨a, b, h1, h2⟩ := ih i hi
      exact ⟨_ :: a, b, by rw [h1]; rfl, h2⟩
theorem Path.nodup {L : List Grp} {g : Int} {l : List Int} (h : Path L g l) : l.Nodup := by
  induction h with
  | root h hp => simp
  | @up g x l h hp hl ih =>
    refine List.nodup_cons.2 ⟨fun hm => ?_, ih⟩
    obtain ⟨a, b, h1, h2⟩ := hl.sub _ hm
    have h3 : g :: b = g :: l := h2.uniq (.up h hp hl)
    have h4 : b = l := by simpa using h3
    have := congrArg List.length h1
    rw [h4] at this
    simp at this
    omega
theorem Path.above {L : List Grp} {g i : Int} {l m : List Int} (h : Path L g l) (hi : i ∈ l) (hm : Path L i m) : ∃ a, l = a ++ m := by
  obtain ⟨a, b, h1, h2⟩ := h.sub i hi
  exact ⟨a, by rw [h1, h2.uniq hm]⟩
theorem Path.same {L L' : List Grp} (hs : ∀ g x, gget L g = some x → ∃ y, gget L' g = some y ∧ y.parent = x.parent) {g : Int} {l : List Int} (h : Path L g l) : Path L' g l := by
  induction h with
  | root h hp => obtain ⟨y, h1, h2⟩ := hs _ _ h; exact .root h1 (by omega)
  | up h hp _ ih => obtain ⟨y, h1, h2⟩ := hs _ _ h; exact .up h1 (by omega) (by rw [h2]; exact ih)
def pathN (L : List Grp) : Nat → Int → List Int
  | 0, _ => []
  | k + 1, g => match gget L g with
    | none => []
    | some x => if x.parent < 0 then [g] else g :: pathN L k x.parent
theorem Path.pathN {L : List Grp} {g : Int} {l : List Int} (h : Path L g l) : ∀ k, l.length ≤ k → pathN L k g = l := by
  induction h with
  | root h hp =>
    intro k hk
    cases k with
    | zero => simp at hk
    | succ k => simp [Go.Proofs.YtpbnjifefoniiaaGreatDoor.pathN, h, hp]
  | up h hp hl ih =>
    intro k hk
    cases k with
    | zero => simp at hk
    | succ k =>
      simp only [Go.Proofs.YtpbnjifefoniiaaGreatDoor.pathN, h]
      rw [if_neg (by omega), ih k (by simpa using hk)]
structure Forest where
  room : Nat
  last : Int
  L : List Grp
abbrev Forest.get (F : Forest) (g : Int) : Option Grp := gget F.L g
def Forest.path (F : Forest) (g : Int) : List Int := pathN F.L 8 g
def Forest.depth (F : Forest) (g : Int) : Nat := (F.path g).length
def Forest.root (F : Forest) (g : Int) : Int := (F.path g).getLastD 0
def Forest.below (F : Forest) (g top : Int) : Bool := (F.path g).contains top
def Forest.kids (F : Forest) (g : Int) : List Int := (F.L.filter fun x => decide (x.parent = g ∧ 0 < g)).map Grp.id
def Forest.fan (F : Forest) (g : Int) : Int := (F.kids g).length + ((F.get g).map Grp.members).getD 0
structure Forest.Ok (F : Forest) (D : Nat) : Prop where
  room : 1 ≤ F.room ∧ F.room ≤ 64
  few : F.L.length ≤ F.room
  srt : Srt Grp.id F.L
  ids : ∀ x ∈ F.L, 1 ≤ x.id ∧ x.id ≤ F.last
  path : ∀ x ∈ F.L, ∃ l, Path F.L x.id l ∧ l.length ≤ 8
  roots : ∀ x ∈ F.L, (x.parent < 0 → x.parent = -1) ∧ (x.parent < 0 ↔ x.id ≤ D)
  has : ∀ d : Int, 1 ≤ d → d ≤ D → ∃ x ∈ F.L, x.id = d
  pos : ∀ x ∈ F.L, 0 ≤ x.parent → 1 ≤ x.parent
  wt : ∀ x ∈ F.L, 1 ≤ x.weight ∧ x.weight ≤ 10000
  mem : ∀ x ∈ F.L, 0 ≤ x.awake ∧ x.awake ≤ x.members
  fans : ∀ x ∈ F.L, F.fan x.id ≤ 32
  last : (D : Int) ≤ F.last
namespace Forest
variable {F : Forest} {D : Nat}
theorem Ok.nod (h : F.Ok D) : Nod Grp.id F.L := h.srt.nod
theorem Ok.getOf (h : F.Ok D) {x : Grp} (hx : x ∈ F.L) : F.get x.id = some x := kfind_of h.nod hx
theorem Ok.pathOf (h : F.Ok D) {g : Int} {x : Grp} (hg : F.get g = some x) : Path F.L g (F.path g) ∧ (F.path g).length ≤ 8 := by
  obtain ⟨l, h1, h2⟩ := h.path x (kfind_mem hg)
  rw [kfind_key hg] at h1
  have := h1.pathN 8 h2
  rw [Forest.path, this]; exact ⟨h1, h2⟩
theorem Ok.pathIs (h : F.Ok D) {g : Int} {l : List Int} (hl : Path F.L g l) : F.path g = l := by
  obtain ⟨x, hx⟩ := hl.get
  exact (h.pathOf hx).1.uniq hl
theorem Ok.pathRoot (h : F.Ok D) {g : Int} {x : Grp} (hg : F.get g = some x) (hp : x.parent < 0) : F.path g = [g] := h.pathIs (.root hg hp)
theorem Ok.parentIn (h : F.Ok D) {g : Int} {x : Grp} (hg : F.get g = some x) (hp : 0 ≤ x.parent) : ∃ y, F.get x.parent = some y := by
  obtain ⟨l, h1, _⟩ := h.path x (kfind_mem hg)
  rw [kfind_key hg] at h1
  cases h1 with
  | root h2 hp2 => cases hg.symm.trans h2; omega
  | up h2 _ hl => cases hg.symm.trans h2; exact hl.get
theorem Ok.pathUp (h : F.Ok D) {g : Int} {x : Grp} (hg : F.get g = some x) (hp : 0 ≤ x.parent) : F.path g = g :: F.path x.parent := by
  obtain ⟨y, hy⟩ := h.parentIn hg hp
  exact h.pathIs (.up hg hp (h.pathOf hy).1)
theorem Ok.depthPos (h : F.Ok D) {g : Int} {x : Grp} (hg : F.get g = some x) : 1 ≤ F.depth g := by
  obtain ⟨r, hr⟩ := (h.pathOf hg).1.ne
  rw [depth, hr]; simp
theorem _root_.Go.Proofs.YtpbnjifefoniiaaGreatDoor.Path.last {L : List Grp} {g : Int} {l : List Int} (h : Path L g l) : ∃ x, gget L (l.getLastD 0) = some x ∧ x.parent < 0 ∧ l.getLastD 0 ∈ l := by
  induction h with
  | root h hp => exact ⟨_, by simpa using h, hp, by simp⟩
  | @up g x l h hp hl ih =>
    obtain ⟨r, rfl⟩ := hl.ne
    obtain ⟨y, h1, h2, h3⟩ := ih
    have e : (g :: x.parent :: r).getLastD 0 = (x.parent :: r).getLastD 0 := by simp
    rw [e]
    exact ⟨y, h1, h2, List.mem_cons_of_mem _ h3⟩
theorem Ok.rootIn (h : F.Ok D) {g : Int} {x : Grp} (hg : F.get g = some x) : 1 ≤ F.root g ∧ F.root g ≤ D := by
  obtain ⟨y, h1, h2, _⟩ := (h.pathOf hg).1.last
  have h3 := kfind_mem h1
  have h4 := kfind_key h1
  have h5 := (h.roots y h3).2.1 h2
  have h6 := (h.ids y h3).1
  rw [Forest.root]; omega
theorem Ok.belowSelf (h : F.Ok D) {g : Int} {x : Grp} (hg : F.get g = some x) : F.below g g = true := by
  obtain ⟨r, hr⟩ := (h.pathOf hg).1.ne
  rw [below, hr]; simp
theorem Ok.rootBelow (h : F.Ok D) {g : Int} {x : Grp} (hg : F.get g = some x) : F.below g (F.root g) = true := by
  obtain ⟨y, _, _, h3⟩ := (h.pathOf hg).1.last
  rw [below, Forest.root]; simpa using h3
end Forest
end Go.Proofs.YtpbnjifefoniiaaGreatDoor
namespace Go.Proofs.YtpbnjifefoniiaaGreatDoor
open Go Go.SE
abbrev Ch := Nat × Nat
def given (L : Rat) (c : Ch) : Rat := if (c.2 : Rat) < L * (c.1 : Rat) then (c.2 : Rat) else L * (c.1 : Rat)
def full (c : Ch) : Rat := (c.2 : Rat) / (c.1 : Rat)
def sumG (L : Rat) : List Ch → Rat
  | [] => 0
  | c :: r => given L c + sumG L r
def wS : List Ch → Nat
  | [] => 0
  | c :: r => c.1 + wS r
def cS : List Ch → Nat
  | [] => 0
  | c :: r => c.2 + cS r
def Wt (l : List Ch) : Prop := ∀ c ∈ l, 1 ≤ c.1
theorem wpos {c : Ch} (h : 1 ≤ c.1) : (0 : Rat) < (c.1 : Rat) := by
  have : ((1 : Nat) : Rat) ≤ (c.1 : Rat) := by exact_mod_cast h
  have e : ((1 : Nat) : Rat) = 1 := rfl
  grind
theorem cap_nn (c : Ch) : (0 : Rat) ≤ (c.2 : Rat) := nat_nonneg c.2
theorem full_mul {c : Ch} (h : 1 ≤ c.1) : full c * (c.1 : Rat) = (c.2 : Rat) := by
  have := wpos h
  rw [full]; exact Rat.div_mul_cancel (by grind)
theorem full_nn {c : Ch} (h : 1 ≤ c.1) : 0 ≤ full c := by
  have h1 := wpos h
  have h2 := full_mul h
  have h3 := cap_nn c
  rcases Rat.le_total (a := 0) (b := full c) with h4 | h4
  · exact h4
  · by_cases h5 : full c = 0
    · grind
    · have h6 : full c < 0 := by grind
      have h7 := Rat.mul_lt_mul_of_pos_right h6 h1
      grind
theorem mul_le {a b w : Rat} (h : a ≤ b) (hw : 0 ≤ w) : a * w ≤ b * w := Rat.mul_le_mul_of_nonneg_right h hw
theorem mul_lt {a b w : Rat} (h : a < b) (hw : 0 < w) : a * w < b * w := Rat.mul_lt_mul_of_pos_right h hw
theorem given_cap {c : Ch} (h : 1 ≤ c.1) {L : Rat} (hL : full c ≤ L) : given L c = (c.2 : Rat) := by
  have h1 := mul_le hL (show (0 : Rat) ≤ (c.1 : Rat) by have := wpos h; grind)
  rw [full_mul h] at h1
  unfold given
  split
  · rfl
  · grind
theorem given_lin {c : Ch} (h : 1 ≤ c.1) {L : Rat} (hL : L ≤ full c) : given L c = L * (c.1 : Rat) := by
  have h1 := mul_le hL (show (0 : Rat) ≤ (c.1 : Rat) by have := wpos h; grind)
  rw [full_mul h] at h1
  unfold given
  split
  · grind
  · rfl
theorem given_mono {c : Ch} (h : 1 ≤ c.1) {L M : Rat} (hL : L ≤ M) : given L c ≤ given M c := by
  have hw := wpos h
  have h1 := mul_le hL (show (0 : Rat) ≤ (c.1 : Rat) by grind)
  unfold given
  split <;> split <;> grind
theorem sum_mono : ∀ {l : List Ch}, Wt l → ∀ {L M : Rat}, L ≤ M → sumG L l ≤ sumG M l
  | [], _, _, _, _ => by simp [sumG]
  | c :: r, h, L, M, hL => by
    have h1 := given_mono (h c (by simp)) hL
    have h2 := sum_mono (l := r) (fun d hd => h d (by simp [hd])) hL
    simp only [sumG]; grind
theorem sum_cap : ∀ {l : List Ch}, Wt l → ∀ {L : Rat}, (∀ c ∈ l, full c ≤ L) → sumG L l = (cS l : Rat)
  | [], _, _, _ => rfl
  | c :: r, h, L, hL => by
    rw [sumG, given_cap (h c (by simp)) (hL c (by simp)), sum_cap (l := r) (fun d hd => h d (by simp [hd])) (fun d hd => hL d (by simp [hd])), cS]
    push_cast; rfl
theorem sum_lin : ∀ {l : List Ch}, Wt l → ∀ {L : Rat}, (∀ c ∈ l, L ≤ full c) → sumG L l = L * (wS l : Rat)
  | [], _, _, _ => by simp [sumG, wS]
  | c :: r, h, L, hL => by
    rw [sumG, given_lin (h c (by simp)) (hL c (by simp)), sum_lin (l := r) (fun d hd => h d (by simp [hd])) (fun d hd => hL d (by simp [hd])), wS]
    push_cast; grind
theorem sum_app (L : Rat) : ∀ (a b : List Ch), sumG L (a ++ b) = sumG L a + sumG L b
  | [], b => by simp only [sumG, List.nil_append]; grind
  | c :: a, b => by simp only [List.cons_append, sumG, sum_app L a b]; grind
theorem cS_app : ∀ (a b : List Ch), cS (a ++ b) = cS a + cS b
  | [], b => by simp [cS]
  | c :: a, b => by simp only [List.cons_append, cS, cS_app a b]; omega
theorem wS_app : ∀ (a b : List Ch), wS (a ++ b) = wS a + wS b
  | [], b => by simp [wS]
  | c :: a, b => by simp only [List.cons_append, wS, wS_app a b]; omega
theorem sum_perm (L : Rat) {a b : List Ch} (h : a.Perm b) : sumG L a = sumG L b := by
  induction h with
  | nil => rfl
  | cons x _ ih => simp only [sumG, ih]
  | swap x y l => simp only [sumG]; grind
  | trans _ _ h1 h2 => rw [h1, h2]
structure IsLevel (x : Rat) (l : List Ch) (L : Rat) : Prop where
  nn : 0 ≤ L
  sum : sumG L l = x
  least : ∀ M, 0 ≤ M → M < L → sumG M l < x
theorem IsLevel.uniq {x : Rat} {l : List Ch} {L M : Rat} (h1 : IsLevel x l L) (h2 : IsLevel x l M) : L = M := by
  rcases Rat.le_total (a := L) (b := M) with h | h
  · by_cases e : L = M
    · exact e
    · have h3 := h2.least L h1.nn (by grind)
      rw [h1.sum] at h3; grind
  · by_cases e : L = M
    · exact e
    · have h3 := h1.least M h2.nn (by grind)
      rw [h2.sum] at h3; grind
theorem IsLevel.perm {x : Rat} {a b : List Ch} (h : a.Perm b) {L : Rat} (hl : IsLevel x a L) : IsLevel x b L :=
  ⟨hl.nn, by rw [← sum_perm L h]; exact hl.sum, fun M h1 h2 => by rw [← sum_perm M h]; exact hl.least M h1 h2⟩
def levelP : Rat → Nat → Rat → List Ch → Rat
  | _, _, at', [] => at'
  | x, op, at', c :: r => if x / (op : Rat) < full c then x / (op : Rat) else if x - (c.2 : Rat) = 0 then (if 0 < c.2 then full c else at') else levelP (x - (c.2 : Rat)) (op - c.1) (if 0 < c.2 then full c else at') r
theorem div_lt_iff' {x w y : Rat} (hw : 0 < w) : x / w < y ↔ x < y * w := Rat.div_lt_iff hw
structure Walk (x0 x at' : Rat) (P R : List Ch) : Prop where
  rem : x = x0 - (cS P : Rat)
  nn : 0 ≤ x
  atn : 0 ≤ at'
  top : ∀ c ∈ P, full c ≤ at'
  up : ∀ c ∈ R, at' ≤ full c
  share : R ≠ [] → at' * (wS R : Rat) ≤ x
theorem wS_pos {c : Ch} {r : List Ch} (h : 1 ≤ c.1) : (0 : Rat) < (wS (c :: r) : Rat) := by
  have : ((1 : Nat) : Rat) ≤ (wS (c :: r) : Rat) := by exact_mod_cast (show 1 ≤ c.1 + wS r by omega)
  have e : ((1 : Nat) : Rat) = 1 := rfl
  grind
theorem walk_level {x0 : Rat} : ∀ (R P : List Ch) (x at' : Rat), Wt (P ++ R) → R.Pairwise (fun a b => full a ≤ full b) → x0 ≤ (cS (P ++ R) : Rat) → Walk x0 x at' P R → (R = [] → IsLevel x0 P at') →
    IsLevel x0 (P ++ R) (levelP x (wS R) at' R)
  | [], P, x, at', hw, _, _, h, h0 => by rw [List.append_nil]; exact h0 rfl
  | c :: r, P, x, at', hw, hs, hx, h, _ => by
    have hc : 1 ≤ c.1 := hw c (by simp)
    have hcw := wpos hc
    have hwr := wS_pos (r := r) hc
    have hsr := h.share (by simp)
    have hP : Wt P := fun d hd => hw d (by simp [hd])
    have hR : Wt (c :: r) := fun d hd => hw d (List.mem_append_right _ hd)
    obtain ⟨hs1, hs2⟩ := List.pairwise_cons.1 hs
    rw [levelP]
    by_cases h1 : x / (wS (c :: r) : Rat) < full c
    · rw [if_pos h1]
      have hatL : at' ≤ x / (wS (c :: r) : Rat) := by rw [← Rat.not_lt, div_lt_iff' hwr, Rat.not_lt]; exact hsr
      have hLx : x / (wS (c :: r) : Rat) * (wS (c :: r) : Rat) = x := Rat.div_mul_cancel (by grind)
      generalize x / (wS (c :: r) : Rat) = L at *
      have hlin : ∀ M, M ≤ L → ∀ d ∈ c :: r, M ≤ full d := fun M hM d hd => by
        rcases List.mem_cons.1 hd with rfl | hd
        · grind
        · have := hs1 d hd; grind
      refine ⟨by have := h.atn; grind, ?_, fun M hM hML => ?_⟩
      · rw [sum_app, sum_cap hP (fun d hd => by have := h.top d hd; grind), sum_lin hR (hlin L (by grind)), hLx, h.rem]; grind
      · rw [sum_app, sum_lin hR (hlin M (by grind))]
        have h2 := sum_mono hP (L := M) (M := L) (by grind)
        rw [sum_cap hP (L := L) (fun d hd => by have := h.top d hd; grind)] at h2
        have h3 := mul_lt hML hwr
        have h4 := h.rem
        grind
    · rw [if_neg h1]
      have hge : full c * (wS (c :: r) : Rat) ≤ x := by
        rw [div_lt_iff' hwr, Rat.not_lt] at h1; exact h1
      have hfm := full_mul hc
      have hfn := full_nn hc
      have hwe : (wS (c :: r) : Rat) = (c.1 : Rat) + (wS r : Rat) := by simp only [wS]; push_cast; rfl
      have hrn : (0 : Rat) ≤ (wS r : Rat) := nat_nonneg _
      have hfr : 0 ≤ full c * (wS r : Rat) := Rat.mul_nonneg hfn hrn
      have hx1 : full c * (wS r : Rat) ≤ x - (c.2 : Rat) := by rw [hwe] at hge; grind
      have hatc : at' ≤ full c := h.up c (by simp)
      have hsub : wS (c :: r) - c.1 = wS r := by simp [wS]
      rw [hsub]
      have hat2 : (if 0 < c.2 then full c else at') = full c := by
        by_cases hc2 : 0 < c.2
        · rw [if_pos hc2]
        · rw [if_neg hc2]
          have e : c.2 = 0 := by omega
          have : full c = 0 := by
            unfold full
            rw [e, Rat.div_def]
            exact Rat.zero_mul _
          have := h.atn
          grind
      rw [hat2]
      have hPc : P ++ c :: r = (P ++ [c]) ++ r := by simp
      have hcS : (cS (P ++ [c]) : Rat) = (cS P : Rat) + (c.2 : Rat) := by rw [cS_app]; simp only [cS]; push_cast; grind
      have hrem : x - (c.2 : Rat) = x0 - (cS (P ++ [c]) : Rat) := by rw [hcS, h.rem]; grind
      have htop : ∀ d ∈ P ++ [c], full d ≤ full c := fun d hd => by
        rcases List.mem_append.1 hd with hd | hd
        · have := h.top d hd; grind
        · simp at hd; subst hd; exact Rat.le_refl
      have hPc1 : Wt (P ++ [c]) := fun d hd => hw d (by rw [hPc]; exact List.mem_append_left _ hd)
      have hend : x - (c.2 : Rat) = 0 → r = [] ∨ full c = 0 := fun h2 => by
        by_cases hfc : full c = 0
        · exact .inr hfc
        · left
          cases r with
          | nil => rfl
          | cons d r =>
            have hd := wS_pos (r := r) (hw d (by simp))
            have := Rat.mul_pos (show (0 : Rat) < full c by grind) hd
            grind
      have hlev : r = [] → IsLevel x0 (P ++ [c]) (full c) := fun hr => by
        subst hr
        have hxe : x - (c.2 : Rat) = 0 := by
          rw [hPc, List.append_nil] at hx
          have : 0 ≤ x - (c.2 : Rat) := by grind
          grind
        refine ⟨hfn, ?_, fun M hM hML => ?_⟩
        · rw [sum_cap hPc1 htop]; grind
        · rw [sum_app]
          have h2 := sum_mono hP (L := M) (M := full c) (by grind)
          rw [sum_cap hP (L := full c) (fun d hd => by have := h.top d hd; grind)] at h2
          have h3 : sumG M [c] = M * (c.1 : Rat) := by
            simp only [sumG]; rw [given_lin hc (by grind)]; grind
          have h4 := mul_lt hML hcw
          rw [h3]
          grind
      by_cases h2 : x - (c.2 : Rat) = 0
      · rw [if_pos h2]
        rcases hend h2 with hr | hfc
        · have := hlev hr
          rw [hPc, hr, List.append_nil]; exact this
        · rw [hfc]
          have hz : ∀ M, M = 0 → sumG M (P ++ c :: r) = 0 := fun M hM => by
            subst hM
            rw [sum_lin hw (fun d hd => full_nn (hw d hd))]; grind
          have hx00 : x0 = 0 := by
            have h5 : (cS (P ++ [c]) : Rat) = 0 := by
              have h6 := sum_cap hPc1 htop
              rw [hfc, sum_lin hPc1 (fun d hd => full_nn (hPc1 d hd))] at h6
              grind
            grind
          exact ⟨Rat.le_refl, by rw [hz 0 rfl, hx00], fun M h5 h6 => by grind⟩
      · rw [if_neg h2]
        have ih := walk_level r (P ++ [c]) (x - (c.2 : Rat)) (full c) (by rw [← hPc]; exact hw) hs2 (by rw [← hPc]; exact hx)
          ⟨hrem, by grind, hfn, htop, hs1, fun _ => hx1⟩ (fun hr => hlev hr)
        rw [hPc]; exact ih
theorem level_is {x : Rat} {l : List Ch} (hw : Wt l) (hs : l.Pairwise (fun a b => full a ≤ full b)) (h0 : 0 ≤ x) (hx : x ≤ (cS l : Rat)) : IsLevel x l (levelP x (wS l) 0 l) := by
  have h := walk_level (x0 := x) l [] x 0 (by simpa using hw) hs (by simpa using hx)
    ⟨by simp only [cS]; grind, h0, Rat.le_refl, by simp, fun c hc => full_nn (hw c hc), fun _ => by grind⟩ (fun e => by
      subst e
      have : (cS ([] : List Ch) : Rat) = 0 := rfl
      refine ⟨Rat.le_refl, ?_, fun M h1 h2 => by grind⟩
      simp only [sumG]; grind)
  simpa using h
end Go.Proofs.YtpbnjifefoniiaaGreatDoor
namespace Go.Proofs.YtpbnjifefoniiaaGreatDoor
open Go Go.SE
structure Leaf where
  group : Int
  weight : Int
def many (F : Forest) (ls : List Leaf) (g : Int) : Nat := (ls.filter fun l => F.below l.group g).length
def kidsL (F : Forest) (ls : List Leaf) (g : Int) : List Int := (F.kids g).filter fun c => decide (0 < many F ls c)
def leavesAt (ls : List Leaf) (g : Int) : List Nat := (List.range ls.length).filter fun i => (ls[i]?).any fun l => decide (l.group = g)
def wtG (F : Forest) (c : Int) : Nat := (((F.get c).map Grp.weight).getD 0).toNat
def wtL (ls : List Leaf) (i : Nat) : Nat := (((ls[i]?).map Leaf.weight).getD 0).toNat
def chs (F : Forest) (ls : List Leaf) (g : Int) : List Ch := (kidsL F ls g).map (fun c => (wtG F c, many F ls c)) ++ (leavesAt ls g).map fun i => (wtL ls i, 1)
open Classical in
noncomputable def lvl (x : Rat) (l : List Ch) : Rat := if h : ∃ L, IsLevel x l L then Classical.choose h else 0
theorem lvl_is {x L : Rat} {l : List Ch} (h : IsLevel x l L) : lvl x l = L := by
  have hex : ∃ L, IsLevel x l L := ⟨L, h⟩
  rw [lvl, dif_pos hex]
  exact (Classical.choose_spec hex).uniq h
noncomputable def rateP (F : Forest) (ls : List Leaf) (x0 : Rat) : List Int → Rat
  | [] => 0
  | [_] => x0
  | c :: g :: rest => given (lvl (rateP F ls x0 (g :: rest)) (chs F ls g)) (wtG F c, many F ls c)
noncomputable def rateG (F : Forest) (ls : List Leaf) (x0 : Rat) (g : Int) : Rat := rateP F ls x0 (F.path g)
noncomputable def rateL (F : Forest) (ls : List Leaf) (x0 : Rat) (i : Nat) : Rat :=
  match ls[i]? with
  | none => 0
  | some l => given (lvl (rateG F ls x0 l.group) (chs F ls l.group)) (wtL ls i, 1)
theorem one_sum {α : Type} (p : α → Bool) : ∀ (K : List α), (∀ c ∈ K, ∀ c' ∈ K, p c = true → p c' = true → c = c') → K.Nodup → (K.map fun c => if p c then 1 else 0).sum = if K.any p then 1 else 0
  | [], _, _ => rfl
  | c :: K, h, hn => by
    rw [List.nodup_cons] at hn
    have ih := one_sum p K (fun a ha b hb => h a (by simp [ha]) b (by simp [hb])) hn.2
    simp only [List.map_cons, List.sum_cons, ih, List.any_cons]
    by_cases hc : p c = true
    · have hno : K.any p = false := by
        rw [List.any_eq_false]
        intro d hd hp
        have := h c (by simp) d (by simp [hd]) hc hp
        subst this; exact hn.1 hd
      simp [hc, hno]
    · have hc : p c = false := by simpa using hc
      simp [hc]
section
variable {F : Forest} {D : Nat} {ls : List Leaf} {g : Int} {x : Grp} {x0 : Rat}
theorem kids_mem (h : F.Ok D) {c : Int} (hg : 0 < g) : c ∈ F.kids g ↔ ∃ y, F.get c = some y ∧ y.parent = g := by
  simp only [Forest.kids, List.mem_map, List.mem_filter, decide_eq_true_eq]
  constructor
  · rintro ⟨y, ⟨h1, h2, _⟩, rfl⟩; exact ⟨y, h.getOf h1, h2⟩
  · rintro ⟨y, h1, h2⟩; exact ⟨y, ⟨kfind_mem h1, h2, hg⟩, kfind_key h1⟩
theorem kids_srt (h : F.Ok D) : (F.kids g).Pairwise (· < ·) := by
  have := h.srt
  exact List.Pairwise.sublist (List.Sublist.map _ List.filter_sublist) this
theorem kids_nodup (h : F.Ok D) : (F.kids g).Nodup := (kids_srt h).imp fun h e => by omega
theorem getPos (h : F.Ok D) (hg : F.get g = some x) : 1 ≤ g := by
  have := (h.ids x (kfind_mem hg)).1
  rw [kfind_key hg] at this; exact this
theorem one_below (h : F.Ok D) (hg : F.get g = some x) {l : Int} {y : Grp} (hl : F.get l = some y) :
    (if F.below l g then 1 else 0) = (if l = g then 1 else 0) + ((F.kids g).map fun c => if F.below l c then 1 else 0).sum := by
  have hP := (h.pathOf hl).1
  have hg1 := getPos h hg
  have kidPath : ∀ c ∈ F.kids g, F.path c = c :: F.path g := fun c hc => by
    obtain ⟨z, h1, h2⟩ := (kids_mem h (by omega)).1 hc
    rw [h.pathUp h1 (by omega), h2]
  rw [one_sum (fun c => F.below l c) (F.kids g) (fun c hc c' hc' h1 h2 => ?_) (kids_nodup h)]
  · by_cases hlg : l = g
    · subst hlg
      have hno : (F.kids l).any (fun c => F.below l c) = false := by
        rw [List.any_eq_false]
        intro c hc hb
        have hb : c ∈ F.path l := by simpa [Forest.below] using hb
        obtain ⟨z, h1, h2⟩ := (kids_mem h (by omega)).1 hc
        obtain ⟨a, ha⟩ := hP.above hb (h.pathOf h1).1
        rw [kidPath c hc] at ha
        have := congrArg List.length ha
        simp at this
        omega
      rw [h.belowSelf hl, hno]; simp
    · by_cases hb : g ∈ F.path l
      · have hbt : F.below l g = true := by simpa [Forest.below] using hb
        obtain ⟨a, b, h1, h2⟩ := hP.sub g hb
        have hane : a ≠ [] := by
          rintro rfl
          obtain ⟨r, hr⟩ := hP.ne
          rw [hr] at h1
          simp at h1
          exact hlg h1.1
        obtain ⟨a', c, rfl⟩ : ∃ a' c, a = a' ++ [c] := ⟨a.dropLast, a.getLast hane, (List.dropLast_concat_getLast hane).symm⟩
        have hc : c ∈ F.path l := by rw [h1]; simp
        obtain ⟨a2, b2, h3, h4⟩ := hP.sub c hc
        have h5 : b2 = g :: b := by
          have hnd := hP.nodup
          have e1 : a' ++ c :: (g :: b) = a2 ++ c :: b2 := by rw [← h3, h1]; simp
          have h6 := List.append_inj_left e1
          rw [h1] at hnd
          have key : ∀ (u v u' v' : List Int), u ++ c :: v = u' ++ c :: v' → (u ++ c :: v).Nodup → v = v' := by
            intro u
            induction u with
            | nil =>
              intro v u' v' he hn
              cases u' with
              | nil => simpa using he
              | cons d u' =>
                simp at he
                obtain ⟨rfl, rfl⟩ := he
                simp at hn
            | cons d u ih =>
              intro v u' v' he hn
              cases u' with
              | nil =>
                simp at he
                obtain ⟨rfl, rfl⟩ := he
                simp at hn
              | cons d' u' =>
                simp at he
                exact ih v u' v' he.2 (List.nodup_cons.1 (show (d :: (u ++ c :: v)).Nodup from hn)).2
          exact (key _ _ _ _ e1 (by simpa using hnd)).symm
        have hck : c ∈ F.kids g := by
          rw [h5] at h4
          rw [kids_mem h (by omega)]
          cases h4 with
          | up hz hzp hl' => exact ⟨_, hz, by obtain ⟨r, hr⟩ := hl'.ne; simp at hr; exact hr.1.symm⟩
        have hany : (F.kids g).any (fun c => F.below l c) = true := by
          rw [List.any_eq_true]; exact ⟨c, hck, by simpa [Forest.below] using hc⟩
        rw [hbt, hany]; simp [hlg]
      · have hbf : F.below l g = false := by simpa [Forest.below] using hb
        have hany : (F.kids g).any (fun c => F.below l c) = false := by
          rw [List.any_eq_false]
          intro c hc hb'
          have hb' : c ∈ F.path l := by simpa [Forest.below] using hb'
          obtain ⟨z, h1, h2⟩ := (kids_mem h (by omega)).1 hc
          obtain ⟨a, ha⟩ := hP.above hb' (h.pathOf h1).1
          rw [kidPath c hc] at ha
          obtain ⟨r, hr⟩ := (h.pathOf hg).1.ne
          exact hb (by rw [ha, hr]; simp)
        rw [hbf, hany]; simp [hlg]
  · have h1 : c ∈ F.path l := by simpa [Forest.below] using h1
    have h2 : c' ∈ F.path l := by simpa [Forest.below] using h2
    obtain ⟨z, h3, _⟩ := (kids_mem h (by omega)).1 hc
    obtain ⟨z', h4, _⟩ := (kids_mem h (by omega)).1 hc'
    obtain ⟨a, ha⟩ := hP.above h1 (h.pathOf h3).1
    obtain ⟨a', ha'⟩ := hP.above h2 (h.pathOf h4).1
    rw [kidPath c hc] at ha
    rw [kidPath c' hc'] at ha'
    have e := ha.symm.trans ha'
    have hlen : a.length = a'.length := by
      have := congrArg List.length e
      simp at this; omega
    have := (List.append_inj e hlen).2
    simpa using (List.cons.inj this).1
theorem many_cons (l : Leaf) : many F (l :: ls) g = (if F.below l.group g then 1 else 0) + many F ls g := by
  simp only [many, List.filter_cons]
  split <;> simp [*] <;> omega
theorem many_split (h : F.Ok D) (hg : F.get g = some x) : ∀ (ls : List Leaf), (∀ l ∈ ls, ∃ y, F.get l.group = some y) → many F ls g = (ls.filter fun l => decide (l.group = g)).length + ((F.kids g).map (many F ls)).sum
  | [], _ => by
    have : ∀ K : List Int, (K.map (many F [])).sum = 0 := fun K => by induction K with
      | nil => rfl
      | cons c K ih => simp only [List.map_cons, List.sum_cons, ih]; rfl
    rw [show many F [] g = 0 from rfl, this]; rfl
  | l :: ls, hin => by
    obtain ⟨y, hy⟩ := hin l (by simp)
    have ih := many_split h hg ls fun l hl => hin l (by simp [hl])
    have h1 := one_below h hg hy
    have h2 : ∀ K : List Int, (K.map (many F (l :: ls))).sum = (K.map fun c => if F.below l.group c then 1 else 0).sum + (K.map (many F ls)).sum := fun K => by
      induction K with
      | nil => rfl
      | cons c K ih => simp only [List.map_cons, List.sum_cons, ih, many_cons]; omega
    rw [many_cons, h1, ih, h2, List.filter_cons]
    by_cases e : l.group = g
    · simp [e]; omega
    · simp [e]; omega
end
end Go.Proofs.YtpbnjifefoniiaaGreatDoor
namespace Go.Proofs.YtpbnjifefoniiaaGreatDoor
open Go Go.SE
section
variable {F : Forest} {D : Nat} {ls : List Leaf} {g : Int} {x : Grp} {x0 : Rat}
theorem leaves_len (ls : List Leaf) (g : Int) : (leavesAt ls g).length = (ls.filter fun l => decide (l.group = g)).length := by
  have key : ∀ (ls : List Leaf), ((List.range ls.length).filter fun i => (ls[i]?).any fun l => decide (l.group = g)).length = (ls.filter fun l => decide (l.group = g)).length := by
    intro ls
    induction ls with
    | nil => rfl
    | cons a ls ih =>
      have e : List.range (a :: ls).length = 0 :: (List.range ls.length).map (· + 1) := by
        rw [List.length_cons, List.range_succ_eq_map]
      rw [e, List.filter_cons, List.filter_map, List.filter_cons]
      have e2 : (List.range ls.length).filter ((fun i => ((a :: ls)[i]?).any fun l => decide (l.group = g)) ∘ (· + 1)) = (List.range ls.length).filter fun i => (ls[i]?).any fun l => decide (l.group = g) := by
        congr 1
      rw [e2]
      by_cases h : a.group = g
      · simp [h, ih]
      · simp [h, ih]
  exact key ls
theorem cS_map {α : Type} (f : α → Ch) : ∀ l : List α, cS (l.map f) = (l.map fun c => (f c).2).sum
  | [] => rfl
  | c :: l => by simp only [List.map_cons, cS, List.sum_cons, cS_map f l]
theorem sum_pos {α : Type} (f : α → Nat) : ∀ l : List α, ((l.filter fun c => decide (0 < f c)).map f).sum = (l.map f).sum
  | [] => rfl
  | c :: l => by
    rw [List.filter_cons]
    by_cases h : 0 < f c
    · rw [if_pos (by simpa using h)]
      simp only [List.map_cons, List.sum_cons, sum_pos f l]
    · rw [if_neg (by simpa using h)]
      simp only [List.map_cons, List.sum_cons, sum_pos f l]; omega
theorem cS_chs (h : F.Ok D) (hg : F.get g = some x) (hin : ∀ l ∈ ls, ∃ y, F.get l.group = some y) : cS (chs F ls g) = many F ls g := by
  rw [chs, cS_app, cS_map, cS_map, many_split h hg ls hin]
  have e1 : ((kidsL F ls g).map fun c => many F ls c).sum = ((F.kids g).map (many F ls)).sum := sum_pos (many F ls) (F.kids g)
  have e2 : ∀ l : List Nat, (l.map fun _ => 1).sum = l.length := fun l => by induction l with
    | nil => rfl
    | cons a l ih => simp only [List.map_cons, List.sum_cons, ih, List.length_cons]; omega
  show ((kidsL F ls g).map fun c => many F ls c).sum + ((leavesAt ls g).map fun _ => 1).sum = _
  rw [e1, e2, leaves_len]; omega
theorem many_le (F : Forest) (ls : List Leaf) (g : Int) : many F ls g ≤ ls.length := List.length_filter_le ..
structure Lvs (F : Forest) (ls : List Leaf) : Prop where
  len : ls.length ≤ 64
  there : ∀ l ∈ ls, ∃ y, F.get l.group = some y ∧ ((ls.filter fun k => decide (k.group = l.group)).length : Int) ≤ y.members
  wt : ∀ l ∈ ls, 1 ≤ l.weight ∧ l.weight ≤ 10000
theorem Lvs.fan (hL : Lvs F ls) (h : F.Ok D) (hg : F.get g = some x) : (chs F ls g).length ≤ 32 := by
  have h1 := h.fans x (kfind_mem hg)
  rw [kfind_key hg, Forest.fan, hg] at h1
  simp only [Option.map_some, Option.getD_some] at h1
  have h2 : (kidsL F ls g).length ≤ (F.kids g).length := List.length_filter_le ..
  have h3 : ((leavesAt ls g).length : Int) ≤ x.members := by
    rw [leaves_len]
    have h4 := h.mem x (kfind_mem hg)
    cases hf : ls.filter fun l => decide (l.group = g) with
    | nil => simp; omega
    | cons a r =>
      have ha : a ∈ ls.filter fun l => decide (l.group = g) := by rw [hf]; simp
      rw [List.mem_filter] at ha
      have hag : a.group = g := by simpa using ha.2
      obtain ⟨y, h5, h6⟩ := hL.there a ha.1
      rw [hag, hg] at h5
      cases Option.some.inj h5
      rw [hag, hf] at h6
      exact h6
  simp only [chs, List.length_append, List.length_map]
  omega
theorem Lvs.ChB (hL : Lvs F ls) (h : F.Ok D) (hg : F.get g = some x) : ∀ c ∈ chs F ls g, 1 ≤ c.1 ∧ c.1 ≤ 10000 ∧ c.2 ≤ 64 := by
  intro c hc
  have hl := hL.len
  rcases List.mem_append.1 hc with h1 | h1
  · obtain ⟨k, hk, rfl⟩ := List.mem_map.1 h1
    have hk2 := (List.mem_filter.1 hk).1
    obtain ⟨y, h2, _⟩ := (kids_mem h (by have := getPos h hg; omega)).1 hk2
    have h3 := h.wt y (kfind_mem h2)
    have h4 := many_le F ls k
    simp only [wtG, h2, Option.map_some, Option.getD_some]
    omega
  · obtain ⟨i, hi, rfl⟩ := List.mem_map.1 h1
    have h2 := (List.mem_filter.1 hi).2
    cases h3 : ls[i]? with
    | none => rw [h3] at h2; simp at h2
    | some l =>
      have h4 := hL.wt l (List.mem_of_getElem? h3)
      simp only [wtL, h3, Option.map_some, Option.getD_some]
      omega
theorem given_le (L : Rat) (c : Ch) : given L c ≤ (c.2 : Rat) := by
  unfold given
  split <;> grind
theorem given_nn {L : Rat} (c : Ch) (h : 0 ≤ L) : 0 ≤ given L c := by
  unfold given
  split
  · exact nat_nonneg _
  · exact Rat.mul_nonneg h (nat_nonneg _)
theorem lvl_nn (x : Rat) (l : List Ch) : 0 ≤ lvl x l := by
  unfold lvl
  split
  · rename_i h; exact (Classical.choose_spec h).nn
  · exact Rat.le_refl
theorem rateG_root (h : F.Ok D) (hg : F.get g = some x) (hp : x.parent < 0) : rateG F ls x0 g = x0 := by
  rw [rateG, h.pathRoot hg hp]; rfl
theorem rateG_kid (h : F.Ok D) (hg : F.get g = some x) {c : Int} (hc : c ∈ F.kids g) : rateG F ls x0 c = given (lvl (rateG F ls x0 g) (chs F ls g)) (wtG F c, many F ls c) := by
  obtain ⟨y, h1, h2⟩ := (kids_mem h (by have := getPos h hg; omega)).1 hc
  have h3 := h.pathUp h1 (by have := getPos h hg; omega)
  rw [h2] at h3
  obtain ⟨r, hr⟩ := (h.pathOf hg).1.ne
  rw [rateG, rateG, h3, hr]; rfl
theorem rateG_kid_le (h : F.Ok D) (hg : F.get g = some x) {c : Int} (hc : c ∈ F.kids g) : 0 ≤ rateG F ls x0 c ∧ rateG F ls x0 c ≤ (many F ls c : Rat) := by
  rw [rateG_kid h hg hc]
  exact ⟨given_nn _ (lvl_nn _ _), given_le _ _⟩
theorem rateL_of {i : Nat} {l : Leaf} (hi : ls[i]? = some l) : rateL F ls x0 i = given (lvl (rateG F ls x0 l.group) (chs F ls l.group)) (wtL ls i, 1) := by rw [rateL, hi]
theorem rateL_le (i : Nat) : 0 ≤ rateL F ls x0 i ∧ rateL F ls x0 i ≤ 1 := by
  cases h : ls[i]? with
  | none =>
    rw [rateL, h]
    show (0 : Rat) ≤ 0 ∧ (0 : Rat) ≤ 1
    decide
  | some l =>
    rw [rateL_of h]
    exact ⟨given_nn _ (lvl_nn _ _), given_le _ _⟩
theorem below_split (h : F.Ok D) (hg : F.get g = some x) {l : Leaf} (hl : l ∈ ls) (hlg : ∃ y, F.get l.group = some y) : F.below l.group g = (decide (l.group = g) || (kidsL F ls g).any fun c => F.below l.group c) := by
  obtain ⟨y, hy⟩ := hlg
  have h1 := one_below h hg hy
  have h2 : ∀ K : List Int, ((K.map fun c => if F.below l.group c then 1 else 0).sum = 0 ↔ K.any (fun c => F.below l.group c) = false) := fun K => by
    induction K with
    | nil => simp
    | cons c K ih =>
      simp only [List.map_cons, List.sum_cons, List.any_cons]
      cases F.below l.group c with
      | true => simp
      | false => simpa using ih
  have h3 : (kidsL F ls g).any (fun c => F.below l.group c) = (F.kids g).any fun c => F.below l.group c := by
    rw [Bool.eq_iff_iff, List.any_eq_true, List.any_eq_true]
    constructor
    · rintro ⟨c, hc, hb⟩; exact ⟨c, (List.mem_filter.1 hc).1, hb⟩
    · rintro ⟨c, hc, hb⟩
      refine ⟨c, List.mem_filter.2 ⟨hc, ?_⟩, hb⟩
      have : l ∈ ls.filter fun l => F.below l.group c := List.mem_filter.2 ⟨hl, hb⟩
      have := List.length_pos_of_mem this
      simpa [many] using this
  have h4 := h2 (F.kids g)
  rw [h3]
  cases hb : F.below l.group g with
  | true =>
    rw [hb, if_pos rfl] at h1
    by_cases e : l.group = g
    · simp [e]
    · rw [if_neg e] at h1
      cases hk : (F.kids g).any fun c => F.below l.group c with
      | true => simp
      | false => rw [h4.2 hk] at h1; omega
  | false =>
    rw [hb, if_neg (by decide)] at h1
    have e : ¬ l.group = g := fun e => by rw [if_pos e] at h1; omega
    rw [h4.1 (by omega)]; simp [e]
end
end Go.Proofs.YtpbnjifefoniiaaGreatDoor
namespace Go.Proofs
open Go.Shelf
def sortInts_ren : Go.Shelf.Ren := ⟨fun | 189 => 170 | 125 => 233 | 257 => 232 | 128 => 282 | 129 => 283 | 294 => 273 | 295 => 274 | 296 => 275 | 297 => 276 | 298 => 277 | 299 => 278 | 216 => 279 | 300 => 280 | 301 => 281 | 328 => 304 | 329 => 305 | 330 => 306 | 331 => 307 | 332 => 308 | 215 => 293 | 343 => 330 | n => n, fun | 28 => 34 | 3 => 3 | 46 => 273 | 0 => 0 | 51 => 105 | 53 => 23 | 4 => 4 | 183 => 363 | 182 => 362 | 131 => 185 | 5 => 5 | 9 => 9 | 218 => 387 | 222 => 391 | 228 => 409 | 229 => 236 | n => n, fun | n => n⟩
theorem sortInts : Go.Proofs.Lays.n189 Tryz.prog sortInts_ren := {
  mixed := by kernel_rfl
  f125 := Tryz.func233.trans (congrArg some (by kernel_rfl))
  f128 := Tryz.func282.trans (congrArg some (by kernel_rfl))
  f129 := Tryz.func283.trans (congrArg some (by kernel_rfl))
  f189 := Tryz.func170.trans (congrArg some (by kernel_rfl))
  f215 := Tryz.func293.trans (congrArg some (by kernel_rfl))
  f216 := Tryz.func279.trans (congrArg some (by kernel_rfl))
  f257 := Tryz.func232.trans (congrArg some (by kernel_rfl))
  f294 := Tryz.func273.trans (congrArg some (by kernel_rfl))
  f295 := Tryz.func274.trans (congrArg some (by kernel_rfl))
  f296 := Tryz.func275.trans (congrArg some (by kernel_rfl))
  f297 := Tryz.func276.trans (congrArg some (by kernel_rfl))
  f298 := Tryz.func277.trans (congrArg some (by kernel_rfl))
  f299 := Tryz.func278.trans (congrArg some (by kernel_rfl))
  f300 := Tryz.func280.trans (congrArg some (by kernel_rfl))
  f301 := Tryz.func281.trans (congrArg some (by kernel_rfl))
  f328 := Tryz.func304.trans (congrArg some (by kernel_rfl))
  f329 := Tryz.func305.trans (congrArg some (by kernel_rfl))
  f330 := Tryz.func306.trans (congrArg some (by kernel_rfl))
  f331 := Tryz.func307.trans (congrArg some (by kernel_rfl))
  f332 := Tryz.func308.trans (congrArg some (by kernel_rfl))
  f343 := Tryz.func330.trans (congrArg some (by kernel_rfl))
  t0 := Tryz.underlying0
  a0 := Tryz.isAgg0
  z0 := Tryz.sizeOf0
  v0 := Tryz.zeroValue0
  t3 := Tryz.underlying3
  a3 := Tryz.isAgg3
  z3 := Tryz.sizeOf3
  v3 := Tryz.zeroValue3
  t4 := Tryz.underlying4
  a4 := Tryz.isAgg4
  z4 := Tryz.sizeOf4
  v4 := Tryz.zeroValue4
  t5 := Tryz.underlying5
  a5 := Tryz.isAgg5
  z5 := Tryz.sizeOf5
  v5 := Tryz.zeroValue5
  t9 := Tryz.underlying9
  a9 := Tryz.isAgg9
  z9 := Tryz.sizeOf9
  v9 := Tryz.zeroValue9
  t28 := Tryz.underlying34
  a28 := Tryz.isAgg34
  z28 := Tryz.sizeOf34
  v28 := Tryz.zeroValue34
  t46 := Tryz.underlying273
  a46 := Tryz.isAgg273
  z46 := Tryz.sizeOf273
  v46 := Tryz.zeroValue273
  t51 := Tryz.underlying105
  a51 := Tryz.isAgg105
  z51 := Tryz.sizeOf105
  v51 := Tryz.zeroValue105
  t53 := Tryz.underlying23
  a53 := Tryz.isAgg23
  z53 := Tryz.sizeOf23
  v53 := Tryz.zeroValue23
  t131 := Tryz.underlying185
  a131 := Tryz.isAgg185
  z131 := Tryz.sizeOf185
  v131 := Tryz.zeroValue185
  t182 := Tryz.underlying362
  a182 := Tryz.isAgg362
  z182 := Tryz.sizeOf362
  v182 := Tryz.zeroValue362
  t183 := Tryz.underlying363
  a183 := Tryz.isAgg363
  z183 := Tryz.sizeOf363
  v183 := Tryz.zeroValue363
  t218 := Tryz.underlying387
  a218 := Tryz.isAgg387
  z218 := Tryz.sizeOf387
  v218 := Tryz.zeroValue387
  t222 := Tryz.underlying391
  a222 := Tryz.isAgg391
  z222 := Tryz.sizeOf391
  v222 := Tryz.zeroValue391
  t228 := Tryz.underlying409
  a228 := Tryz.isAgg409
  z228 := Tryz.sizeOf409
  v228 := Tryz.zeroValue409
  t229 := Tryz.underlying236
  a229 := Tryz.isAgg236
  z229 := Tryz.sizeOf236
  v229 := Tryz.zeroValue236 }
def sortChild_ren : Go.Shelf.Ren := ⟨fun | 6 => 362 | 15 => 233 | 14 => 367 | 28 => 282 | 29 => 283 | 20 => 368 | 21 => 369 | 22 => 370 | 23 => 371 | 24 => 372 | 25 => 373 | 26 => 374 | 27 => 375 | 46 => 376 | 47 => 305 | 48 => 306 | 49 => 377 | 50 => 378 | 57 => 379 | n => n, fun | 22 => 419 | 24 => 424 | 25 => 434 | 3 => 3 | 39 => 273 | 0 => 0 | 53 => 105 | 55 => 23 | 4 => 4 | 46 => 363 | 45 => 362 | 50 => 185 | 5 => 5 | 9 => 9 | 66 => 387 | 70 => 391 | 76 => 409 | 77 => 236 | n => n, fun | n => n⟩
theorem sortChild : Go.Proofs.SlLaysF0.n6 Tryz.prog sortChild_ren := {
  mixed := by kernel_rfl
  f6 := ⟨Tryz.f362.name, by decide, Tryz.func362.trans (congrArg some (by kernel_rfl))⟩
  f14 := ⟨Tryz.f367.name, by decide, Tryz.func367.trans (congrArg some (by kernel_rfl))⟩
  f15 := Tryz.func233.trans (congrArg some (by kernel_rfl))
  f20 := ⟨Tryz.f368.name, by decide, Tryz.func368.trans (congrArg some (by kernel_rfl))⟩
  f21 := ⟨Tryz.f369.name, by decide, Tryz.func369.trans (congrArg some (by kernel_rfl))⟩
  f22 := ⟨Tryz.f370.name, by decide, Tryz.func370.trans (congrArg some (by kernel_rfl))⟩
  f23 := ⟨Tryz.f371.name, by decide, Tryz.func371.trans (congrArg some (by kernel_rfl))⟩
  f24 := ⟨Tryz.f372.name, by decide, Tryz.func372.trans (congrArg some (by kernel_rfl))⟩
  f25 := ⟨Tryz.f373.name, by decide, Tryz.func373.trans (congrArg some (by kernel_rfl))⟩
  f26 := ⟨Tryz.f374.name, by decide, Tryz.func374.trans (congrArg some (by kernel_rfl))⟩
  f27 := ⟨Tryz.f375.name, by decide, Tryz.func375.trans (congrArg some (by kernel_rfl))⟩
  f28 := Tryz.func282.trans (congrArg some (by kernel_rfl))
  f29 := Tryz.func283.trans (congrArg some (by kernel_rfl))
  f46 := ⟨Tryz.f376.name, by decide, Tryz.func376.trans (congrArg some (by kernel_rfl))⟩
  f47 := Tryz.func305.trans (congrArg some (by kernel_rfl))
  f48 := Tryz.func306.trans (congrArg some (by kernel_rfl))
  f49 := ⟨Tryz.f377.name, by decide, Tryz.func377.trans (congrArg some (by kernel_rfl))⟩
  f50 := ⟨Tryz.f378.name, by decide, Tryz.func378.trans (congrArg some (by kernel_rfl))⟩
  f57 := ⟨Tryz.f379.name, by decide, Tryz.func379.trans (congrArg some (by kernel_rfl))⟩
  t0 := Tryz.underlying0
  a0 := Tryz.isAgg0
  z0 := Tryz.sizeOf0
  v0 := Tryz.zeroValue0
  t3 := Tryz.underlying3
  a3 := Tryz.isAgg3
  z3 := Tryz.sizeOf3
  v3 := Tryz.zeroValue3
  t4 := Tryz.underlying4
  a4 := Tryz.isAgg4
  z4 := Tryz.sizeOf4
  v4 := Tryz.zeroValue4
  t5 := Tryz.underlying5
  a5 := Tryz.isAgg5
  z5 := Tryz.sizeOf5
  v5 := Tryz.zeroValue5
  t9 := Tryz.underlying9
  a9 := Tryz.isAgg9
  z9 := Tryz.sizeOf9
  v9 := Tryz.zeroValue9
  t22 := Tryz.underlying419
  a22 := Tryz.isAgg419
  z22 := Tryz.sizeOf419
  v22 := Tryz.zeroValue419
  t25 := Tryz.underlying434
  a25 := Tryz.isAgg434
  z25 := Tryz.sizeOf434
  v25 := Tryz.zeroValue434
  t39 := Tryz.underlying273
  a39 := Tryz.isAgg273
  z39 := Tryz.sizeOf273
  v39 := Tryz.zeroValue273
  t45 := Tryz.underlying362
  a45 := Tryz.isAgg362
  z45 := Tryz.sizeOf362
  v45 := Tryz.zeroValue362
  t46 := Tryz.underlying363
  a46 := Tryz.isAgg363
  z46 := Tryz.sizeOf363
  v46 := Tryz.zeroValue363
  t50 := Tryz.underlying185
  a50 := Tryz.isAgg185
  z50 := Tryz.sizeOf185
  v50 := Tryz.zeroValue185
  t53 := Tryz.underlying105
  a53 := Tryz.isAgg105
  z53 := Tryz.sizeOf105
  v53 := Tryz.zeroValue105
  t55 := Tryz.underlying23
  a55 := Tryz.isAgg23
  z55 := Tryz.sizeOf23
  v55 := Tryz.zeroValue23
  t66 := Tryz.underlying387
  a66 := Tryz.isAgg387
  z66 := Tryz.sizeOf387
  v66 := Tryz.zeroValue387
  t70 := Tryz.underlying391
  a70 := Tryz.isAgg391
  z70 := Tryz.sizeOf391
  v70 := Tryz.zeroValue391
  t76 := Tryz.underlying409
  a76 := Tryz.isAgg409
  z76 := Tryz.sizeOf409
  v76 := Tryz.zeroValue409
  t77 := Tryz.underlying236
  a77 := Tryz.isAgg236
  z77 := Tryz.sizeOf236
  v77 := Tryz.zeroValue236 }
end Go.Proofs
namespace Go.Proofs.YtpbnjifefoniiaaGreatDoor
open Go Go.SE
variable {w0 : World} {l : List HP} {i : Nat} {r : Option (Nat × Nat)} {F : Hp}
theorem rows_ints (zs : List Int) : rows (fun z : Int => [int z]) zs = ints zs := by
  induction zs with
  | nil => rfl
  | cons z zs ih => rw [rows_cons, ih]; rfl
theorem putInts (w : World) (g : Nat) (zs : List Int) : Sort.putRow int w g 0 zs.toArray = Sort.putRowK (fun z : Int => [int z]) 1 w g 0 zs.toArray := by
  unfold Sort.putRowK Sort.putRow
  congr 1
  funext c
  unfold Sort.putCells
  have e : (Sort.flatK (fun z : Int => [int z]) 1 zs.toArray).size = zs.toArray.size := by simp
  refine Array.ext (by simp) fun t h1 h2 => ?_
  simp only [Array.getElem_mapIdx, e]
  split
  · rename_i h
    have ht : t - 0 < zs.toArray.size * 1 := by omega
    rw [Sort.get_flatK _ _ _ _ ht]
    simp [Nat.div_one, Nat.mod_one]
  · rfl
def sortI (zs : List Int) : List Int := zs.mergeSort fun x y => decide (x ≤ y)
theorem sortI_any (zs : List Int) (hl : zs.length < 4611686018427387904) (T : Nat) (hi : l[i]? = some (rowC r T 1 (ints zs) zs.length)) :
    Does cx F_slices_Sort_int_int [sv r zs.length] (S w0 l) fun v w => v = .tuple #[] ∧ S w0 (l.set i (rowC r T 1 (ints (sortI zs)) zs.length)) w := by
  intro w hw
  match r, hi with
  | none, hi =>
    obtain ⟨h1, h2⟩ := hw.row_nil hi
    have hz : zs = [] := List.eq_nil_of_length_eq_zero h2
    subst hz
    refine (Any.slices_Sort_int_none sortInts none 0 w).mono ?_
    rintro e w' ⟨rfl, rfl⟩
    exact ⟨_, rfl, rfl, by rw [show sortI [] = [] by simp [sortI], set_perm_front _ _ _ hi]; exact hw⟩
  | some (g, c), hi =>
    obtain ⟨rest, hS, h1, h2, h3, h4⟩ := row_open hw hi
    have hil := (List.getElem?_eq_some_iff.1 hi).1
    have hg : w.heap[g]? = some (.cells (ints zs ++ rest).toArray T (0, 0)) := hS.cells (i := i) (by simp [hil])
    have hH : Sort.Holds int w g 0 zs.toArray := by
      intro j hj
      have hj' : j < zs.length := by simpa using hj
      rw [Nat.zero_add]
      refine ⟨?_, hS.frozen (i := i) (T := T) (cs := ints zs ++ rest) (by simp [hil])⟩
      refine hS.cell (i := i) (T := T) (cs := ints zs ++ rest) (by simp [hil]) ?_
      rw [List.getElem?_append_left (by simpa using hj'), getElem!_pos _ j hj]
      simp [hj']
    refine (Any.slices_Sort_int sortInts g 0 c zs w hH (Array.getElem?_eq_some_iff.1 hg).1 hl).mono ?_
    rintro e w' ⟨rfl, m, os, rfl⟩
    refine ⟨_, rfl, rfl, ?_⟩
    rw [putInts]
    have := hw.sorted (i := i) (ss := zs) (ss' := sortI zs) (T := T) (f := fun z : Int => [int z]) (k := 1) (fun _ => rfl) (by simp [sortI]) (by rw [rows_ints]; exact hi) m os
    rwa [rows_ints] at this
end Go.Proofs.YtpbnjifefoniiaaGreatDoor
namespace Go.Proofs.YtpbnjifefoniiaaGreatDoor
open Go Go.SE
variable {w0 : World} {l : List HP} {i : Nat} {r : Option (Nat × Nat)} {F : Hp}
abbrev chv (c : Ch) : List Value := [int c.1, int c.2]
theorem chv2 (c : Ch) : (chv c).length = 2 := rfl
def ChB (c : Ch) : Prop := 1 ≤ c.1 ∧ c.1 ≤ 10000 ∧ c.2 ≤ 64
abbrev CB := {c : Ch // ChB c}
instance : Inhabited CB := ⟨⟨(1, 0), by decide, by decide, by decide⟩⟩
def cmpC (x y : CB) : Int := (x.1.2 : Int) * y.1.1 - y.1.2 * x.1.1
theorem cmpC_lt (x y : CB) : ltOf cmpC x y = decide (x.1.2 * y.1.1 < y.1.2 * x.1.1) := by
  unfold ltOf cmpC
  apply decide_eq_decide.2
  have e1 : ((x.1.2 * y.1.1 : Nat) : Int) = (x.1.2 : Int) * y.1.1 := by push_cast; rfl
  have e2 : ((y.1.2 * x.1.1 : Nat) : Int) = (y.1.2 : Int) * x.1.1 := by push_cast; rfl
  rw [← e1, ← e2]; omega
theorem full_lt {a b : Ch} (ha : 1 ≤ a.1) (hb : 1 ≤ b.1) : full a < full b ↔ a.2 * b.1 < b.2 * a.1 := by
  have h1 := wpos ha
  have h2 := wpos hb
  have h3 := full_mul ha
  have h4 := full_mul hb
  have hp : (0 : Rat) < (a.1 : Rat) * (b.1 : Rat) := Rat.mul_pos h1 h2
  have e1 : ((a.2 * b.1 : Nat) : Rat) = full a * ((a.1 : Rat) * (b.1 : Rat)) := by push_cast; grind
  have e2 : ((b.2 * a.1 : Nat) : Rat) = full b * ((a.1 : Rat) * (b.1 : Rat)) := by push_cast; grind
  have h5 : ((a.2 * b.1 : Nat) : Rat) < ((b.2 * a.1 : Nat) : Rat) ↔ a.2 * b.1 < b.2 * a.1 := by exact_mod_cast Iff.rfl
  rw [← h5, e1, e2]
  constructor
  · intro h; exact Rat.mul_lt_mul_of_pos_right h hp
  · intro h
    rcases Rat.le_total (a := full b) (b := full a) with h6 | h6
    · have := mul_le h6 (show (0 : Rat) ≤ (a.1 : Rat) * (b.1 : Rat) by grind); grind
    · grind
theorem cmpC_full (x y : CB) : ltOf cmpC x y = decide (full x.1 < full y.1) := by
  rw [cmpC_lt]; exact decide_eq_decide.2 (full_lt x.2.1 y.2.1).symm
theorem swoC : Sort.SWO (ltOf cmpC) where
  irrefl x := by rw [cmpC_full]; simp
  trans x y z h1 h2 := by rw [cmpC_full] at *; simp only [decide_eq_true_eq] at *; grind
  ntrans x y z h1 h2 := by rw [cmpC_full] at *; simp only [decide_eq_false_iff_not, Rat.not_lt] at *; exact Rat.le_trans h2 h1
theorem mul_le_i {a b : Nat} (ha : a ≤ 10000) (hb : b ≤ 64) : ((b : Int) * a) ≤ 640000 ∧ 0 ≤ ((b : Int) * a) := by
  have : b * a ≤ 64 * 10000 := Nat.mul_le_mul hb ha
  have e : ((b * a : Nat) : Int) = (b : Int) * a := by push_cast; rfl
  omega
theorem early_any (a1 a2 b1 b2 : Nat) (ha : a1 ≤ 10000 ∧ a2 ≤ 64) (hb : b1 ≤ 10000 ∧ b2 ≤ 64) : Does cx F_fill_early [.agg #[int a1, int a2], .agg #[int b1, int b2]] (S w0 l) fun v w => v = int ((a2 : Int) * b1 - b2 * a1) ∧ S w0 l w := by
  have h1 := mul_le_i hb.1 ha.2
  have h2 := mul_le_i ha.1 hb.2
  refine fn_enter (n := N_fill_early) fn_fill_early rfl rfl rfl ?_
  refine wk ?_
  refine ec (oBox fun p => ?_)
  refine wk ?_
  refine ec (oBox fun q => ?_)
  refine wk ?_
  exact eq_rett rfl fun w hw => ⟨rfl, hw.drop 2⟩
theorem cmpLays {W : World} (blk off size : Nat) : CmpLays cx.P F_fill_early #[] (fun c : CB => chv c.1) 2 cmpC blk off size W := by
  rintro m os dk _ ⟨⟨a1, a2⟩, ha⟩ ⟨⟨b1, b2⟩, hb⟩
  have h := early_any (w0 := sortWorldK (fun c : CB => chv c.1) 2 W blk off m dk os) (l := [old (sortWorldK (fun c : CB => chv c.1) 2 W blk off m dk os)]) a1 a2 b1 b2 ha.2 hb.2 _ (S.begin _)
  refine Calls.mono h ?_
  rintro e w' ⟨v, rfl, rfl, hS⟩
  exact ⟨rfl, hS.grown⟩
theorem rows_sub (ss : List CB) : rows (fun c : CB => chv c.1) ss = rows chv (ss.map (·.1)) := by simp [rows, Function.comp_def]
theorem sorted_pw {d : Array CB} (h : Sort.SortedIn (ltOf cmpC) 0 d.size d) : (d.toList.map (·.1)).Pairwise (fun a b => full a ≤ full b) := by
  rw [List.pairwise_map, List.pairwise_iff_getElem]
  intro i j hi hj hij
  simp only [Array.length_toList] at hi hj
  have h1 := h i j (Nat.zero_le _) hij hj
  rw [cmpC_full, getElem!_pos d i hi, getElem!_pos d j hj] at h1
  have h2 : ¬full d[j].val < full d[i].val := by simpa using h1
  have h3 := Rat.not_lt.1 h2
  simpa using h3
theorem sortC_any (ss : List CB) (hl : ss.length < 4611686018427387904) (hi : l[i]? = some (rowC r T_fill_child 2 (rows chv (ss.map (·.1))) ss.length)) :
    Does cx F_slices_SortFunc_fill_child_fill_child [sv r ss.length, .func (.func F_fill_early) #[] #[]] (S w0 l) fun v w => ∃ s' : List CB, v = .tuple #[] ∧ (s'.Perm ss ∧ (s'.map (·.1)).Pairwise (fun a b => full a ≤ full b)) ∧ S w0 (l.set i (rowC r T_fill_child 2 (rows chv (s'.map (·.1))) ss.length)) w := by
  intro w hw
  match r, hi with
  | none, hi =>
    obtain ⟨h1, h2⟩ := hw.row_nil hi
    have hout : ss = [] := List.eq_nil_of_length_eq_zero h2
    subst hout
    refine (AnyF.slices_SortFunc_none sortChild none 0 (.func (.func F_fill_early) #[] #[]) w).mono ?_
    rintro e w' ⟨rfl, rfl⟩
    exact ⟨_, rfl, [], rfl, ⟨List.Perm.refl _, List.Pairwise.nil⟩, by rw [set_perm_front _ _ _ hi]; exact hw⟩
  | some (g, c), hi =>
    obtain ⟨rest, hS, h1, h2, h3, h4⟩ := row_open hw hi
    have hil := (List.getElem?_eq_some_iff.1 hi).1
    rw [← rows_sub] at hi h1 h2 hS
    have hg : w.heap[g]? = some (.cells (rows (fun c : CB => chv c.1) ss ++ rest).toArray T_fill_child (0, 0)) := hS.cells (i := i) (by simp [hil])
    have hH : Sort.HoldsK (fun c : CB => chv c.1) 2 w g 0 ss.toArray := by
      intro j hj
      have hj' : j < ss.length * 2 := by simpa using hj
      have hf := flat_rows (fun c : CB => chv c.1) 2 (fun _ => rfl) ss
      have h5 : (Sort.flatK (fun c : CB => chv c.1) 2 ss.toArray)[j]? = (rows (fun c : CB => chv c.1) ss)[j]? := by rw [← hf, Array.getElem?_toList]
      have h6 : j < (rows (fun c : CB => chv c.1) ss).length := by rw [h1]; exact hj'
      rw [Array.getElem?_eq_getElem hj, List.getElem?_eq_getElem h6] at h5
      simp only [Option.some.injEq] at h5
      rw [getElem!_pos _ j hj, Nat.zero_add]
      refine ⟨?_, hS.frozen (i := i) (T := T_fill_child) (cs := rows (fun c : CB => chv c.1) ss ++ rest) (by simp [hil])⟩
      rw [h5]
      exact hS.cell (i := i) (T := T_fill_child) (cs := rows (fun c : CB => chv c.1) ss ++ rest) (by simp [hil]) (by rw [List.getElem?_append_left h6, List.getElem?_eq_getElem h6]; rfl)
    have eg : ∀ args w, (callFunc F_fill_early args).run cx.P w = .ok (.enter F_fill_early args) w := enters_of fn_fill_early (by kernel_rfl) rfl
    have aE : ∀ w, (isAgg T_fill_child).run cx.P w = .ok true w := fun w => isAgg_run (cx.ok T_fill_child _ rfl) w
    have zE : ∀ w, (Go.sizeOf T_fill_child).run cx.P w = .ok 2 w := fun w => sizeOf_run (cx.ok T_fill_child _ rfl) w
    refine (AnyQ.slices_SortFunc sortChild 2 aE zE (fun c : CB => chv c.1) (fun _ => rfl) (fun x v hv => by simp at hv; rcases hv with rfl | rfl <;> rfl) cmpC swoC F_fill_early #[] g 0 c ss.toArray w eg (cmpLays g 0 _) hH (Array.getElem?_eq_some_iff.1 hg).1 (by simpa using hl)).mono ?_
    rintro e w' ⟨rfl, d', m, os, hp, hs, rfl⟩
    have hz : d'.size = ss.length := by simpa using hp.1
    have hpp : d'.toList.Perm ss := by
      have := hp.2.2
      have e1 : d'.extract 0 d'.size = d' := Array.extract_size
      simp only [List.size_toArray] at this
      rw [← hz, e1, hz, List.extract_toArray] at this
      simpa using this
    refine ⟨_, rfl, d'.toList, rfl, ⟨hpp, sorted_pw (by simpa [hz] using hs)⟩, ?_⟩
    have := hw.sorted (i := i) (ss := ss) (ss' := d'.toList) (T := T_fill_child) (f := fun c : CB => chv c.1) (k := 2) (fun _ => rfl) (by simp [hz]) hi m os
    rw [rows_sub] at this
    exact this
end Go.Proofs.YtpbnjifefoniiaaGreatDoor
namespace Go.Proofs.YtpbnjifefoniiaaGreatDoor
open Go Go.SE
variable {w0 : World} {l : List HP} {i : Nat} {r : Option (Nat × Nat)} {F : Hp}
structure ChsV (w0 : World) (F : Hp) (v : Value) (cs : List Ch) : Prop where
  is : ∃ a c, v = .slice a cs.length c ∧ Fv w0 F 2 a (rows chv cs) cs.length c
theorem ChsV.up {F G : Hp} {v : Value} {cs : List Ch} (h : ChsV w0 F v cs) (hu : Up F G) : ChsV w0 G v cs :=
  let ⟨a, c, h1, h2⟩ := h.is
  ⟨a, c, h1, h2.up hu⟩
theorem chs_row {r : Option (Nat × Nat)} {T m : Nat} {cs : List Ch} {G : Hp} (h : Froze (rowC r T 2 (rows chv cs) m) G) (hl : cs.length = m) : ChsV w0 G (sv r m) cs := by
  subst hl
  exact ⟨_, _, rfl, fv_row h (by rw [rows_length chv 2 chv2])⟩
theorem Values_any (v : Value) : Does cx F_slices_Values_fill_child_fill_child [v] (S w0 l) fun u w => ∃ b : Nat, u = .func (.func F_slices_Values_fill_child_fill_child_1) #[] #[ptr b] ∧ True ∧ S w0 (cells b T_S_fill_child v.cells.toList :: l) w := by
  refine fn_enter (n := N_slices_Values_fill_child_fill_child) fn_slices_Values_fill_child_fill_child rfl rfl rfl ?_
  refine wk ?_
  refine ec (oBox fun b => ?_)
  refine wk ?_
  exact eq_rett rfl fun w hw => ⟨b, rfl, trivial, hw⟩
set_option maxHeartbeats 1000000 in
theorem values_iter {cs : List Ch} {a : Option Addr} {c : Nat} (hV : Fv w0 F 2 a (rows chv cs) cs.length c) {σ : Type} {L : σ → List HP} {I Ix : List Ch → σ → Prop} (y : Value) (b : Nat) (s0 : σ) (kb ji : Nat) (hb : ∀ s, (L s)[kb]? = some (cells b T_S_fill_child [.slice a cs.length c])) (hf : ∀ s, ∃ G, (L s)[ji]? = some (frz G) ∧ Up F G) (h0 : I [] s0) (hn : cs.length ≤ 100000)
    (hy : ∀ pre (x : Ch) suf s fr, cs = pre ++ x :: suf → I pre s → Yld cx y [.agg (chv x).toArray] (S w0 (fr ++ L s)) fun t w => ∃ s', (if t then I (pre ++ [x]) s' else Ix (pre ++ [x]) s') ∧ S w0 (fr ++ L s') w) :
    Does cx F_slices_Values_fill_child_fill_child_1 [y, ptr b] (S w0 (L s0)) fun _ w => ∃ s', (I cs s' ∨ ∃ pre, Ix pre s') ∧ S w0 (L s') w := by
  refine fn_enter (n := N_slices_Values_fill_child_fill_child_1) fn_slices_Values_fill_child_fill_child_1 rfl rfl rfl ?_
  have hbs := hb s0
  refine wk ?_
  refine Ld (hi := hbs) ?_
  refine wk ?_
  refine ej_loop2 (fun (k : Nat) (s : σ) => k ≤ cs.length ∧ I (cs.take k) s) (fun k _ => [(0, y), (1, ptr b), (5, .slice a cs.length c), (6, int cs.length), (7, int k)]) (fun _ s => S w0 (L s)) (fun k _ => cs.length - k) 0 s0 ⟨Nat.zero_le _, h0⟩ (le_of _ _ rfl) (fun w hw => hw) ?_
  rintro k s ⟨hk, hI⟩
  refine wk ?_
  refine ej_dec rfl (fun h => ?_) (fun h => ?_)
  · have h : k < cs.length := by omega
    obtain ⟨x, hx⟩ : ∃ x, cs[k]? = some x := ⟨_, List.getElem?_eq_getElem h⟩
    have hsn : cs.take (k + 1) = cs.take k ++ [x] := by rw [List.take_add_one, hx]; rfl
    have hsp : cs = cs.take k ++ x :: cs.drop (k + 1) := by
      obtain ⟨h', rfl⟩ := List.getElem?_eq_some_iff.1 hx
      rw [← List.drop_eq_getElem_cons, List.take_append_drop]
    obtain ⟨G, hfs, hu⟩ := hf s
    refine wk ?_
    refine Ixf (View.up hV hu) (hi := hfs) ?_
    refine LdfA (cs := chv x) (k * 2) (View.up hV hu) (fun j hj => rows_get chv 2 chv2 cs k j x hx hj) (hi := hfs) ?_
    refine ec (oAlloc fun b4 => ?_)
    refine ec (oStA 0 ?_)
    refine wk ?_
    refine ec (eo_yield (hy (cs.take k) x _ s [cells b4 T_fill_child (chv x)] hsp hI) rfl rfl rfl rfl rfl rfl rfl fun t => ?_)
    refine wk ?_
    refine ej_ex (fun w hw => hw) fun s' => ej_pre (fun w hw => hw) fun hs' => ?_
    rw [← hsn] at hs'
    cases t with
    | true =>
      refine wk ?_
      exact eq_back2 (k + 1) s' ⟨by omega, by simpa using hs'⟩ (by omega) (le_of _ _ rfl) fun w hw => hw.erase 0
    | false =>
      refine wk ?_
      exact eq_rett rfl fun w hw => ⟨s', .inr ⟨_, by simpa using hs'⟩, hw.erase 0⟩
  · obtain rfl : k = cs.length := by omega
    rw [List.take_length] at hI
    refine wk ?_
    exact eq_end [] rvs_nil fun w hw => ⟨s, .inl hI, hw⟩
end Go.Proofs.YtpbnjifefoniiaaGreatDoor
namespace Go.Proofs.YtpbnjifefoniiaaGreatDoor
open Go Go.SE
variable {w0 : World} {l : List HP} {i : Nat} {r : Option (Nat × Nat)} {F : Hp}
set_option maxHeartbeats 1600000 in
theorem AppendSeq_any {cs : List Ch} {a : Option Addr} {c : Nat} (hV : Fv w0 F 2 a (rows chv cs) cs.length c) (b kb i : Nat) (hb : l[kb]? = some (cells b T_S_fill_child [.slice a cs.length c])) (hi : l[i]? = some (frz F)) (hn : cs.length ≤ 100000) :
    Does cx F_slices_AppendSeq_fill_child_fill_child [.slice none 0 0, .func (.func F_slices_Values_fill_child_fill_child_1) #[] #[ptr b]] (S w0 l) fun v w => ∃ r, v = sv r cs.length ∧ True ∧ S w0 (rowC r T_fill_child 2 (rows chv cs) cs.length :: l) w := by
  refine fn_enter (n := N_slices_AppendSeq_fill_child_fill_child) fn_slices_AppendSeq_fill_child_fill_child rfl rfl rfl ?_
  refine wk ?_
  refine ec (oBox fun b2 => ?_)
  refine wk ?_
  refine ej_row0 T_fill_child 2 ?_
  refine ej_rangeFuncA (α := Ch) (β := Nat) (σ := List Ch × Option (Nat × Nat)) (fun x : Ch => [.agg (chv x).toArray]) (fun pre s => s.1 = pre) (fun _ _ _ => False) (fun pre => pre = cs) (fun pre x => pre.length < cs.length)
    (fun s => rowC s.2 T_fill_child 2 (rows chv s.1) s.1.length :: cells b2 T_S_fill_child [sv s.2 s.1.length] :: l) ([], none) (fun _ z => [(2, ptr b2), (5, ptr z)]) (fun x z => [cells z T_fill_child (chv x)]) rfl real_slices_Values_fill_child_fill_child_1 rfl rfl (fun _ => rfl) (by decide) ?_ ?_ ?_ ?_ ?_
  · intro y a' b' M hM hy
    refine Does.mono (values_iter hV (L := M) (I := fun pre s => s.2 = none ∧ s.1.1 = pre) (Ix := fun _ _ => False) y b (([], none), none) (kb + 4) (i + 4) (fun s => by rw [hM]; exact hb) (fun s => ⟨F, by rw [hM]; exact hi, Up.rfl⟩) ⟨rfl, rfl⟩ hn ?_) (fun _ h => h) ?_
    · rintro pre x suf ⟨s1, s2⟩ fr hcs ⟨rfl, hI⟩
      refine (hy pre x s1 fr (by rw [hcs]; simp) hI).mono (fun _ h => h) ?_
      rintro t w ⟨s', h1, h2⟩
      refine ⟨s', ?_, h2⟩
      cases t with
      | true => exact h1
      | false => obtain ⟨c, _, h⟩ := h1; exact h
    · rintro v w ⟨s', hs, hw⟩
      refine ⟨s', ?_, hw⟩
      rcases hs with ⟨h1, h2⟩ | ⟨pre, h1⟩
      · exact .inl ⟨h1, cs, rfl, h2⟩
      · exact h1.elim
  · intro m x l0
    refine wk ?_
    refine ec (oAlloc fun z => ?_)
    refine ec (oStA 0 ?_)
    refine wk ?_
    exact eq_asg z rfl (le_of _ _ rfl) fun w h => h
  · rintro m pre x z ⟨ds, r⟩ fr hlt rfl
    refine ej_imp' (fun w hw => hw.perm (l' := cells z T_fill_child (chv x) :: rowC r T_fill_child 2 (rows chv ds) ds.length :: cells b2 T_S_fill_child [sv r ds.length] :: (l ++ fr)) (List.Perm.cons _ (List.perm_append_comm (l₁ := fr) (l₂ := rowC r T_fill_child 2 (rows chv ds) ds.length :: cells b2 T_S_fill_child [sv r ds.length] :: l)))) ?_
    refine wk ?_
    have hlt' : ds.length < cs.length := hlt
    refine App (cs := chv x) (fun r' b3 => ?_) (hc := by exact rfl)
    refine wk ?_
    refine eq_any fun a3 w hw => ⟨(ds ++ [x], r'), rfl, ?_⟩
    have hw2 := hw.drop 1
    refine S.perm (l := (rowC r' T_fill_child 2 (rows chv (ds ++ [x])) (ds ++ [x]).length :: cells b2 T_S_fill_child [sv r' (ds ++ [x]).length] :: l) ++ fr) ?_ List.perm_append_comm
    rw [rows_snoc, List.length_append]
    exact hw2
  · rintro D pre ⟨ds, r⟩ rfl hI
    simp only at hI
    subst hI
    refine wk ?_
    refine eq_mark 0 rfl rfl ?_
    exact eq_rett rfl fun w hw => ⟨r, rfl, trivial, hw.erase 1⟩
  · rintro D c pre s h
    exact h.elim
theorem Collect_any {cs : List Ch} {a : Option Addr} {c : Nat} (hV : Fv w0 F 2 a (rows chv cs) cs.length c) (b kb i : Nat) (hb : l[kb]? = some (cells b T_S_fill_child [.slice a cs.length c])) (hi : l[i]? = some (frz F)) (hn : cs.length ≤ 100000) :
    Does cx F_slices_Collect_fill_child [.func (.func F_slices_Values_fill_child_fill_child_1) #[] #[ptr b]] (S w0 l) fun v w => ∃ r, v = sv r cs.length ∧ True ∧ S w0 (rowC r T_fill_child 2 (rows chv cs) cs.length :: l) w := by
  refine fn_enter (n := N_slices_Collect_fill_child) fn_slices_Collect_fill_child rfl rfl rfl ?_
  refine wk ?_
  refine Cx1 (AppendSeq_any hV b kb i hb hi hn) real_slices_AppendSeq_fill_child_fill_child fun r _ => ?_
  refine wk ?_
  exact eq_rett rfl fun w hw => ⟨r, rfl, trivial, hw⟩
theorem chSorted {cs : List Ch} {a : Option Addr} {c : Nat} (hV : Fv w0 F 2 a (rows chv cs) cs.length c) (b kb i : Nat) (hb : l[kb]? = some (cells b T_S_fill_child [.slice a cs.length c])) (hi : l[i]? = some (frz F)) (hn : cs.length ≤ 100000) (hB : ∀ c ∈ cs, ChB c) :
    Does cx F_slices_SortedFunc_fill_child [.func (.func F_slices_Values_fill_child_fill_child_1) #[] #[ptr b], .func (.func F_fill_early) #[] #[]] (S w0 l) fun v w => ∃ x : Option (Nat × Nat) × List Ch, v = sv x.1 cs.length ∧ (x.2.Perm cs ∧ x.2.Pairwise (fun a b => full a ≤ full b)) ∧ S w0 (rowC x.1 T_fill_child 2 (rows chv x.2) cs.length :: l) w := by
  refine fn_enter (n := N_slices_SortedFunc_fill_child) fn_slices_SortedFunc_fill_child rfl rfl rfl ?_
  refine wk ?_
  refine Cx1 (Collect_any hV b kb i hb hi hn) real_slices_Collect_fill_child fun r _ => ?_
  refine wk ?_
  obtain ⟨ss, hss⟩ : ∃ ss : List CB, ss.map (·.1) = cs := ⟨cs.attach.map fun c => ⟨c.1, hB c.1 c.2⟩, by rw [List.map_map]; exact List.attach_map_subtype_val cs⟩
  have hsl : ss.length = cs.length := by rw [← hss]; simp
  refine Cx1 (f := F_slices_SortFunc_fill_child_fill_child) (argv := [sv r cs.length, .func (.func F_fill_early) #[] #[]]) (V := fun _ => .tuple #[]) (φ := fun s' : List CB => s'.Perm ss ∧ (s'.map (·.1)).Pairwise (fun a b => full a ≤ full b)) (H' := fun s' => S w0 (rowC r T_fill_child 2 (rows chv (s'.map (·.1))) cs.length :: l)) ?_ real_slices_SortFunc_fill_child_fill_child fun s' hs' => ?_
  · have := sortC_any (w0 := w0) (l := rowC r T_fill_child 2 (rows chv cs) cs.length :: l) (i := 0) (r := r) ss (by omega) (by rw [hss, hsl]; rfl)
    rw [hsl] at this
    exact this
  refine wk ?_
  refine eq_rett rfl fun w hw => ⟨(r, s'.map (·.1)), rfl, ⟨?_, hs'.2⟩, hw⟩
  rw [← hss]; exact hs'.1.map _
end Go.Proofs.YtpbnjifefoniiaaGreatDoor
