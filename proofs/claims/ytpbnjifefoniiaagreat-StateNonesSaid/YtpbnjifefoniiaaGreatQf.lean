/- Proved: StateNones_holds of this seat, for every input that its row lets in. Merged by a program of mine (merge.py) of my texts. -/
import Derived.Test.YtpbnjifefoniiaaGreatQe
import Derived.ProofKit
import Derived.SizedLaws
import Derived.OpenShut
import Derived.ChangeCalls
import Derived.Deep.Slices
import Derived.Test.YtpbnjifefoniiaaGreatRows
namespace Go.Proofs.YtpbnjifefoniiaaGreat
open Go Go.SE
variable {w0 : World} {w : World} {l : List HP} {i : Nat} {s : Sys} {D : Nat} {G : Hp}
noncomputable def newSE (q th gr : Int) (xs : List Nat) : Int :=
  if ¬ (1 ≤ q ∧ q ≤ 1000) then 14 else if TP.topoE xs ≠ 0 then TP.topoE xs else if ¬ (1 ≤ th ∧ th ≤ 64) then 14 else if ¬ (1 ≤ gr ∧ gr ≤ 64) then 14 else if gr < xs.length then 6 else 0
theorem sOf_no (q : Int) (hq : ¬ (1 ≤ q ∧ q ≤ 1000)) (a b : Value) : Does cx F_slice_Of [int q, .agg [a, b].toArray] (S w0 l) fun v w => v = .tuple #[int 0, int 14] ∧ S w0 l w := by
  refine fn_enter (n := N_slice_Of) fn_slice_Of rfl rfl rfl ?_
  refine wk ?_
  refine ec (oBox fun b3 => ?_)
  refine wk ?_
  refine C1 (right_any q _) real_slice_right ?_
  refine el_val 10 (u := .bool false) rfl (by rw [decide_eq_false hq]) ?_
  refine wk ?_
  exact eq_rett rfl fun w hw => ⟨rfl, hw.erase 0⟩
theorem topoE_few {xs : List Nat} (h : TP.topoE xs = 0) : xs.length ≤ 8 := by
  rw [TP.topoE] at h
  split at h
  · exact absurd h (by decide)
  · rename_i hn; omega
set_option maxHeartbeats 1600000 in
theorem yNew {r : Option (Nat × Nat)} (q th gr : Int) (xs : List Nat) (hm : ∀ m ∈ xs, m < 18446744073709551616) (h : l[i]? = some (rowC r T_mask_Set 1 (u64s xs) xs.length)) (hn : xs.length ≤ 1000) :
    Does cx F_state_New [.agg [int q, int th, int gr, sv r xs.length].toArray] (S w0 (frz G :: l)) fun v w => (newSE q th gr xs = 0 ∧ ∃ y : Nat × SyX × Hp, v = .tuple #[ptr y.1, int 0] ∧ (1 ≤ q ∧ q ≤ 1000 ∧ TP.topoE xs = 0 ∧ 1 ≤ th ∧ th ≤ 64 ∧ 1 ≤ gr ∧ gr ≤ 64 ∧ (xs.length : Int) ≤ gr) ∧ S w0 (syL y.1 y.2.1 (sys0 q.toNat th.toNat gr.toNat xs xs.length) (frz y.2.2 :: cells y.2.1.tal T_tally_Tally tallyC :: l)) w) ∨
      (newSE q th gr xs ≠ 0 ∧ ∃ G' : Hp, v = .tuple #[.pointer none, int (newSE q th gr xs)] ∧ S w0 (frz G' :: l) w) := by
  by_cases hq : 1 ≤ q ∧ q ≤ 1000
  rotate_left
  · have e : newSE q th gr xs = 14 := by rw [newSE, if_pos hq]
    refine fn_enter (n := N_state_New) fn_state_New rfl rfl rfl ?_
    refine wk ?_
    refine ec (oBox fun cb => ?_)
    refine wk ?_
    have hI : ∀ K w, S w0 (cells cb T_state_Config [int q, int th, int gr, sv r xs.length] :: frz K :: l) w → Held w0 [cells cb T_state_Config [int q, int th, int gr, sv r xs.length]] w := fun K => held1 (i := 0) rfl
    have hI0 := hI G
    refine ej_held [cells cb T_state_Config [int q, int th, int gr, sv r xs.length]] ?_
    refine tk 0 ?_
    refine tv 1 rfl (rLd 0) ?_
    refine wg0 2 rfl (rInt 0 (by decide)) real_ratio_Int fun G1 rv hu1 hrv => ⟨?_, ?_⟩
    · exact hI G1
    obtain ⟨ra, rb, rfl, _, _⟩ := hrv.is
    have hI1 := hI G1
    refine w1 3 rfl (sOf_no q hq ra rb) real_slice_Of hI1 ?_
    refine tk 4 ?_
    refine tk 5 ?_
    refine tk 6 ?_
    refine tk 7 ?_
    refine tk 8 ?_
    refine wd ?_
    refine wk ?_
    refine eq_rett rfl fun w hw => .inr ⟨by rw [e]; decide, G1, by rw [e]; rfl, hw.erase 0⟩
  obtain ⟨qn, rfl⟩ : ∃ n : Nat, q = n := ⟨q.toNat, by omega⟩
  have hqn : 1 ≤ qn ∧ qn ≤ 1000 := by omega
  by_cases h0 : TP.topoE xs = 0
  rotate_left
  · have e : newSE qn th gr xs = TP.topoE xs := by rw [newSE, if_neg (by simpa using hq), if_pos h0]
    refine fn_enter (n := N_state_New) fn_state_New rfl rfl rfl ?_
    refine wk ?_
    refine ec (oBox fun cb => ?_)
    refine wk ?_
    have hI : ∀ K w, S w0 (cells cb T_state_Config [int qn, int th, int gr, sv r xs.length] :: frz K :: l) w → Held w0 [cells cb T_state_Config [int qn, int th, int gr, sv r xs.length]] w := fun K => held1 (i := 0) rfl
    have hI0 := hI G
    refine ej_held [cells cb T_state_Config [int qn, int th, int gr, sv r xs.length]] ?_
    refine tk 0 ?_
    refine tv 1 rfl (rLd 0) ?_
    refine wg0 2 rfl (rInt 0 (by decide)) real_ratio_Int fun G1 rv hu1 hrv => ⟨?_, ?_⟩
    · exact hI G1
    refine wg0 3 rfl (sOf qn ((0 : Nat) : Rat) rv hrv hqn (by decide) ((few_nat (by decide)).le (by decide))) real_slice_Of fun G2 _ hu2 _ => ⟨?_, ?_⟩
    · exact hI G2
    have hI2 := hI G2
    refine tk 4 ?_
    refine tk 5 ?_
    refine tk 6 ?_
    refine tk 7 ?_
    refine tk 8 ?_
    refine wd ?_
    refine wk ?_
    refine C1 (topoNew_no (i := i + 2) xs hm h hn h0) real_topo_New ?_
    refine wk ?_
    refine ej_dec rfl (fun _ => ?_) (fun hc => absurd h0 hc)
    refine wk ?_
    exact eq_rett rfl fun w hw => .inr ⟨by rw [e]; exact h0, G2, by rw [e]; rfl, hw.erase 0⟩
  have h8 := topoE_few h0
  by_cases hth : 1 ≤ th ∧ th ≤ 64
  rotate_left
  · have e : newSE qn th gr xs = 14 := by rw [newSE, if_neg (by simpa using hq), if_neg (by simpa using h0), if_pos hth]
    refine fn_enter (n := N_state_New) fn_state_New rfl rfl rfl ?_
    refine wk ?_
    refine ec (oBox fun cb => ?_)
    refine wk ?_
    have hI : ∀ K w, S w0 (cells cb T_state_Config [int qn, int th, int gr, sv r xs.length] :: frz K :: l) w → Held w0 [cells cb T_state_Config [int qn, int th, int gr, sv r xs.length]] w := fun K => held1 (i := 0) rfl
    have hI0 := hI G
    refine ej_held [cells cb T_state_Config [int qn, int th, int gr, sv r xs.length]] ?_
    refine tk 0 ?_
    refine tv 1 rfl (rLd 0) ?_
    refine wg0 2 rfl (rInt 0 (by decide)) real_ratio_Int fun G1 rv hu1 hrv => ⟨?_, ?_⟩
    · exact hI G1
    refine wg0 3 rfl (sOf qn ((0 : Nat) : Rat) rv hrv hqn (by decide) ((few_nat (by decide)).le (by decide))) real_slice_Of fun G2 _ hu2 _ => ⟨?_, ?_⟩
    · exact hI G2
    have hI2 := hI G2
    refine tk 4 ?_
    refine tk 5 ?_
    refine tk 6 ?_
    refine tk 7 ?_
    refine tk 8 ?_
    refine wd ?_
    refine wk ?_
    refine Cx1 (topoNew_ok (i := i + 2) xs hm h hn h0) real_topo_New fun tp _ => ?_
    refine wk ?_
    refine C1 (tNew_no th hth _) real_table_New ?_
    refine wk ?_
    exact eq_rett rfl fun w hw => .inr ⟨by rw [e]; decide, G2, by rw [e]; rfl, (hw.erase 0).erase 0⟩
  obtain ⟨tn, rfl⟩ : ∃ n : Nat, th = n := ⟨th.toNat, by omega⟩
  have htn : 1 ≤ tn ∧ tn ≤ 64 := by omega
  by_cases hgr : 1 ≤ gr ∧ gr ≤ 64
  rotate_left
  · have e : newSE qn tn gr xs = 14 := by rw [newSE, if_neg (by simpa using hq), if_neg (by simpa using h0), if_neg (by simpa using hth), if_pos hgr]
    refine fn_enter (n := N_state_New) fn_state_New rfl rfl rfl ?_
    refine wk ?_
    refine ec (oBox fun cb => ?_)
    refine wk ?_
    have hI : ∀ K w, S w0 (cells cb T_state_Config [int qn, int tn, int gr, sv r xs.length] :: frz K :: l) w → Held w0 [cells cb T_state_Config [int qn, int tn, int gr, sv r xs.length]] w := fun K => held1 (i := 0) rfl
    have hI0 := hI G
    refine ej_held [cells cb T_state_Config [int qn, int tn, int gr, sv r xs.length]] ?_
    refine tk 0 ?_
    refine tv 1 rfl (rLd 0) ?_
    refine wg0 2 rfl (rInt 0 (by decide)) real_ratio_Int fun G1 rv hu1 hrv => ⟨?_, ?_⟩
    · exact hI G1
    refine wg0 3 rfl (sOf qn ((0 : Nat) : Rat) rv hrv hqn (by decide) ((few_nat (by decide)).le (by decide))) real_slice_Of fun G2 _ hu2 _ => ⟨?_, ?_⟩
    · exact hI G2
    have hI2 := hI G2
    refine tk 4 ?_
    refine tk 5 ?_
    refine tk 6 ?_
    refine tk 7 ?_
    refine tk 8 ?_
    refine wd ?_
    refine wk ?_
    refine Cx1 (topoNew_ok (i := i + 2) xs hm h hn h0) real_topo_New fun tp _ => ?_
    refine wk ?_
    refine Cx1 (tNew tn htn) real_table_New fun tb _ => ?_
    refine wk ?_
    refine C1 (fNew_no gr hgr _) real_tree_New ?_
    refine wk ?_
    exact eq_rett rfl fun w hw => .inr ⟨by rw [e]; decide, G2, by rw [e]; rfl, ((hw.erase 0).erase 0).erase 0⟩
  obtain ⟨gn, rfl⟩ : ∃ n : Nat, gr = n := ⟨gr.toNat, by omega⟩
  have hgn : 1 ≤ gn ∧ gn ≤ 64 := by omega
  refine (yNew_all (G := G) qn tn gn xs hm h h8 h0 hqn htn hgn).mono (fun _ h => h) fun v w hv => ?_
  by_cases hD : xs.length ≤ gn
  · rw [if_pos hD] at hv
    obtain ⟨y, h1, h2, h3⟩ := hv
    exact .inl ⟨by rw [newSE, if_neg (by simpa using hq), if_neg (by simpa using h0), if_neg (by simpa using hth), if_neg (by simpa using hgr), if_neg (by omega)], y, h1, ⟨by omega, by omega, h0, by omega, by omega, by omega, by omega, by omega⟩, h3⟩
  · rw [if_neg hD] at hv
    obtain ⟨G', h1, h2, h3⟩ := hv
    have e : newSE qn tn gn xs = 6 := by rw [newSE, if_neg (by simpa using hq), if_neg (by simpa using h0), if_neg (by simpa using hth), if_neg (by simpa using hgr), if_pos (by omega)]
    exact .inr ⟨by rw [e]; decide, G', by rw [e]; exact h1, h3⟩
end Go.Proofs.YtpbnjifefoniiaaGreat
namespace Go.Proofs.YtpbnjifefoniiaaGreat
open Go Go.SE
section
variable {C : Cx} {n : Nat} {Q : Kont} {e : Env} {ops : Array Oper} {w0 : World} {l : List HP}
theorem wmore {I : WP} {fuel : Nat} {listed : List Bool} {F : Hp} (i1 a1 i2 a2 jf : Nat) {o1 oa1 o2 oa2 : Oper} {d1 da1 d2 da2 t E m c : Nat} {ps1 ps2 : Array (Nat × Operand)} {parts2 : List (Nat × Value)} {x1 y1 x2 y2 : Operand} {a : Option Addr} {te tl : TI} {news cs2 : List Value}
    (h1 : ops[i1]? = some o1) (h2 : ops[a1]? = some oa1) (h3 : ops[i2]? = some o2) (h4 : ops[a2]? = some oa2) (hV : Fv w0 F te.size a news m c) (hone1 : news.all SE.one = true) (hf : l[jf]? = some (frz F)) (hN : m ≤ 1000000)
    (h : ∀ b1 r' b2 r'', EH C n I fuel ((((listed.set i1 true).set a1 true).set i2 true).set a2 true) ops Q ((da2, sv r'' (m + 1)) :: (da1, sv r' m) :: (d2, .slice (some ⟨b2, 0, none⟩) 1 1) :: (d1, .slice (some ⟨b1, 0, none⟩) 0 0) :: e) (S w0 (rowC r'' E te.size (news ++ cs2) (m + 1) :: l)))
    (hI : ∀ w, S w0 l w → I w)
    (hd4 : Nat.beq i1 a1 = false ∧ Nat.beq i1 i2 = false ∧ Nat.beq i1 a2 = false ∧ Nat.beq a1 i2 = false ∧ Nat.beq a1 a2 = false ∧ Nat.beq i2 a2 = false := by exact ⟨rfl, rfl, rfl, rfl, rfl, rfl⟩)
    (hy0 : (Region.ready .any ops listed.toArray).all (fun x => x == i1 || x == i2) = true := by kernel_rfl) (hz0 : (Region.ready .any ops listed.toArray).isEmpty = false := by kernel_rfl)
    (hyA : (Region.ready .any ops (listed.set i1 true).toArray).all (fun x => x == a1 || x == i2) = true := by kernel_rfl) (hzA : (Region.ready .any ops (listed.set i1 true).toArray).isEmpty = false := by kernel_rfl)
    (hyB : Region.ready .any ops ((listed.set i1 true).set a1 true).toArray = [i2] := by kernel_rfl) (hyC : Region.ready .any ops ((listed.set i1 true).set i2 true).toArray = [a1] := by kernel_rfl) (hyD : Region.ready .any ops (listed.set i2 true).toArray = [i1] := by kernel_rfl)
    (hyE : Region.ready .any ops (((listed.set i1 true).set a1 true).set i2 true).toArray = [a2] := by kernel_rfl)
    (ho1 : o1.op = .buildSlice t 0 ps1 := by exact rfl) (hd1 : o1.dst = some d1 := by exact rfl) (hn1 : Nat.ble n d1 = false := by exact rfl) (ho2 : o2.op = .buildSlice t 1 ps2 := by exact rfl) (hd2 : o2.dst = some d2 := by exact rfl) (hn2 : Nat.ble n d2 = false := by exact rfl)
    (hb1 : oa1.op = .call { callee := .builtin .append, args := #[x1, y1], argTypes := #[t, t] } := by exact rfl) (hda1 : oa1.dst = some da1 := by exact rfl) (hna1 : Nat.ble n da1 = false := by exact rfl)
    (hb2 : oa2.op = .call { callee := .builtin .append, args := #[x2, y2], argTypes := #[t, t] } := by exact rfl) (hda2 : oa2.dst = some da2 := by exact rfl) (hna2 : Nat.ble n da2 = false := by exact rfl)
    (hq1 : evParts e ps1.toList = some [] := by exact rfl) (hq2 : evParts e ps2.toList = some parts2 := by exact rfl) (hq1' : ∀ u, evParts ((d2, u) :: e) ps1.toList = some [] := by exact fun _ => rfl) (hq2' : ∀ u, evParts ((d1, u) :: e) ps2.toList = some parts2 := by exact fun _ => rfl) (hq2'' : ∀ u v, evParts ((da1, v) :: (d1, u) :: e) ps2.toList = some parts2 := by exact fun _ _ => rfl)
    (ht : C.L.ti t = some tl := by exact rfl) (hk : tl.kind = .slice E := by exact rfl) (hE : C.L.ti E = some te := by exact rfl) (hzs : te.zero.cells.size = te.size := by exact rfl) (hm0 : Nat.ble (0 * te.size) 16777216 = true := by exact rfl) (hm : Nat.ble (1 * te.size) 16777216 = true := by exact rfl) (hsz : Nat.ble 1 te.size = true := by exact rfl)
    (hc1 : fillL (fun i => some (i * te.size, te.size)) (rowZ 0 te.zero.cells.toList) [] = some [] := by exact rfl) (hc2 : fillL (fun i => some (i * te.size, te.size)) (rowZ 1 te.zero.cells.toList) parts2 = some cs2 := by exact rfl)
    (hx1 : ∀ u, ev ((d1, u) :: e) x1 = some u := by exact fun _ => rfl) (hx1' : ∀ u v, ev ((d2, v) :: (d1, u) :: e) x1 = some u := by exact fun _ _ => rfl)
    (hy1 : ∀ u, ev ((d1, u) :: e) y1 = some (.slice a m c) := by exact fun _ => rfl) (hy1' : ∀ u v, ev ((d2, v) :: (d1, u) :: e) y1 = some (.slice a m c) := by exact fun _ _ => rfl)
    (hx2 : ∀ u v w, ev ((da1, w) :: (d2, v) :: (d1, u) :: e) x2 = some w := by exact fun _ _ _ => rfl) (hy2 : ∀ u v w, ev ((da1, w) :: (d2, v) :: (d1, u) :: e) y2 = some v := by exact fun _ _ _ => rfl)
    (hg1 : want ops e o1 = some true := by exact rfl) (hg2 : want ops e o2 = some true := by exact rfl) (hg1' : ∀ u, want ops ((d2, u) :: e) o1 = some true := by exact fun _ => rfl) (hg2' : ∀ u, want ops ((d1, u) :: e) o2 = some true := by exact fun _ => rfl) (hg2'' : ∀ u v, want ops ((da1, v) :: (d1, u) :: e) o2 = some true := by exact fun _ _ => rfl)
    (hga1 : ∀ u, want ops ((d1, u) :: e) oa1 = some true := by exact fun _ => rfl) (hga1' : ∀ u v, want ops ((d2, v) :: (d1, u) :: e) oa1 = some true := by exact fun _ _ => rfl) (hga2 : ∀ u v w, want ops ((da1, w) :: (d2, v) :: (d1, u) :: e) oa2 = some true := by exact fun _ _ _ => rfl)
    (hdd : Nat.beq d2 d1 = false := by exact rfl) (hdd2 : Nat.beq da1 d2 = false := by exact rfl)
    (hl2 : cs2.length = te.size := by exact rfl) (hone2 : cs2.all SE.one = true := by exact rfl) (hbb : Nat.ble te.bytes 10000 = true := by exact rfl) :
    EH C n I (fuel + 4) listed ops Q e (S w0 l) := by
  have ne : ∀ {a b : Nat}, Nat.beq a b = false → a ≠ b := fun {a b} h e => by rw [e] at h; simp at h
  have n2' := ne hd4.2.1; have n4' := ne hd4.2.2.2.1
  have hbb1 := Nat.le_of_ble_eq_true hbb
  have hbb2 : (0 + m) * te.bytes ≤ 1000000 * 10000 := Nat.mul_le_mul (by omega) hbb1
  have ap1 : ∀ {k : Env → WP → Prop} {e' : Env} {L : List HP} (i : Nat) (b1 : Nat), L[i]? = some (rowC (some (b1, 0)) E te.size [] 0) → (∃ j : Nat, L[j]? = some (frz F)) → ev e' x1 = some (.slice (some ⟨b1, 0, none⟩) 0 0) → ev e' y1 = some (.slice a m c) → (∀ r', k ((da1, sv r' m) :: e') (S w0 (L.set i (rowC r' E te.size news m)))) → EO C n oa1 Q e' (S w0 L) k := fun {k e' L} i b1 hi ⟨j, hj⟩ hx hy hk' => by
    refine eo_appendV (r := some (b1, 0)) (n' := 0) (xs := []) i hb1 hda1 hna1 hx hy ht hk hE hzs hsz hi (View.one hV hj) hone1 (by omega) (by rw [maxLen_eq]; omega) fun r' => ?_
    have := hk' r'
    rw [Nat.zero_add, List.nil_append]; exact this
  have fin : ∀ b1 b2 r', EH C n I (fuel + 1) (((listed.set i1 true).set a1 true).set i2 true) ops Q ((da1, sv r' m) :: (d2, .slice (some ⟨b2, 0, none⟩) 1 1) :: (d1, .slice (some ⟨b1, 0, none⟩) 0 0) :: e) (S w0 (cells b2 E cs2 :: rowC r' E te.size news m :: l)) := fun b1 b2 r' => by
    refine eh_way a2 hyE (hway h4 (hga2 _ _ _) (eo_app1 (j := 0) (i := 1) (b := b2) (r := r') (xs := news) (cs := cs2) hb2 hda2 hna2 (hx2 _ _ _) (hy2 _ _ _) ht hk hE hzs rfl rfl hl2 hone2 hN hbb fun r'' => ⟨fun w hw => hI w ((hw.erase 0).erase 0), ?_⟩))
    exact eh_imp (fun w hw => hw.erase 0) (h b1 r' b2 r'')
  have mid : ∀ b1 b2, EH C n I (fuel + 2) ((listed.set i1 true).set i2 true) ops Q ((d2, .slice (some ⟨b2, 0, none⟩) 1 1) :: (d1, .slice (some ⟨b1, 0, none⟩) 0 0) :: e) (S w0 (cells b2 E cs2 :: rowC (some (b1, 0)) E te.size [] 0 :: l)) := fun b1 b2 => by
    refine eh_way a1 hyC (hway h2 (hga1' _ _) (ap1 1 b1 rfl ⟨jf + 2, by simpa using hf⟩ (hx1' _ _) (hy1' _ _) fun r' => ⟨fun w hw => hI w ((hw.erase 0).erase 0), ?_⟩))
    have h5 := fin b1 b2 r'
    rw [List.set_comm _ _ n4'] at h5
    exact h5
  have wayA : HWay C n I i1 (fuel + 3) listed ops Q e (S w0 l) := by
    refine hway h1 hg1 (eo_buildS ho1 hd1 hn1 ht hk hE hzs hm0 hq1 hc1 fun b1 => ⟨fun w hw => hI w (hw.erase 0), ?_⟩)
    refine eh_imp (H' := S w0 (rowC (some (b1, 0)) E te.size [] 0 :: l)) (fun w hw => hw.imp (i := 0) rfl fun h hp => row_of_cells (by simp) (by rw [maxLen_eq]; omega) hp) ?_
    refine eh_ways _ rfl hzA ?_
    have key : ∀ rs : List Nat, (∀ x ∈ rs, x = a1 ∨ x = i2) → HWays C n I (fuel + 2) (listed.set i1 true) ops Q ((d1, .slice (some ⟨b1, 0, none⟩) 0 0) :: e) (S w0 (rowC (some (b1, 0)) E te.size [] 0 :: l)) rs := by
      intro rs
      induction rs with
      | nil => intro _; exact .nil
      | cons x rs ih =>
        intro hx
        refine .cons ?_ (ih fun y hy => hx y (by simp [hy]))
        rcases hx x (by simp) with rfl | rfl
        · refine hway h2 (hga1 _) (ap1 0 b1 rfl ⟨jf + 1, by simpa using hf⟩ (hx1 _) (hy1 _) fun r' => ⟨fun w hw => hI w (hw.erase 0), ?_⟩)
          refine eh_way i2 hyB (hway h3 (hg2'' _ _) (eo_buildS ho2 hd2 hn2 ht hk hE hzs hm (hq2'' _ _) hc2 fun b2 => ⟨fun w hw => hI w ((hw.erase 0).erase 0), ?_⟩))
          exact eh_le (le_swap hdd2) (fin b1 b2 r')
        · exact hway h3 (hg2' _) (eo_buildS ho2 hd2 hn2 ht hk hE hzs hm (hq2' _) hc2 fun b2 => ⟨fun w hw => hI w ((hw.erase 0).erase 0), mid b1 b2⟩)
    exact key _ fun x hx => by
      have := List.all_eq_true.1 hyA x hx
      simpa using this
  have wayB : HWay C n I i2 (fuel + 3) listed ops Q e (S w0 l) := by
    refine hway h3 hg2 (eo_buildS ho2 hd2 hn2 ht hk hE hzs hm hq2 hc2 fun b2 => ⟨fun w hw => hI w (hw.erase 0), ?_⟩)
    refine eh_way i1 hyD (hway h1 (hg1' _) (eo_buildS ho1 hd1 hn1 ht hk hE hzs hm0 (hq1' _) hc1 fun b1 => ⟨fun w hw => hI w ((hw.erase 0).erase 0), ?_⟩))
    refine eh_imp (H' := S w0 (rowC (some (b1, 0)) E te.size [] 0 :: cells b2 E cs2 :: l)) (fun w hw => hw.imp (i := 0) rfl fun h hp => row_of_cells (by simp) (by rw [maxLen_eq]; omega) hp) ?_
    have h5 := mid b1 b2
    rw [List.set_comm _ _ n2'] at h5
    exact eh_le (le_swap hdd) (eh_imp (fun w hw => hw.perm (List.Perm.swap _ _ _)) h5)
  refine eh_ways _ rfl hz0 ?_
  have key : ∀ rs : List Nat, (∀ x ∈ rs, x = i1 ∨ x = i2) → HWays C n I (fuel + 3) listed ops Q e (S w0 l) rs := by
    intro rs
    induction rs with
    | nil => intro _; exact .nil
    | cons x rs ih =>
      intro hx
      refine .cons ?_ (ih fun y hy => hx y (by simp [hy]))
      rcases hx x (by simp) with rfl | rfl
      · exact wayA
      · exact wayB
  exact key _ fun x hx => by
    have := List.all_eq_true.1 hy0 x hx
    simpa using this
end
variable {w0 : World} {w : World} {l : List HP} {i : Nat} {F : Forest} {D : Nat} {G : Hp}
abbrev g5 (x : Grp) : List Value := [int x.id, int x.parent, int x.weight, int x.members, int x.awake]
theorem g5l (x : Grp) : (g5 x).length = 5 := rfl
structure RFV (w0 : World) (G : Hp) (v : Value) (F : Forest) : Prop where
  is : ∃ a c, v = .agg [int F.room, int F.last, .slice a F.L.length c].toArray ∧ Fv w0 G 5 a (rows g5 F.L) F.L.length c
theorem RFV.up {G G' : Hp} {v : Value} (h : RFV w0 G v F) (hu : Up G G') : RFV w0 G' v F :=
  let ⟨a, c, h1, h2⟩ := h.is
  ⟨a, c, h1, h2.up hu⟩
theorem g5_one (L : List Grp) : (rows g5 L).all SE.one = true := by
  rw [List.all_eq_true]
  intro v hv
  obtain ⟨r, hr, hm⟩ := List.mem_flatten.1 hv
  obtain ⟨x, _, rfl⟩ := List.mem_map.1 hr
  simp only [g5, List.mem_cons, List.not_mem_nil, or_false] at hm
  rcases hm with rfl | rfl | rfl | rfl | rfl <;> rfl
theorem r08New (n : Nat) (hn : 1 ≤ n ∧ n ≤ 64) : Does cx F_ref08_New [int n] (S w0 l) fun v w => v = .tuple #[.agg [int n, int 0, .slice none 0 0].toArray, int 0] ∧ S w0 l w := by
  refine fn_enter (n := N_ref08_New) fn_ref08_New rfl rfl rfl ?_
  refine wk ?_
  refine ec (oAlloc fun b => ?_)
  refine wk ?_
  refine el_gdec rfl rfl (fun h => absurd h (by omega)) (fun _ => ?_)
  refine wk ?_
  refine ej_dec rfl (fun h => absurd h (by omega)) (fun _ => ?_)
  refine wk ?_
  refine ec (oBuild (cs := [int n, int 0, .slice none 0 0]) ?_)
  refine wk ?_
  exact eq_ret [_, _] (rvs_cell 0 rfl rfl rfl rfl rfl (rvs_tmp rfl rvs_nil)) fun w hw => ⟨rfl, hw.erase 0⟩
theorem r08New_no (n : Int) (hn : ¬ (1 ≤ n ∧ n ≤ 64)) : Does cx F_ref08_New [int n] (S w0 l) fun v w => v = .tuple #[.agg [int 0, int 0, .slice none 0 0].toArray, int 14] ∧ S w0 l w := by
  refine fn_enter (n := N_ref08_New) fn_ref08_New rfl rfl rfl ?_
  refine wk ?_
  refine ec (oAlloc fun b => ?_)
  refine wk ?_
  refine el_gdec rfl rfl (fun h => ?_) (fun h => ?_)
  · refine wk ?_
    refine ec (oBuild (cs := [int 0, int 0, .slice none 0 0]) ?_)
    refine wk ?_
    exact eq_ret [_, _] (rvs_cell 0 rfl rfl rfl rfl rfl (rvs_tmp rfl rvs_nil)) fun w hw => ⟨rfl, hw.erase 0⟩
  · refine wk ?_
    refine ej_dec rfl (fun h => ?_) (fun h => absurd ⟨by omega, by omega⟩ hn)
    refine wk ?_
    refine ec (oBuild (cs := [int 0, int 0, .slice none 0 0]) ?_)
    refine wk ?_
    exact eq_ret [_, _] (rvs_cell 0 rfl rfl rfl rfl rfl (rvs_tmp rfl rvs_nil)) fun w hw => ⟨rfl, hw.erase 0⟩
theorem r12New : Does cx F_ref12_New [] (S w0 l) fun v w => v = .agg [int 1, .slice none 0 0].toArray ∧ S w0 l w := by
  refine fn_enter (n := N_ref12_New) fn_ref12_New rfl rfl rfl ?_
  refine wk ?_
  refine ec (oAlloc fun b => ?_)
  refine wk ?_
  refine ec (oBuild (cs := [int 1, .slice none 0 0]) ?_)
  refine wk ?_
  exact eq_ret [_] (rvs_cell 0 rfl rfl rfl rfl rfl rvs_nil) fun w hw => ⟨rfl, hw.erase 0⟩
theorem r08More (v : Value) (p wt : Int) (hv : RFV w0 G v F) (hl : 0 ≤ F.last ∧ F.last ≤ 9000000000) (hn : F.L.length ≤ 100000) : Giv cx F_ref08_more [v, int p, int wt] w0 G (fun v : Value => .tuple #[v, int (F.last + 1)]) fun G' v => RFV w0 G' v (F.more p wt) := by
  intro l
  obtain ⟨a, c, rfl, hV⟩ := hv.is
  refine fn_enter (n := N_ref08_more) fn_ref08_more rfl rfl rfl ?_
  refine wk ?_
  refine ec (oBox fun b3 => ?_)
  refine ec (oAlloc fun b6 => ?_)
  refine wk ?_
  have hI : ∀ w, S w0 (cells b6 T_ref08_F [int 0, int 0, .slice none 0 0] :: cells b3 T_ref08_F [int F.room, int F.last, .slice a F.L.length c] :: frz G :: l) w → Held w0 [cells b3 T_ref08_F [int F.room, int F.last, .slice a F.L.length c]] w := held1 (i := 1) rfl
  refine ej_held [cells b3 T_ref08_F [int F.room, int F.last, .slice a F.L.length c]] ?_
  refine tk 0 ?_
  refine tv 1 rfl (rLd 0) ?_
  refine tk 2 ?_
  refine tk 4 ?_
  refine tv 5 rfl (rLd 0) ?_
  refine tk 7 ?_
  refine tk 8 ?_
  refine tk 9 ?_
  refine tv 10 rfl (rBuild (cs := g5 ⟨F.last + 1, p, wt, 0, 0⟩)) ?_
  refine tk 14 ?_
  refine wmore (F := G) (m := F.L.length) (a := a) (c := c) 3 6 11 12 2 rfl rfl rfl rfl hV (g5_one F.L) rfl (by omega) (cs2 := g5 ⟨F.last + 1, p, wt, 0, 0⟩) (fun b1 r' b2 r'' => ?_) hI
  refine tv 13 rfl (rBuild (cs := [int F.room, int (F.last + 1), sv r'' (F.L.length + 1)])) ?_ (hI := held1 (i := 2) rfl)
  refine wv 15 rfl (eo_stA 1 rfl rfl rfl rfl rfl rfl rfl rfl rfl ⟨held1 (i := 2) rfl, ?_⟩)
  refine tk 16 ?_ (hI := held1 (i := 2) rfl)
  refine wd ?_
  refine wk ?_
  refine eq_frz 0 (fun G2 hu2 hf => ?_)
  have hlen : (rows g5 F.L ++ g5 ⟨F.last + 1, p, wt, 0, 0⟩).length = (F.L.length + 1) * 5 := by rw [List.length_append, rows_length g5 5 g5l]; show F.L.length * 5 + 5 = _; omega
  have hfv := fv_row (w0 := w0) hf hlen
  have hm : RFV w0 G2 (.agg [int F.room, int (F.last + 1), sv r'' (F.L.length + 1)].toArray) (F.more p wt) := ⟨⟨r''.map fun p => ⟨p.1, 0, none⟩, (r''.map (·.2)).getD 0, by
    rw [Forest.more, sv, List.length_append]; rfl, by
    show Fv w0 G2 5 _ (rows g5 (F.L ++ [_])) (F.L ++ [_]).length _
    rw [rows_snoc, List.length_append]; exact hfv⟩⟩
  exact eq_ret [_, _] (rvs_cell 0 rfl rfl rfl rfl rfl (rvs_tmp rfl rvs_nil)) fun w hw => ⟨(G2, .agg [int F.room, int (F.last + 1), sv r'' (F.L.length + 1)].toArray), rfl, ⟨hu2, hm⟩, (hw.erase 0).erase 0⟩
theorem r08AddRoot (v : Value) (hv : RFV w0 G v F) (hl : 0 ≤ F.last ∧ F.last ≤ 9000000000) (hn : F.L.length ≤ 100000) (hr : F.L.length ≠ F.room) : Giv cx F_ref08_AddRoot [v] w0 G (fun v : Value => .tuple #[v, int (F.last + 1), int 0]) fun G' v => RFV w0 G' v (F.more (-1) 1) := by
  intro l
  obtain ⟨a, c, rfl, hV⟩ := hv.is
  refine fn_enter (n := N_ref08_AddRoot) fn_ref08_AddRoot rfl rfl rfl ?_
  refine wk ?_
  refine ec (oBox fun b1 => ?_)
  refine ec (oAlloc fun b2 => ?_)
  refine wk ?_
  refine ej_dec rfl (fun h => absurd h (by omega)) (fun _ => ?_)
  refine wk ?_
  refine G0 (r08More _ (-1) 1 hv hl hn) real_ref08_more fun G1 v1 hu1 hv1 => ?_
  obtain ⟨a1, c1, rfl, hV1⟩ := hv1.is
  refine wk ?_
  refine ec (oAlloc fun b5 => ?_)
  refine wk ?_
  exact eq_ret [_, _, _] (rvs_cell 1 rfl rfl rfl rfl rfl (rvs_tmp rfl (rvs_tmp rfl rvs_nil))) fun w hw => ⟨(G1, _), rfl, ⟨hu1, hv1⟩, ((hw.erase 0).erase 0).erase 0⟩
theorem r08AddRoot_no (v : Value) (hv : RFV w0 G v F) (hr : F.L.length = F.room) (_hn : F.L.length ≤ 100000) : Giv cx F_ref08_AddRoot [v] w0 G (fun v : Value => .tuple #[v, int 0, int 6]) fun G' v => RFV w0 G' v F := by
  intro l
  obtain ⟨a, c, rfl, hV⟩ := hv.is
  refine fn_enter (n := N_ref08_AddRoot) fn_ref08_AddRoot rfl rfl rfl ?_
  refine wk ?_
  refine ec (oBox fun b1 => ?_)
  refine ec (oAlloc fun b2 => ?_)
  refine wk ?_
  refine ej_dec rfl (fun _ => ?_) (fun h => absurd h (by omega))
  refine wk ?_
  exact eq_ret [_, _, _] (rvs_cell 0 rfl rfl rfl rfl rfl (rvs_tmp rfl (rvs_tmp rfl rvs_nil))) fun w hw => ⟨(G, _), rfl, ⟨Up.rfl, hv⟩, (hw.erase 0).erase 0⟩
end Go.Proofs.YtpbnjifefoniiaaGreat
namespace Go.Proofs.YtpbnjifefoniiaaGreat
open Go Go.SE
structure DS where
  q : Int
  room : Int
  last : Int
  t : List Value
  f : List Value
  ths : Value
  bks : Value
  ls : List Value
  cur : List Value
  tick : Value
structure DS.Ok (D : DS) : Prop where
  t : D.t.length = 129 ∧ D.t.all SE.one = true
  f : D.f.length = 3 ∧ D.f.all SE.one = true
  ls : D.ls.length = 64 ∧ D.ls.all SE.one = true
  cur : D.cur.length = 64 ∧ D.cur.all SE.one = true
  ths : SE.one D.ths = true
  bks : SE.one D.bks = true
  tick : SE.one D.tick = true
def DS.cells (D : DS) : List Value := int D.q :: int D.room :: int D.last :: (D.t ++ (D.f ++ (D.ths :: D.bks :: (D.ls ++ (D.cur ++ [D.tick])))))
abbrev DS.val (D : DS) : Value := .agg D.cells.toArray
theorem splice_mid (A B C B' : List Value) (n : Nat) (hA : A.length = n) (hB : B.length = B'.length) : splice (A ++ (B ++ C)) n B' = A ++ (B' ++ C) := by
  subst hA
  have := splice_at B' B A C hB
  simpa using this
namespace DS
variable {D : DS}
theorem Ok.len (h : D.Ok) : D.cells.length = 266 := by simp [DS.cells, h.t.1, h.f.1, h.ls.1, h.cur.1]
theorem Ok.one (h : D.Ok) : D.cells.all SE.one = true := by
  simp only [DS.cells, List.all_cons, List.all_append, h.t.2, h.f.2, h.ls.2, h.cur.2, h.ths, h.bks, h.tick, List.all_nil, Bool.and_true]; rfl
theorem cells_t (D : DS) : D.cells = [int D.q, int D.room, int D.last] ++ (D.t ++ (D.f ++ (D.ths :: D.bks :: (D.ls ++ (D.cur ++ [D.tick]))))) := rfl
theorem cells_f (D : DS) : D.cells = ([int D.q, int D.room, int D.last] ++ D.t) ++ (D.f ++ (D.ths :: D.bks :: (D.ls ++ (D.cur ++ [D.tick])))) := by simp [DS.cells]
theorem cells_bks (D : DS) : D.cells = ([int D.q, int D.room, int D.last] ++ D.t ++ D.f ++ [D.ths]) ++ ([D.bks] ++ (D.ls ++ (D.cur ++ [D.tick]))) := by simp [DS.cells]
theorem Ok.atBks (h : D.Ok) : D.cells[136]? = some D.bks := by
  rw [cells_bks, List.getElem?_append_right (by simp [h.t.1, h.f.1])]; simp [h.t.1, h.f.1]
theorem Ok.stT (h : D.Ok) {v : List Value} (hv : v.length = 129) : splice D.cells 3 v = ({ D with t := v } : DS).cells := by
  rw [cells_t, splice_mid _ D.t _ v 3 rfl (by rw [h.t.1, hv])]; rfl
theorem Ok.stF (h : D.Ok) {v : List Value} (hv : v.length = 3) : splice D.cells 132 v = ({ D with f := v } : DS).cells := by
  rw [cells_f, splice_mid _ D.f _ v 132 (by simp [h.t.1]) (by rw [h.f.1, hv]), cells_f]
theorem Ok.stBks (h : D.Ok) (v : Value) : splice D.cells 136 [v] = ({ D with bks := v } : DS).cells := by
  rw [cells_bks, splice_mid _ [D.bks] _ [v] 136 (by simp [h.t.1, h.f.1]) rfl, cells_bks]
end DS
def DS.zero : DS := ⟨0, 0, 0, TP.RT.none.cells, [int 0, int 0, .slice none 0 0], .slice none 0 0, .slice none 0 0, List.replicate 64 (.slice none 0 0), List.replicate 64 (int 0), .slice none 0 0⟩
theorem all_rep (n : Nat) {v : Value} (hv : SE.one v = true) : (List.replicate n v).all SE.one = true := by
  induction n with
  | zero => rfl
  | succ n ih => rw [List.replicate_succ, List.all_cons, hv, ih]; rfl
theorem DS.zero_ok : DS.zero.Ok := ⟨⟨TP.RT.none_ok.len, TP.RT.one _⟩, ⟨rfl, rfl⟩, ⟨by simp [DS.zero], all_rep 64 rfl⟩, ⟨by simp [DS.zero], all_rep 64 rfl⟩, rfl, rfl, rfl⟩
end Go.Proofs.YtpbnjifefoniiaaGreat
namespace Go.Proofs.YtpbnjifefoniiaaGreat
open Go Go.SE
variable {w0 : World} {w : World} {l : List HP} {i : Nat} {D : Nat} {G : Hp}
abbrev bkv (b : Int × Value) : List Value := [int b.1, b.2]
theorem bkv_len (b : Int × Value) : (bkv b).length = 2 := rfl
structure NewDS (w0 : World) (G : Hp) (D : DS) (q th gr : Int) (xs : List Nat) : Prop where
  q : D.q = q
  room : D.room = th
  last : D.last = 0
  t : D.t = (TP.newT (TP.bitsLs xs)).cells
  f : RFV w0 G (.agg D.f.toArray) (rootsN gr.toNat xs.length)
  ths : D.ths = .slice none 0 0
  bks : ∃ a c, D.bks = .slice a xs.length c ∧ Fv w0 G 2 a (rows bkv (List.replicate xs.length (1, .slice none 0 0))) xs.length c
  ls : D.ls = List.replicate 64 (.slice none 0 0)
  cur : D.cur = List.replicate 64 (int 0)
  tick : D.tick = .slice none 0 0
theorem fill_step {pl : Nat → Option (Nat × Nat)} {cs : List Value} {i off size : Nat} {v : Value} {rest : List (Nat × Value)} (h : pl i = some (off, size)) (h1 : v.cells.size = size) (h2 : off + size ≤ cs.length) : fillL pl cs ((i, v) :: rest) = fillL pl (splice cs off v.cells.toList) rest := by
  rw [fillL, h]
  simp [h1, Nat.ble_eq_true_of_le h2]
theorem fill_S (q r : Int) (t : List Value) (ht : t.length = 129) : fillL (([(0, 1), (1, 1), (2, 1), (3, 129), (132, 3), (135, 1), (136, 1), (137, 64), (201, 64), (265, 1)] : List (Nat × Nat))[·]?) DS.zero.cells [(0, int q), (1, int r), (3, .agg t.toArray)] = some ({ DS.zero with q := q, room := r, t := t } : DS).cells := by
  have ok : ({ DS.zero with q := q, room := r } : DS).Ok := ⟨DS.zero_ok.t, DS.zero_ok.f, DS.zero_ok.ls, DS.zero_ok.cur, rfl, rfl, rfl⟩
  rw [fill_step (off := 0) (size := 1) rfl rfl (by rw [DS.zero_ok.len]; omega)]
  rw [fill_step (off := 1) (size := 1) rfl rfl (by rw [splice_length, DS.zero_ok.len]; omega)]
  have e : splice (splice DS.zero.cells 0 (int q).cells.toList) 1 (int r).cells.toList = ({ DS.zero with q := q, room := r } : DS).cells := rfl
  rw [e, fill_step (off := 3) (size := 129) rfl (by simpa [Value.cells] using ht) (by rw [ok.len]; omega)]
  show some (splice ({ DS.zero with q := q, room := r } : DS).cells 3 t) = _
  rw [ok.stT ht]
theorem fv_nil (w0 : World) (G : Hp) (sz : Nat) : Fv w0 G sz none [] 0 0 := ⟨by simp, fun _ _ => ⟨⟨Nat.le_refl _, by decide⟩, fun j u h => by simp at h⟩⟩
set_option maxRecDepth 100000 in
set_option maxHeartbeats 1600000 in
theorem r14New {a : Option Addr} {c : Nat} (q th gr : Int) (xs : List Nat) (hm : ∀ m ∈ xs, m < 18446744073709551616) (hV : View w0 [old w0] 1 a (u64s xs) xs.length c) (ho : l[i]? = some (old w0)) (hn : xs.length ≤ 1000) :
    Does cx F_ref14_New [.agg [int q, int th, int gr, .slice a xs.length c].toArray] (S w0 (frz G :: l)) fun v w => ∃ x : Hp × DS, v = .tuple #[x.2.val, int (newSE q th gr xs)] ∧ (x.2.Ok ∧ (newSE q th gr xs = 0 → NewDS w0 x.1 x.2 q th gr xs)) ∧ S w0 (frz x.1 :: l) w := by
  refine fn_enter (n := N_ref14_New) fn_ref14_New rfl rfl rfl ?_
  refine wk ?_
  refine ec (oBox fun b1 => ?_)
  refine ec (oAlloc fun b2 => ?_)
  refine el_imp (H' := S w0 (cells b2 T_ref14_S DS.zero.cells :: cells b1 T_ref14_C [int q, int th, int gr, .slice a xs.length c] :: frz G :: l)) (fun w hw => hw) ?_
  have hz := DS.zero_ok
  have bad : ∀ (e : Int), newSE q th gr xs = e → e ≠ 0 → ∀ (K : Hp) w, S w0 (frz K :: l) w → ∃ x : Hp × DS, Value.tuple #[DS.zero.val, int e] = .tuple #[x.2.val, int (newSE q th gr xs)] ∧ (x.2.Ok ∧ (newSE q th gr xs = 0 → NewDS w0 x.1 x.2 q th gr xs)) ∧ S w0 (frz x.1 :: l) w := fun e he h0 K w hw => ⟨(K, DS.zero), by rw [he], ⟨hz, fun h => absurd (he.symm.trans h) h0⟩, hw⟩
  refine wk ?_
  by_cases hq : 1 ≤ q ∧ q ≤ 1000
  rotate_left
  · have e : newSE q th gr xs = 14 := by rw [newSE, if_pos hq]
    refine el_gdec rfl rfl (fun h => ?_) (fun h => ?_)
    · refine wk ?_
      refine ec (oBuild (cs := DS.zero.cells) ?_)
      refine ec (oStA 0 ?_ (hz := hz.len) (h1 := hz.one) (hl := hz.len))
      refine wk ?_
      exact eq_ret [_, _] (rvs_cell 0 rfl rfl rfl rfl hz.len (rvs_tmp rfl rvs_nil)) fun w hw => bad 14 e (by decide) G w ((hw.erase 0).erase 0)
    · refine wk ?_
      refine ej_dec rfl (fun h => ?_) (fun h => absurd ⟨by omega, by omega⟩ hq)
      refine wk ?_
      refine ec (oBuild (cs := DS.zero.cells) ?_)
      refine ec (oStA 0 ?_ (hz := hz.len) (h1 := hz.one) (hl := hz.len))
      refine wk ?_
      exact eq_ret [_, _] (rvs_cell 0 rfl rfl rfl rfl hz.len (rvs_tmp rfl rvs_nil)) fun w hw => bad 14 e (by decide) G w ((hw.erase 0).erase 0)
  refine el_gdec rfl rfl (fun h => absurd h (by omega)) (fun _ => ?_)
  refine wk ?_
  refine ej_dec rfl (fun h => absurd h (by omega)) (fun _ => ?_)
  refine wk ?_
  refine ej_loop2 (fun (k : Nat) (r : Option (Nat × Nat)) => k ≤ xs.length) (fun k r => [(1, ptr b1), (2, ptr b2), (4, sv r k), (24, int xs.length), (25, int k)])
    (fun k r => S w0 (rowC r T_ref01_Set 64 (TP.flat (TP.bitsLs (xs.take k))) k :: cells b2 T_ref14_S DS.zero.cells :: cells b1 T_ref14_C [int q, int th, int gr, .slice a xs.length c] :: frz G :: l)) (fun k _ => xs.length - k) 0 none (Nat.zero_le _) (le_of _ _ rfl) (fun w hw => hw.row_new) ?_
  intro k r hk
  refine wk ?_
  refine ej_dec rfl (fun h => ?_) (fun h => ?_)
  · have hk1 : k < xs.length := by omega
    have hx : xs[k]? = some xs[k] := by simp [hk1]
    have hxm := hm _ (List.getElem_mem hk1)
    have e1 : TP.bitsLs (xs.take (k + 1)) = TP.bitsLs (xs.take k) ++ [TP.bitsL xs[k]] := by
      simp only [TP.bitsLs, List.take_succ_eq_append_getElem hk1, List.map_append, List.map_cons, List.map_nil]
    generalize xs[k] = m at *
    refine wk ?_
    have hV2 : View w0 (rowC r T_ref01_Set 64 (TP.flat (TP.bitsLs (xs.take k))) k :: cells b2 T_ref14_S DS.zero.cells :: cells b1 T_ref14_C [int q, int th, int gr, .slice a xs.length c] :: frz G :: l) 1 a (u64s xs) xs.length c := hV.one (i := i + 4) ho
    refine ec (oIdxv hV2 ?_)
    refine ec (oLdv ((k : Int).toNat * 1) hV2 ?_ (hv := (by simp [u64s, hx] : (u64s xs)[(k : Int).toNat * 1]? = some (u64 m))))
    refine wk ?_
    refine C1 (TP.Bits_any m hxm) real_ref01_Bits ?_
    refine ec (oBuildS (fun b' => ?_) (hc := TP.fill_set _ (TP.bitsL_length m)))
    refine el_cons rfl (eo_app1 (j := 0) (i := 1) (b := b') (r := r) (cs := TP.bools (TP.bitsL m)) rfl rfl rfl rfl rfl rfl rfl rfl rfl rfl rfl (by show (TP.bools _).length = 64; simp [TP.bitsL_length]) (TP.all_bools _) (by show k ≤ 1000000; omega) rfl fun r2 => ?_)
    refine wk ?_
    refine eq_back2 (k + 1) r2 (by show k + 1 ≤ xs.length; omega) (by omega) (le_of _ _ rfl) fun w hw => ?_
    show S w0 (rowC r2 T_ref01_Set 64 (TP.flat (TP.bitsLs (xs.take (k + 1)))) (k + 1) :: _) w
    rw [e1, TP.flat_snoc]
    exact hw.erase 0
  obtain rfl : k = xs.length := by omega
  rw [List.take_length]
  refine wk ?_
  refine C1 (TP.NewR_any (i := 0) xs rfl) real_ref05_New ?_
  rw [TP.new_E hm]
  have hok := TP.newT_ok (TP.bitsLs xs)
  refine wk ?_
  refine ec (oAlloc fun b6 => ?_)
  refine ec (oStA 0 ?_ (hz := hok.len) (h1 := TP.RT.one _) (hl := rfl))
  refine wk ?_
  by_cases h0 : TP.topoE xs = 0
  rotate_left
  · have e : newSE q th gr xs = TP.topoE xs := by rw [newSE, if_neg (by simpa using hq), if_pos h0]
    refine ej_dec rfl (fun _ => ?_) (fun h => absurd h0 h)
    refine wk ?_
    refine ec (oBuild (cs := DS.zero.cells) ?_)
    refine pu ?_
    refine ec (oStA 2 ?_ (hz := hz.len) (h1 := hz.one) (hl := hz.len))
    refine wk ?_
    exact eq_ret [_, _] (rvs_cell 2 rfl rfl rfl rfl hz.len (rvs_tmp rfl rvs_nil)) fun w hw => bad _ e h0 G w ((((hw.erase 0).erase 0).erase 0).erase 0)
  have h8 := topoE_few h0
  refine ej_dec rfl (fun h => absurd h (by omega)) (fun _ => ?_)
  refine wk ?_
  by_cases hgr : 1 ≤ gr ∧ gr ≤ 64
  rotate_left
  · have e : newSE q th gr xs = 14 := by
      rw [newSE, if_neg (by simpa using hq), if_neg (by simpa using h0)]
      split <;> rfl
    refine C1 (r08New_no gr hgr) real_ref08_New ?_
    refine wk ?_
    refine ec (oAlloc fun b8 => ?_)
    refine wk ?_
    refine ec (oBuild (cs := DS.zero.cells) ?_)
    refine ec (oStA 3 ?_ (hz := hz.len) (h1 := hz.one) (hl := hz.len))
    refine wk ?_
    exact eq_ret [_, _] (rvs_cell 3 rfl rfl rfl rfl hz.len (rvs_tmp rfl rvs_nil)) fun w hw => bad _ e (by decide) G w (((((hw.erase 0).erase 0).erase 0).erase 0).erase 0)
  obtain ⟨gn, rfl⟩ : ∃ n : Nat, gr = n := ⟨gr.toNat, by omega⟩
  have hgn : 1 ≤ gn ∧ gn ≤ 64 := by omega
  refine C1 (r08New gn hgn) real_ref08_New ?_
  refine wk ?_
  refine ec (oAlloc fun b8 => ?_)
  refine wk ?_
  by_cases hth : 1 ≤ th ∧ th ≤ 64
  rotate_left
  · have e : newSE q th gn xs = 14 := by rw [newSE, if_neg (by simpa using hq), if_neg (by simpa using h0), if_pos hth]
    refine el_gdec rfl rfl (fun h => ?_) (fun h => ?_)
    · refine wk ?_
      refine ec (oBuild (cs := DS.zero.cells) ?_)
      refine ec (oStA 3 ?_ (hz := hz.len) (h1 := hz.one) (hl := hz.len))
      refine wk ?_
      exact eq_ret [_, _] (rvs_cell 3 rfl rfl rfl rfl hz.len (rvs_tmp rfl rvs_nil)) fun w hw => bad _ e (by decide) G w (((((hw.erase 0).erase 0).erase 0).erase 0).erase 0)
    · refine wk ?_
      refine ej_dec rfl (fun h => ?_) (fun h => absurd ⟨by omega, by omega⟩ hth)
      refine wk ?_
      refine ec (oBuild (cs := DS.zero.cells) ?_)
      refine ec (oStA 3 ?_ (hz := hz.len) (h1 := hz.one) (hl := hz.len))
      refine wk ?_
      exact eq_ret [_, _] (rvs_cell 3 rfl rfl rfl rfl hz.len (rvs_tmp rfl rvs_nil)) fun w hw => bad _ e (by decide) G w (((((hw.erase 0).erase 0).erase 0).erase 0).erase 0)
  refine el_gdec rfl rfl (fun h => absurd h (by omega)) (fun _ => ?_)
  refine wk ?_
  refine ej_dec rfl (fun h => absurd h (by omega)) (fun _ => ?_)
  refine wk ?_
  refine ec (oLdW 1 ?_ (hl := hok.len))
  refine ec (oBuild (cs := ({ DS.zero with q := q, room := th, t := (TP.newT (TP.bitsLs xs)).cells } : DS).cells) ?_ (hc := by exact fill_S q th _ hok.len))
  generalize hS1 : ({ DS.zero with q := q, room := th, t := (TP.newT (TP.bitsLs xs)).cells } : DS) = S1
  have ok1 : S1.Ok := by
    subst hS1
    exact ⟨⟨hok.len, TP.RT.one _⟩, hz.f, hz.ls, hz.cur, rfl, rfl, rfl⟩
  refine ec (oAlloc fun b9 => ?_)
  refine ec (oStA 0 ?_ (hz := ok1.len) (h1 := ok1.one) (hl := by exact hz.len))
  refine wk ?_
  have okb : ∀ (r : Option (Nat × Nat)) (k : Nat), ({ S1 with bks := sv r k } : DS).Ok := fun r k => ⟨ok1.t, ok1.f, ok1.ls, ok1.cur, ok1.ths, rfl, ok1.tick⟩
  refine ej_loop4 (fun (k : Nat) (r : Option (Nat × Nat)) (K : Hp) (f : Option Addr × Nat) => k ≤ xs.length ∧ k ≤ gn ∧ RFV w0 K (.agg [int gn, int k, .slice f.1 k f.2].toArray) (rootsN gn k)) (fun k r K f => [(1, ptr b1), (2, ptr b2), (8, ptr b8), (9, ptr b9), (74, int xs.length), (75, int k)])
    (fun k r K f => S w0 (cells b9 T_ref14_S ({ S1 with bks := sv r k } : DS).cells :: rowC r T_ref12_B 2 (rows bkv (List.replicate k (1, .slice none 0 0))) k :: cells b8 T_ref08_F [int gn, int k, .slice f.1 k f.2] :: cells b2 T_ref14_S DS.zero.cells :: frz K :: l)) (fun k _ _ _ => xs.length - k) 0 none G (none, 0) ⟨Nat.zero_le _, Nat.zero_le _, ?_⟩ (le_of _ _ rfl) ?_ ?_
  · exact ⟨none, 0, rfl, fv_nil _ _ _⟩
  · intro w hw
    have h1 := S.row_new (T := T_ref12_B) (sz := 2) ((((hw.erase 2).erase 2).erase 3))
    subst hS1
    exact S.perm h1 (perm_ix 5 [1, 0, 2, 3, 4])
  rintro k r2 K ⟨fa, fc⟩ ⟨hk, hkg, hF⟩
  obtain ⟨hFo, hFl, hFla, hFr⟩ := rootsN_ok hgn k hkg
  refine wk ?_
  refine ej_dec rfl (fun h => ?_) (fun h => ?_)
  · have hk1 : k < xs.length := by omega
    refine wk ?_
    by_cases hgk : k < gn
    rotate_left
    · have e : newSE q th gn xs = 6 := by rw [newSE, if_neg (by simpa using hq), if_neg (by simpa using h0), if_neg (by simpa using hth), if_neg (by simpa using hgr), if_pos (by omega)]
      refine G0 (r08AddRoot_no _ hF (by rw [hFl, hFr]; omega) (by rw [hFl]; omega)) real_ref08_AddRoot fun K1 v1 hu1 hv1 => ?_
      obtain ⟨a1, c1, rfl, _⟩ := hv1.is
      refine wk ?_
      refine ec (oAlloc fun b10 => ?_)
      refine wk ?_
      refine ec (oBuild (cs := DS.zero.cells) ?_)
      refine ec (oStA 4 ?_ (hz := hz.len) (h1 := hz.one) (hl := hz.len))
      refine wk ?_
      exact eq_ret [_, _] (rvs_cell 4 rfl rfl rfl rfl hz.len (rvs_tmp rfl rvs_nil)) fun w hw => bad _ e (by decide) K1 w (((((hw.erase 0).erase 0).erase 0).erase 0).erase 0)
    refine G0 (r08AddRoot _ hF (by rw [hFla]; omega) (by rw [hFl]; omega) (by rw [hFl, hFr]; omega)) real_ref08_AddRoot fun K1 v1 hu1 hv1 => ?_
    obtain ⟨a1, c1, hv1e, hv1f⟩ := hv1.is
    obtain ⟨hFo2, hFl2, hFla2, hFr2⟩ := rootsN_ok hgn (k + 1) (by omega)
    have hv1e : v1 = .agg [int gn, int (k + 1), .slice a1 (k + 1) c1].toArray := by
      rw [hv1e]
      show Value.agg [int (rootsN gn (k + 1)).room, int (rootsN gn (k + 1)).last, .slice a1 (rootsN gn (k + 1)).L.length c1].toArray = _
      rw [hFl2, hFla2, hFr2]; rfl
    subst hv1e
    refine wk ?_
    refine ec (oAlloc fun b10 => ?_)
    refine wk ?_
    have hT : ∀ (l : List HP) w, S w0 l w → Held w0 [] w := fun l => held .nil
    have okk := okb r2 k
    refine ej_held [] ?_
    refine tk 0 ?_ (hI := hT _)
    refine wclb 2 1 3 1 rfl rfl rfl (V := fun _ : Unit => .agg [int 1, .slice none 0 0].toArray) (φ := fun _ => True) (q := fun _ => (fun _ => True)) (cb := fun _ => [int 1, .slice none 0 0]) (r12New.mono (fun _ h => h) fun v w h => ⟨(), h.1, trivial, S.fold (qs := []) h.2 fun _ _ => trivial⟩) real_ref12_New (fun _ b7 _ => ?_) (hT _) rfl okk.atBks
    refine wv 4 rfl (eo_app1 (j := 0) (i := 4) (b := b7) (r := r2) (n' := k) (cs := [int 1, .slice none 0 0]) rfl rfl rfl rfl rfl rfl rfl rfl rfl rfl rfl rfl rfl (by omega) rfl fun r3 => ⟨hT _, ?_⟩)
    refine tk 5 ?_ (hI := hT _)
    refine wv 6 rfl (eo_st 3 rfl rfl rfl rfl rfl rfl rfl rfl (Nat.ble_eq_true_of_le (by rw [okk.len]; decide)) ⟨hT _, ?_⟩)
    refine wd ?_
    refine wk ?_
    refine eq_back4 (k + 1) r3 K1 (a1, c1) ⟨by omega, by omega, hv1⟩ (by omega) (le_of _ _ rfl) fun w hw => ?_
    have h1 := ((hw.erase 0).erase 0).erase 0
    have e1 : splice ({ S1 with bks := sv r2 k } : DS).cells 136 [sv r3 (k + 1)] = ({ S1 with bks := sv r3 (k + 1) } : DS).cells := okk.stBks _
    have e2 : rows bkv (List.replicate (k + 1) ((1 : Int), Value.slice none 0 0)) = rows bkv (List.replicate k (1, .slice none 0 0)) ++ [int 1, .slice none 0 0] := by rw [List.replicate_succ', rows_snoc]
    rw [e2, ← e1]
    exact h1
  obtain rfl : k = xs.length := by omega
  refine wk ?_
  have okk := okb r2 xs.length
  refine ec (oSt 0 ?_ (hl := Nat.ble_eq_true_of_le (by rw [okk.len]; decide)))
  have e1 : splice ({ S1 with bks := sv r2 xs.length } : DS).cells (0 + 132) (Value.agg [int gn, int xs.length, .slice fa xs.length fc].toArray).cells.toList = ({ S1 with bks := sv r2 xs.length, f := [int gn, int xs.length, .slice fa xs.length fc] } : DS).cells := okk.stF rfl
  have okf : ({ S1 with bks := sv r2 xs.length, f := [int gn, int xs.length, .slice fa xs.length fc] } : DS).Ok := ⟨ok1.t, ⟨rfl, rfl⟩, ok1.ls, ok1.cur, ok1.ths, rfl, ok1.tick⟩
  rw [e1]
  refine wk ?_
  refine ec (oLdW 0 ?_ (hl := okf.len))
  refine ec (oStA 3 ?_ (hz := okf.len) (h1 := okf.one) (hl := by exact hz.len))
  refine wk ?_
  refine eq_frz 1 (fun K2 hu2 hf => ?_)
  have hbk : Fv w0 K2 2 (r2.map fun p => ⟨p.1, 0, none⟩) (rows bkv (List.replicate xs.length (1, .slice none 0 0))) xs.length ((r2.map (·.2)).getD 0) := fv_row hf (by rw [rows_length bkv 2 bkv_len, List.length_replicate])
  have e0 : newSE q th gn xs = 0 := by rw [newSE, if_neg (by simpa using hq), if_neg (by simpa using h0), if_neg (by simpa using hth), if_neg (by simpa using hgr), if_neg (by omega)]
  refine eq_ret [_, _] (rvs_cell 2 rfl rfl rfl rfl (by exact okf.len) (rvs_tmp rfl rvs_nil)) fun w hw => ⟨(K2, { S1 with bks := sv r2 xs.length, f := [int gn, int xs.length, .slice fa xs.length fc] }), by rw [e0]; rfl, ⟨okf, fun _ => ?_⟩, ?_⟩
  · subst hS1
    exact ⟨rfl, rfl, rfl, rfl, hF.up hu2, rfl, ⟨_, _, rfl, hbk⟩, rfl, rfl, rfl⟩
  · exact ((hw.erase 0).erase 0).erase 0
end Go.Proofs.YtpbnjifefoniiaaGreat
namespace Go.Proofs.YtpbnjifefoniiaaGreat
open Go Go.SE
variable {w0 : World} {w : World} {l : List HP} {i j : Nat} {D : Nat} {G : Hp}
theorem r14NewA {a : Option Addr} {c : Nat} (q th gr : Int) (xs : List Nat) (hm : ∀ m ∈ xs, m < 18446744073709551616) (hV : View w0 [old w0] 1 a (u64s xs) xs.length c) (hj : l[j]? = some (frz G)) (ho : l[i]? = some (old w0)) (hij : i ≠ j) (hn : xs.length ≤ 1000) :
    Does cx F_ref14_New [.agg [int q, int th, int gr, .slice a xs.length c].toArray] (S w0 l) fun v w => ∃ x : Hp × DS, v = .tuple #[x.2.val, int (newSE q th gr xs)] ∧ (x.2.Ok ∧ (newSE q th gr xs = 0 → NewDS w0 x.1 x.2 q th gr xs)) ∧ S w0 (l.set j (frz x.1)) w := by
  obtain ⟨i', hi'⟩ : ∃ i', (l.eraseIdx j)[i']? = some (old w0) := by
    by_cases h : i < j
    · exact ⟨i, by rw [List.getElem?_eraseIdx, if_pos h]; exact ho⟩
    · refine ⟨i - 1, ?_⟩
      rw [List.getElem?_eraseIdx, if_neg (by omega), show i - 1 + 1 = i by omega]; exact ho
  exact Does.mono (r14New (l := l.eraseIdx j) q th gr xs hm hV hi' hn) (fun _ hw => hw.perm (perm_front hj)) fun _ _ ⟨x, h1, h2, h3⟩ => ⟨x, h1, h2, h3.perm (set_front hj).symm⟩
theorem yNew2 {r : Option (Nat × Nat)} (q th gr : Int) (xs : List Nat) (hm : ∀ m ∈ xs, m < 18446744073709551616) (h : l[i]? = some (rowC r T_mask_Set 1 (u64s xs) xs.length)) (hn : xs.length ≤ 1000) :
    Does cx F_state_New [.agg [int q, int th, int gr, sv r xs.length].toArray] (S w0 (frz G :: l)) fun v w => (∃ y : Nat × SyX × Hp, v = .tuple #[ptr y.1, int 0] ∧ (newSE q th gr xs = 0 ∧ (1 ≤ q ∧ q ≤ 1000 ∧ TP.topoE xs = 0 ∧ 1 ≤ th ∧ th ≤ 64 ∧ 1 ≤ gr ∧ gr ≤ 64 ∧ (xs.length : Int) ≤ gr)) ∧ S w0 (syL y.1 y.2.1 (sys0 q.toNat th.toNat gr.toNat xs xs.length) (frz y.2.2 :: cells y.2.1.tal T_tally_Tally tallyC :: l)) w) ∨
      (∃ G' : Hp, v = .tuple #[.pointer none, int (newSE q th gr xs)] ∧ newSE q th gr xs ≠ 0 ∧ S w0 (frz G' :: l) w) :=
  (yNew (i := i) q th gr xs hm h hn).mono (fun _ h => h) fun _ _ h => h.imp (fun ⟨h1, y, h2, h3, h4⟩ => ⟨y, h2, ⟨h1, h3⟩, h4⟩) fun ⟨h1, y, h2, h3⟩ => ⟨y, h2, h1, h3⟩
set_option maxRecDepth 100000 in
set_option maxHeartbeats 1600000 in
theorem lOpen {a : Option Addr} {c : Nat} (q th gr : Int) (xs : List Nat) (hm : ∀ m ∈ xs, m < 18446744073709551616) (hV : View w0 [old w0] 1 a (u64s xs) xs.length c) (ho : l[i]? = some (old w0)) (hn : xs.length ≤ 12) :
    Does cx F_law14_Open [.agg [int q, int th, int gr, .slice a xs.length c].toArray] (S w0 l) fun v w => (∃ y : Nat × SyX × Hp × DS, v = .tuple #[ptr y.1, y.2.2.2.val, int 0] ∧ (1 ≤ q ∧ q ≤ 1000 ∧ TP.topoE xs = 0 ∧ 1 ≤ th ∧ th ≤ 64 ∧ 1 ≤ gr ∧ gr ≤ 64 ∧ (xs.length : Int) ≤ gr ∧ y.2.2.2.Ok ∧ NewDS w0 y.2.2.1 y.2.2.2 q th gr xs) ∧ S w0 (syL y.1 y.2.1 (sys0 q.toNat th.toNat gr.toNat xs xs.length) (frz y.2.2.1 :: cells y.2.1.tal T_tally_Tally tallyC :: l)) w) ∨
      (∃ y : DS, v = .tuple #[.pointer none, y.val, int (newSE q th gr xs)] ∧ (newSE q th gr xs ≠ 0 ∧ y.Ok) ∧ S w0 l w) := by
  refine fn_enter (n := N_law14_Open) fn_law14_Open rfl rfl rfl ?_
  refine ej_imp' (fun _ hw => Go.SE.frz_new hw) ?_
  refine wk ?_
  refine ec (oBox fun b1 => ?_)
  refine wk ?_
  refine ec (oAlloc fun b3 => ?_)
  refine el_imp (H' := S w0 (cells b3 T_ref14_S DS.zero.cells :: cells b1 T_ref14_C [int q, int th, int gr, .slice a xs.length c] :: frz (fun _ => none) :: l)) (fun w hw => hw) ?_
  have hz := DS.zero_ok
  generalize (fun _ => none : Hp) = G0
  refine wk ?_
  refine ej_loop2 (fun (k : Nat) (r : Option (Nat × Nat)) => k ≤ xs.length) (fun k r => [(1, ptr b1), (3, ptr b3), (5, sv r k), (13, .slice a xs.length c), (14, int xs.length), (15, int k)])
    (fun k r => S w0 (rowC r T_mask_Set 1 (u64s (xs.take k)) k :: cells b3 T_ref14_S DS.zero.cells :: cells b1 T_ref14_C [int q, int th, int gr, .slice a xs.length c] :: frz G0 :: l)) (fun k _ => xs.length - k) 0 none (Nat.zero_le _) (le_of _ _ rfl) (fun w hw => hw.row_new) ?_
  intro k r hk
  refine wk ?_
  refine ej_dec rfl (fun h => ?_) (fun h => ?_)
  · have hk1 : k < xs.length := by omega
    have hx : xs[k]? = some xs[k] := by simp [hk1]
    have e1 : u64s (xs.take (k + 1)) = u64s (xs.take k) ++ [u64 xs[k]] := by
      simp only [u64s, List.take_succ_eq_append_getElem hk1, List.map_append, List.map_cons, List.map_nil]
    generalize xs[k] = m at *
    refine wk ?_
    have hV2 : View w0 (rowC r T_mask_Set 1 (u64s (xs.take k)) k :: cells b3 T_ref14_S DS.zero.cells :: cells b1 T_ref14_C [int q, int th, int gr, .slice a xs.length c] :: frz G0 :: l) 1 a (u64s xs) xs.length c := hV.one (i := i + 4) ho
    refine ec (oIdxv hV2 ?_)
    refine ec (oLdv ((k : Int).toNat * 1) hV2 ?_ (hv := (by simp [u64s, hx] : (u64s xs)[(k : Int).toNat * 1]? = some (u64 m))))
    refine wk ?_
    refine ec (oBuildS (cs := [u64 m]) (fun b' => ?_))
    refine el_cons rfl (eo_app1 (j := 0) (i := 1) (b := b') (r := r) (cs := [u64 m]) rfl rfl rfl rfl rfl rfl rfl rfl rfl rfl rfl rfl rfl (by show k ≤ 1000000; omega) rfl fun r2 => ?_)
    refine wk ?_
    refine eq_back2 (k + 1) r2 (by show k + 1 ≤ xs.length; omega) (by omega) (le_of _ _ rfl) fun w hw => ?_
    show S w0 (rowC r2 T_mask_Set 1 (u64s (xs.take (k + 1))) (k + 1) :: _) w
    rw [e1]
    exact hw.erase 0
  obtain rfl : k = xs.length := by omega
  rw [List.take_length]
  refine wk ?_
  refine ec (oBuild (cs := [int q, int th, int gr, sv r xs.length]) ?_)
  refine el_imp (fun w hw => S.perm (l' := frz G0 :: rowC r T_mask_Set 1 (u64s xs) xs.length :: cells b3 T_ref14_S DS.zero.cells :: cells b1 T_ref14_C [int q, int th, int gr, .slice a xs.length c] :: l) hw (perm_ix 4 [3, 0, 1, 2])) ?_
  refine el_cons rfl (eo_call2 rfl rfl rfl rfl rfl real_state_New (yNew2 (i := 0) q th gr xs hm rfl (by omega)) ?_ ?_)
  · rintro ⟨sb, x, K⟩ ⟨e0, hgood⟩
    simp only
    refine wk ?_
    refine Cx1 (r14NewA (j := 9) (i := 14 + i) q th gr xs hm hV rfl (by rw [Nat.add_comm]; exact ho) (by omega) (by omega)) real_ref14_New ?_
    rintro ⟨K2, ds⟩ ⟨hds, hnew⟩
    rw [e0]
    simp only
    refine wk ?_
    refine ec (oAlloc fun b10 => ?_)
    refine ec (oStA 0 ?_ (hz := hds.len) (h1 := hds.one) (hl := by exact hz.len))
    refine wk ?_
    refine ec (oPnil ?_)
    refine wk ?_
    refine ec (oBeq ?_)
    refine wk ?_
    have hI : ∀ w, S w0 (cells b10 T_ref14_S ds.cells :: (syL sb x (sys0 q.toNat th.toNat gr.toNat xs xs.length) (frz K :: cells x.tal T_tally_Tally tallyC :: rowC r T_mask_Set 1 (u64s xs) xs.length :: cells b3 T_ref14_S DS.zero.cells :: cells b1 T_ref14_C [int q, int th, int gr, .slice a xs.length c] :: l)).set 9 (frz K2)) w → Held w0 [cells b10 T_ref14_S ds.cells] w := held1 (i := 0) rfl
    refine ej_held [cells b10 T_ref14_S ds.cells] ?_
    refine tk 0 ?_
    refine tk 2 ?_
    refine tv 1 rfl (rLdW 0 (hl := hds.len)) ?_
    refine tk 3 ?_
    refine wv 4 rfl (eo_stA 13 rfl rfl rfl rfl rfl hds.len hds.one rfl (by exact hz.len) ⟨held1 (i := 0) rfl, ?_⟩)
    refine tk 5 ?_ (hI := held1 (i := 0) rfl)
    refine wd ?_
    refine wk ?_
    obtain ⟨g1, g2, g3, g4, g5', g6, g7, g8⟩ := hgood
    exact eq_ret [_, _, _] (rvs_tmp rfl (rvs_cell 13 rfl rfl rfl rfl (by exact hds.len) (rvs_tmp rfl rvs_nil))) fun w hw => .inl ⟨(sb, x, K2, ds), rfl, ⟨g1, g2, g3, g4, g5', g6, g7, g8, hds, hnew e0⟩, (((hw.erase 0).erase 11).erase 11).erase 11⟩
  · intro K e0
    refine wk ?_
    refine Cx1 (r14NewA (j := 0) (i := 4 + i) q th gr xs hm hV rfl (by rw [Nat.add_comm]; exact ho) (by omega) (by omega)) real_ref14_New ?_
    rintro ⟨K2, ds⟩ ⟨hds, hnew⟩
    simp only
    refine wk ?_
    refine ec (oAlloc fun b10 => ?_)
    refine ec (oStA 0 ?_ (hz := hds.len) (h1 := hds.one) (hl := by exact hz.len))
    refine wk ?_
    refine el_val 44 (u := .bool false) rfl (by simp) ?_
    refine wk ?_
    refine ec (oPnil ?_)
    refine wk ?_
    refine el_val 48 (u := .bool true) rfl (by simp [e0]) ?_
    refine ec (oBeq ?_)
    refine wk ?_
    refine ej_held [cells b10 T_ref14_S ds.cells] ?_
    have hI : ∀ w, S w0 (cells b10 T_ref14_S ds.cells :: frz K2 :: rowC r T_mask_Set 1 (u64s xs) xs.length :: cells b3 T_ref14_S DS.zero.cells :: cells b1 T_ref14_C [int q, int th, int gr, .slice a xs.length c] :: l) w → Held w0 [cells b10 T_ref14_S ds.cells] w := held1 (i := 0) rfl
    refine tk 0 ?_
    refine tk 2 ?_
    refine tv 1 rfl (rLdW 0 (hl := hds.len)) ?_
    refine tk 3 ?_
    refine wv 4 rfl (eo_stA 3 rfl rfl rfl rfl rfl hds.len hds.one rfl (by exact hz.len) ⟨held1 (i := 0) rfl, ?_⟩)
    refine tk 5 ?_ (hI := held1 (i := 0) rfl)
    refine wd ?_
    refine wk ?_
    exact eq_ret [_, _, _] (rvs_tmp rfl (rvs_cell 3 rfl rfl rfl rfl (by exact hds.len) (rvs_tmp rfl rvs_nil))) fun w hw => .inr ⟨ds, rfl, ⟨e0, hds⟩, ((((hw.erase 0).erase 0).erase 0).erase 0).erase 0⟩
end Go.Proofs.YtpbnjifefoniiaaGreat
namespace Go.Proofs.YtpbnjifefoniiaaGreat
open Go Go.SE
variable {w0 : World} {w : World} {l : List HP} {i j : Nat} {D : Nat} {G : Hp}
theorem newSE_pos {q th gr : Int} {xs : List Nat} (h : newSE q th gr xs ≠ 0) : 0 < newSE q th gr xs := by
  have ht : TP.topoE xs ≠ 0 → 0 < TP.topoE xs := by
    intro h
    rw [TP.topoE] at h ⊢
    split
    · decide
    · split
      · decide
      · rename_i h1 h2
        rw [if_neg h1, if_neg h2] at h; exact absurd rfl h
  rw [newSE] at h ⊢
  repeat' split
  all_goals first | decide | exact ht ‹_› | skip
  all_goals simp_all
theorem roots_get (gr : Nat) (g : Int) : ∀ k : Nat, ((rootsN gr k).get g).isSome = true ↔ 1 ≤ g ∧ g ≤ k := by
  have hlast : ∀ k : Nat, (rootsN gr k).last = k := fun k => by
    induction k with
    | zero => rfl
    | succ k ih => show (rootsN gr k).last + 1 = _; rw [ih]; rfl
  intro k
  induction k with
  | zero => simp [rootsN, kfind]; omega
  | succ k ih =>
    have e : ((rootsN gr (k + 1)).get g).isSome = (((rootsN gr k).get g).isSome || decide ((rootsN gr k).last + 1 = g)) := by
      show (gget ((rootsN gr k).L ++ [_]) g).isSome = _
      simp only [gget, kfind, List.find?_append, Option.isSome_or]
      congr 1
      by_cases h : (rootsN gr k).last + 1 = g
      · simp [h]
      · simp [h]
    rw [e, Bool.or_eq_true, ih, decide_eq_true_eq, hlast]
    omega
theorem roots_there (gr k : Nat) (g : Int) : (rootsN gr k).there g = 0 ↔ 1 ≤ g ∧ g ≤ k := by
  rw [← roots_get gr g k, Forest.there]
  split <;> simp_all
set_option maxRecDepth 100000 in
set_option maxHeartbeats 1600000 in
theorem Nones_any {a : Option Addr} {c : Nat} (q th gr id : Int) (xs : List Nat) (hm : ∀ m ∈ xs, m < 18446744073709551616) (hV : View w0 [old w0] 1 a (u64s xs) xs.length c) (ho : l[i]? = some (old w0)) :
    Does cx F_law14_StateNones [.agg [int q, int th, int gr, .slice a xs.length c].toArray, int id] (S w0 l) fun v w => v = .bool true ∧ S w0 l w := by
  refine fn_enter (n := N_law14_StateNones) fn_law14_StateNones rfl rfl rfl ?_
  refine wk ?_
  refine ec (oBox fun b2 => ?_)
  refine wk ?_
  refine C1 awake_any real_law14_awake ?_
  refine wk ?_
  refine ej_dec rfl (fun h => ?_) (fun h => ?_)
  · refine wk ?_
    refine C1 awake_any real_law14_awake ?_
    refine wk ?_
    exact eq_rett rfl fun w hw => ⟨rfl, hw.erase 0⟩
  refine wk ?_
  refine el_cons rfl (eo_call2 rfl rfl rfl rfl rfl real_law14_Open (lOpen (i := i + 1) q th gr xs hm hV ho (by omega)) ?_ ?_)
  · rintro ⟨sb, x, K, ds⟩ ⟨h1, h2, h3, h4, h5, h6, h7, h8, hds, _⟩
    simp only
    refine wk ?_
    refine ec (oAlloc fun b6 => ?_)
    refine wk ?_
    refine ec (oStA 0 ?_ (hz := hds.len) (h1 := hds.one) (hl := rfl))
    refine wk ?_
    have hxl : xs.length ≤ 8 := topoE_few h3
    obtain ⟨hFo, _, _, _⟩ := rootsN_ok (gr := gr.toNat) (by omega) xs.length (by omega)
    have hno : (sys0 q.toNat th.toNat gr.toNat xs xs.length).find id = none := rfl
    have hF : (sys0 q.toNat th.toNat gr.toNat xs xs.length).F = rootsN gr.toNat xs.length := rfl
    generalize hs : sys0 q.toNat th.toNat gr.toNat xs xs.length = s at *
    refine el_imp (fun w hw => hw.erase 0) ?_
    refine C1 (yThread_no id hno) real_state_System_Thread ?_
    refine wk ?_
    refine ec (oAlloc fun b8 => ?_)
    refine wk ?_
    refine el_imp (H' := S w0 (syL sb x s (cells b8 T_state_Thread thZ :: frz K :: cells x.tal T_tally_Tally tallyC :: cells b2 T_ref14_C [int q, int th, int gr, .slice a xs.length c] :: l))) (fun w hw => S.perm hw (perm_ix 10 [1, 2, 3, 4, 5, 6, 7, 8, 9, 0])) ?_
    refine C1 (yEffective_no id hno) real_state_System_Effective ?_
    refine wk ?_
    refine C1 (yGroup (by rw [hF]; exact hFo) id) real_state_System_Group ?_
    refine wk ?_
    have htl : (s.F.told id).length = 7 ∧ (s.F.told id).all SE.one = true := by
      unfold Forest.told
      split <;> exact ⟨rfl, rfl⟩
    refine ec (oAlloc fun b12 => ?_)
    refine ec (oStA 0 ?_ (hz := htl.1) (h1 := htl.2))
    refine el_imp (fun w hw => hw.erase 0) ?_
    refine wk ?_
    have ht := roots_there gr.toNat xs.length id
    rw [← hF] at ht
    refine el_gdec rfl rfl (fun h => ?_) (fun h => ?_)
    · refine wk ?_
      refine ec (oBeq ?_)
      refine el_val 85 (u := .bool true) rfl (by simp [eqOr, ht]; omega) ?_
      refine wk ?_
      refine C1 (yRemove_no id hno) real_state_System_Remove ?_
      refine wk ?_
      refine C1 (ySleep_no id hno) real_state_System_Sleep ?_
      refine wk ?_
      refine C1 (yRun_no id hno) real_state_System_Run ?_
      refine wk ?_
      exact eq_rett rfl fun w hw => ⟨rfl, hw.drop 13⟩
    · refine wk ?_
      refine ec (oBeq ?_)
      refine el_val 85 (u := .bool true) rfl (by simp [eqOr, ht]; omega) ?_
      refine wk ?_
      refine C1 (yRemove_no id hno) real_state_System_Remove ?_
      refine wk ?_
      refine C1 (ySleep_no id hno) real_state_System_Sleep ?_
      refine wk ?_
      refine C1 (yRun_no id hno) real_state_System_Run ?_
      refine wk ?_
      exact eq_rett rfl fun w hw => ⟨rfl, hw.drop 13⟩
  · intro y hy
    refine wk ?_
    refine ec (oAlloc fun b6 => ?_)
    refine wk ?_
    refine ec (oStA 0 ?_ (hz := hy.2.len) (h1 := hy.2.one) (hl := rfl))
    refine wk ?_
    refine ej_dec rfl (fun _ => ?_) (fun h => absurd hy.1 h)
    refine wk ?_
    refine eq_rett rfl fun w hw => ⟨?_, (hw.erase 0).erase 0⟩
    rw [decide_eq_true (newSE_pos hy.1)]; rfl
end Go.Proofs.YtpbnjifefoniiaaGreat
namespace Go.SE
open Go Go.ChangeShapes Go.WideShapes Go.ChangeAt Go.RowKit
def rd (L : Lay) (W : World) : Nat → TypeId → List Value → Prop
  | 0, _, _ => True
  | f + 1, t, cs => match L.ti t with
    | none => True
    | some ti => match ti.kind with
      | .int k => ∃ n, cs = [.int k n] ∧ k.min ≤ n ∧ n ≤ k.max
      | .bool => ∃ b, cs = [.bool b]
      | .str => ∃ s, cs = [.string s] ∧ s.size ≤ maxLen
      | .struct fs => cs.length = ti.size ∧ ∀ p ∈ fs, ∀ tj, L.ti p.1 = some tj → rd L W f p.1 (cellsAt cs p.2 tj.size)
      | .array m E => cs.length = ti.size ∧ ∀ te, L.ti E = some te → ∀ i, i < m → rd L W f E (cellsAt cs (i * te.size) te.size)
      | .slice E => ∀ te, L.ti E = some te → ∃ a n c xs, cs = [.slice a n c] ∧ (n ≤ c ∧ c ≤ maxLen) ∧ Sl W te.size a xs n ∧ ∀ i, i < n → rd L W f E (cellsAt xs (i * te.size) te.size)
      | _ => True
theorem cellsOf_lay {P : Program} {L : Lay} (ok : L.Ok P) {t : TypeId} {ti : TI} (h : L.ti t = some ti) : P.cellsOf t = ti.size := by
  obtain ⟨ie, hie, hsz, _, _⟩ := (ok _ _ h).info
  simp [Program.cellsOf, hie, hsz]
theorem bytesOf_lay {P : Program} {L : Lay} (ok : L.Ok P) {t : TypeId} {ti : TI} (h : L.ti t = some ti) : P.bytesOf t = ti.bytes := by
  obtain ⟨ie, hie, _, hby, _⟩ := (ok _ _ h).info
  simp [Program.bytesOf, hie, hby]
theorem flat_at (g : Nat → List Value) (z : Nat) : ∀ n, (∀ i, i < n → (g i).length = z) → ((List.range n).flatMap g).length = n * z ∧
    ∀ i, i < n → cellsAt ((List.range n).flatMap g) (i * z) z = g i := by
  intro n
  induction n with
  | zero => intro _; simp
  | succ n ih =>
    intro h
    obtain ⟨h1, h2⟩ := ih fun i hi => h i (by omega)
    have e : (List.range (n + 1)).flatMap g = (List.range n).flatMap g ++ g n := by rw [List.range_succ, List.flatMap_append]; simp
    have hn := h n (by omega)
    rw [e]
    refine ⟨by rw [List.length_append, h1, hn, Nat.succ_mul], fun i hi => ?_⟩
    rcases Nat.lt_succ_iff_lt_or_eq.1 hi with hi | rfl
    · rw [← h2 i hi]
      have hle : i * z + z ≤ n * z := by rw [← Nat.succ_mul]; exact Nat.mul_le_mul_right _ hi
      simp only [cellsAt]
      rw [List.drop_append_of_le_length (by omega), List.take_append_of_le_length (by rw [List.length_drop]; omega)]
    · simp only [cellsAt]
      rw [← h1, List.drop_left, List.take_of_length_le (by omega)]
theorem cellsAt_get {cs : List Value} {off z j : Nat} (hj : j < z) : (cellsAt cs off z)[j]? = cs[off + j]? := by
  simp [cellsAt, hj, List.getElem?_drop]
section
variable {H : Type} {enc : TypeId × Value → H} {P : Program} {L : Lay}
theorem sl_of {W : World} {a : Addr} {n z : Nat} {g : Nat → List Value} (h : ∀ i, i < n → W.cells? 0 (a.add (i * z)) z = some (g i)) : Sl W z (some a) ((List.range n).flatMap g) n := by
  have hlen : ∀ i, i < n → (g i).length = z := fun i hi => (World.cells?_some (h i hi)).2.1
  obtain ⟨h1, h2⟩ := flat_at g z n hlen
  refine ⟨h1, fun j u hu => ?_⟩
  have hlt := (List.getElem?_eq_some_iff.1 hu).1
  rw [h1] at hlt
  have hz : 0 < z := by
    rcases Nat.eq_zero_or_pos z with rfl | hz
    · simp at hlt
    · exact hz
  have hi : j / z < n := by rw [Nat.div_lt_iff_lt_mul hz]; exact hlt
  have hj : j = (j / z) * z + j % z := by rw [Nat.mul_comm]; exact (Nat.div_add_mod j z).symm
  have hm : j % z < z := Nat.mod_lt _ hz
  have key : ∀ i q u, i < n → q < z → ((List.range n).flatMap g)[i * z + q]? = some u → W.cell? ((a.add (i * z)).add q) = some u := by
    intro i q u hi hq hu
    rw [(World.cells?_some (h i hi)).2.2 q hq, ← h2 i hi, cellsAt_get hq]; exact hu
  have h0n : 0 < n := Nat.lt_of_le_of_lt (Nat.zero_le _) hi
  have hsp : a.spot = none := by
    have hx0 : 0 < ((List.range n).flatMap g).length := by rw [h1]; exact Nat.mul_pos h0n hz
    have := key 0 0 _ h0n hz (by rw [Nat.zero_mul]; exact List.getElem?_eq_getElem hx0)
    simp only [Nat.zero_mul, Addr.add, if_pos] at this
    unfold World.cell? at this
    split at this
    · split at this
      · cases this
      · rename_i h; simpa using h
    · cases this
  have ea : a = ⟨a.block, a.off, none⟩ := by cases a; simp at hsp; simp [hsp]
  refine ⟨by simp only [ob, oo, Option.getD_some]; rw [← ea], ?_⟩
  have := key (j / z) (j % z) u hi hm (by rw [← hj]; exact hu)
  rw [ea, addr_add, addr_add] at this
  simp only [ob, oo, Option.getD_some]
  rw [Nat.add_assoc, ← hj] at this
  exact this
theorem rd_of_trod (ok : L.Ok P) {W : World} {sp : Nat → Bool} {held : Bool} : ∀ (f : Nat) (t : TypeId) (cs : List Value) (x : DataW H × List MemPlace), DataW.trod enc P W 0 sp held f t cs = some x → rd L W f t cs := by
  intro f
  induction f with
  | zero => intro t cs x h; simp [rd]
  | succ f ih =>
    intro t cs x h
    simp only [rd]
    cases ht : L.ti t with
    | none => trivial
    | some ti =>
      have hok := ok _ _ ht
      simp only
      cases hk : ti.kind with
      | int k =>
        obtain ⟨n, rfl, _, hw⟩ := DataW.trod_int (kind_int hok hk) h
        simp only [Lit.wf, Bool.and_eq_true, decide_eq_true_eq] at hw
        exact ⟨n, rfl, hw⟩
      | bool =>
        obtain ⟨b, rfl, _⟩ := DataW.trod_bool (kind_bool hok hk) h
        exact ⟨b, rfl⟩
      | str =>
        obtain ⟨s, rfl, _, hs⟩ := DataW.trod_string (kind_str hok hk) h
        exact ⟨s, rfl, hs⟩
      | struct fs =>
        obtain ⟨gs, hu, hgs⟩ := kind_struct hok hk
        obtain ⟨xs, m, hm, _, hl, hx, hf⟩ := DataW.trod_struct hu h
        obtain rfl : f = m := by omega
        refine ⟨by rw [hl, cellsOf_lay ok ht], fun p hp tj hj => ?_⟩
        rw [← hgs] at hp
        obtain ⟨g, hg, rfl⟩ := List.mem_map.1 hp
        obtain ⟨i, hi, hgi⟩ := List.getElem_of_mem hg
        have h1 := hf i g (by rw [← hgi]; simp [Array.getElem?_eq_getElem (by simpa using hi)])
        have hlt : i < xs.length := by rw [hx]; simpa using hi
        rw [List.getElem?_eq_getElem hlt, cellsOf_lay ok hj] at h1
        exact ih _ _ _ h1
      | array m E =>
        obtain ⟨xs, q, hq, _, hl, hx, hf⟩ := DataW.trod_array (kind_array hok hk) h
        obtain rfl : f = q := by omega
        refine ⟨by rw [hl, cellsOf_lay ok ht], fun te hte i hi => ?_⟩
        have h1 := hf i hi
        have hlt : i < xs.length := by omega
        rw [List.getElem?_eq_getElem hlt, cellsOf_lay ok hte] at h1
        exact ih _ _ _ h1
      | slice E =>
        intro te hte
        rcases DataW.trod_slice (kind_slice hok hk) h with ⟨rfl, _⟩ | ⟨a, len, cap, elems, rest, n, hn, rfl, _, hb, hl, hm, hlen, hel, _, _⟩
        · exact ⟨none, 0, 0, [], rfl, ⟨Nat.le_refl _, Nat.zero_le _⟩, ⟨by simp, by intro j u hu; simp at hu⟩, fun i hi => absurd hi (by omega)⟩
        · obtain rfl : f = n := by omega
          have each : ∀ i, i < len → ∃ cs', W.cells? 0 (a.add (i * te.size)) te.size = some cs' ∧ rd L W f E cs' := by
            intro i hi
            have h1 := hel i hi
            have hlt : i < elems.length := by omega
            rw [List.getElem?_eq_getElem hlt, Option.bind_eq_some_iff, cellsOf_lay ok hte] at h1
            obtain ⟨cs', h2, h3⟩ := h1
            exact ⟨cs', h2, ih _ _ _ h3⟩
          obtain ⟨g, hg⟩ := Go.Deep.choose_lt each
          refine ⟨some a, len, cap, (List.range len).flatMap g, rfl, ⟨hl, hm⟩, sl_of fun i hi => (hg i hi).1, fun i hi => ?_⟩
          rw [(flat_at g te.size len fun i hi => (World.cells?_some (hg i hi).1).2.1).2 i hi]
          exact (hg i hi).2
      | _ => trivial
structure Arg (L : Lay) (W : World) (t : TypeId) (v : Value) : Prop where
  form : ∀ ti, L.ti t = some ti → ti.kind.agg = true → ∃ cs : List Value, v = .agg cs.toArray
  cell : ∀ ti, L.ti t = some ti → (match ti.kind with | .int _ | .bool | .str | .slice _ => True | _ => False) → v.cells = #[v]
  read : ∃ f, rd L W f t v.cells.toList ∧ 20 ≤ f
  fits : ∀ ti E te, L.ti t = some ti → ti.kind = .slice E → L.ti E = some te → ∀ a n c, v = .slice a n c → n * te.bytes ≤ reachBytes
  text : ∀ ti, L.ti t = some ti → ti.kind = .str → ∀ s, v = .string s → s.size ≤ reachBytes
def Args (L : Lay) (W : World) : List TypeId → List Value → Prop
  | [], [] => True
  | t :: ts, v :: vs => Arg L W t v ∧ Args L W ts vs
  | _, _ => False
theorem trod_more {W : World} {sp : Nat → Bool} {held : Bool} {t : TypeId} {v : Value} {d : DataW H} {ps : List MemPlace} (h : DataW.Trod enc P W 0 sp held t v d ps) : ∃ f, DataW.trod enc P W 0 sp held f t v.cells.toList = some (d, ps) ∧ 20 ≤ f := by
  obtain ⟨f, hf⟩ := h
  exact ⟨f + 20, DataW.trod_le (by omega) hf, by omega⟩
theorem arg_of (ok : L.Ok P) {W : World} {sp : Nat → Bool} {held : Bool} {r : Reach} {b0 : Nat} {t : TypeId} {v : Value} {d : DataW H} {ps : List MemPlace} (hval : Value.okWide P W r b0 t v) (h : DataW.Trod enc P W 0 sp held t v d ps)
    (hw : (d.weights P t).all (· ≤ reachBytes) = true) : Arg L W t v := by
  obtain ⟨f, hf, h20⟩ := trod_more h
  refine ⟨fun ti ht hk => ?_, fun ti ht hk => ?_, ⟨f, rd_of_trod ok _ _ _ _ hf, h20⟩, fun ti E te ht hk hE a n c hv => ?_, fun ti ht hk s hv => ?_⟩
  · have hok := ok _ _ ht
    cases hkk : ti.kind with
    | struct fs =>
      obtain ⟨gs, hu, _⟩ := kind_struct hok hkk
      obtain ⟨cs, rfl, _⟩ := okWide_struct hu hval
      exact ⟨cs.toList, by simp⟩
    | array m E =>
      have hu := kind_array hok hkk
      simp only [Value.okWide, hu] at hval
      obtain ⟨cs, rfl, _⟩ := hval
      exact ⟨cs.toList, by simp⟩
    | _ => rw [hkk] at hk; cases hk
  · have hok := ok _ _ ht
    cases hkk : ti.kind with
    | int k => obtain ⟨n, rfl⟩ := okWide_int (kind_int hok hkk) hval; rfl
    | bool => obtain ⟨n, rfl⟩ := okWide_bool (kind_bool hok hkk) hval; rfl
    | str =>
      have hu := kind_str hok hkk
      simp only [Value.okWide, hu, Cell.okWide] at hval
      cases v <;> simp_all [Cell.ok] <;> rfl
    | slice E => obtain ⟨a, n, c, rfl⟩ := okWide_slice (kind_slice hok hkk) hval; rfl
    | _ => rw [hkk] at hk; cases hk
  · subst hv
    have hu := kind_slice (ok _ _ ht) hk
    rcases DataW.trod_slice hu hf with ⟨h1, _⟩ | ⟨a', len, cap, elems, rest, q, _, h1, h2, _, _, _, hlen, _⟩
    · simp [Value.cells] at h1
      rw [h1.2.1]; omega
    · simp [Value.cells] at h1
      obtain ⟨_, rfl, _⟩ := h1
      have h3 : d = .slice (elems.map (·.1)) (rest.map (·.1)) := congrArg Prod.fst h2
      subst h3
      simp only [DataW.weights, hu, List.all_cons, Bool.and_eq_true, decide_eq_true_eq, List.length_map] at hw
      have h4 := hw.1
      rw [bytesOf_lay ok hE, hlen] at h4
      exact Nat.le_trans (Nat.mul_le_mul_right _ (Nat.le_add_right _ _)) h4
  · subst hv
    obtain ⟨s', h1, h2, _⟩ := DataW.trod_string (kind_str (ok _ _ ht) hk) hf
    simp [Value.cells] at h1
    subst h1
    have h3 : d = .lit (.string s.data.toList) := congrArg Prod.fst h2
    subst h3
    simp only [DataW.weights, List.all_cons, Bool.and_eq_true, decide_eq_true_eq, Array.length_toList] at hw
    exact hw.1
theorem args_of (ok : L.Ok P) {W : World} {sp : Nat → Bool} {held : Bool} {r : Reach} {b0 : Nat} : ∀ {ts : List TypeId} {vs : List Value} {ds : List (DataW H)} {ps : List MemPlace}, DataW.TrodAll enc P W 0 sp held ts vs ds ps →
    (∀ (j : Nat) t v, ts[j]? = some t → vs[j]? = some v → Value.okWide P W r b0 t v) → (DataW.weightsEach P ts ds).all (· ≤ reachBytes) = true → Args L W ts vs
  | [], [], _, _, _, _, _ => trivial
  | [], _ :: _, [], _, h, _, _ => h.elim
  | [], _ :: _, _ :: _, _, h, _, _ => h.elim
  | _ :: _, [], [], _, h, _, _ => h.elim
  | _ :: _, [], _ :: _, _, h, _, _ => h.elim
  | _ :: _, _ :: _, [], _, h, _, _ => h.elim
  | t :: ts, v :: vs, d :: ds, ps, h, hv, hw => by
    obtain ⟨p, q, h1, h2, _⟩ := h
    simp only [DataW.weightsEach, List.all_append, Bool.and_eq_true] at hw
    exact ⟨arg_of ok (hv 0 t v rfl rfl) h1 hw.1, args_of ok h2 (fun j t v hj hv' => hv (j + 1) t v hj hv') hw.2⟩
theorem below_of {W w : World} {l : List HP} (h : S W (old W :: l) w) : Below W.heap.size W w := by
  refine ⟨h.os, h.tape, h.output, h.size, fun k hk => ?_⟩
  obtain ⟨h1, h2, hd, he, hp, _⟩ := stars_focus (old W :: l) 0 _ _ h.sat rfl
  have h3 := hp k _ (Array.getElem?_eq_getElem hk)
  have := congrFun he k
  rw [Array.getElem?_eq_getElem hk]
  simp only [uni, h3, Option.some_or] at this
  exact this
theorem trodAll_stays (hl : laidOutB P = true) {W W' : World} (hb : Below W.heap.size W W') : ∀ {ts : List TypeId} {vs : List Value} {ds : List (DataW H)} {ps : List MemPlace}, (∀ t ∈ ts, P.readableRec t = true ∧ t < P.types.size) →
    DataW.TrodAll enc P W 0 (fun _ => true) true ts vs ds ps → (∀ x ∈ ps, x.block < W.heap.size) → ∀ (sp : Nat → Bool), (∀ p ∈ ps, sp p.block = true) → DataW.TrodAll enc P W' 0 sp true ts vs ds ps
  | [], [], [], _, _, h, _, _, _ => h
  | [], _ :: _, [], _, _, h, _, _, _ => h.elim
  | [], _ :: _, _ :: _, _, _, h, _, _, _ => h.elim
  | [], [], _ :: _, _, _, h, _, _, _ => h.elim
  | _ :: _, [], [], _, _, h, _, _, _ => h.elim
  | _ :: _, [], _ :: _, _, _, h, _, _, _ => h.elim
  | _ :: _, _ :: _, [], _, _, h, _, _, _ => h.elim
  | t :: ts, v :: vs, d :: ds, ps, hr, h, hlt, sp, hsp => by
    obtain ⟨p, q, h1, h2, rfl⟩ := h
    have ht := hr t (by simp)
    exact ⟨p, q, WideElems.Trod_stays hl ht.1 ht.2 h1 (fun x hx => hb.same (hlt x (by simp [hx]))) (fun x hx => hsp x (by simp [hx])),
      trodAll_stays hl hb (fun t h => hr t (by simp [h])) h2 (fun x hx => hlt x (by simp [hx])) sp (fun x hx => hsp x (by simp [hx])), rfl⟩
structure Lawful (s : ChangeSpec) (m : Nat) : Prop where
  vars : s.vars = []
  says : ∀ (H : Type) (ds : List (DataW H)), ds.length = m → s.fn H ds = { results := [.lit (.bool true)], args := ds }
theorem law_post (hl : laidOutB P = true) {f : Func} {s : ChangeSpec} {m tb : Nat} (hs : Lawful s m) (hr : ∀ t ∈ f.params.toList, P.readableRec t = true ∧ t < P.types.size) (hm : f.params.size = m) (hres : f.resultTypes = #[tb]) (htb : P.underlying tb = some .bool)
    {apart fresh handsOn : Bool} {W W' : World} {args : Array Value} {ds gs : List (DataW H)} {before : List MemPlace} (hW : DataW.Whole enc P f.params.toList s.vars apart W args.toList ds gs before) (hb : Below W.heap.size W W') :
    s.post enc P f apart fresh handsOn false W args (.bool true) W' := by
  have hW' := hW
  obtain ⟨p, q, hA, hV, rfl, _, _⟩ := hW
  have hlen := (trodAll_length hA).2
  rw [hs.vars] at hV
  obtain ⟨rfl, rfl⟩ := trodVars_none hV
  have hsay := hs.says H ds (by rw [hlen]; simpa using hm)
  have hlt : ∀ x ∈ p, x.block < W.heap.size := fun x hx => by simpa using hW'.lt x (by simpa using hx)
  have hT : ∀ (b : Nat) (sp : Nat → Bool) (hd : Bool), DataW.TrodAll enc P W' b sp hd f.resultTypes.toList ((Value.bool true).resultList f.resultTypes.size) [.lit (.bool true)] [] := fun b sp hd => by
    rw [hres]
    exact ⟨[], [], ⟨1, by simp [DataW.trod, Value.cells, htb]⟩, rfl, rfl⟩
  refine ⟨ds, [], p ++ [], [], p, [], hW', ?_, ?_, ?_, hb.frame _, fun h => by cases h⟩
  · rw [List.append_nil, hsay]; exact hT _ _ _
  · rw [List.append_nil, hsay]; exact trodAll_stays hl hb hr hA hlt _ (fun x hx => by simpa using hlt x hx)
  · rw [List.append_nil, hsay, hs.vars]; rfl
end
theorem law_lifted {H : Type} {enc : TypeId × Value → H} (C : Cx) {K : Checked} (hP : K.prog = C.P) {os : Os} {f : FuncId} {fn : Func} {s : ChangeSpec} {m tb : Nat} {conds : List PathCond} {apart fresh handsOn : Bool}
    (hs : Lawful s m) (own : ownKnob K.prog.godebug = none) (started : os.Started) (noInit : K.prog.inits.idxOf? f = none) (hfn : K.prog.funcs[f]? = some fn)
    (witness : ∃ (w : World) (tape : Tape) (i : Input), w.os = os ∧ (w.forCall tape i).Shaped K.prog ∧ i.vars = [] ∧ Input.okWide K.prog (w.forCall tape i) .any w.heap.size f i ∧
      s.pre6 enc K.prog fn conds apart (w.forCall tape i).memory i.args ∧ ({} : Assume).holds K.prog (lone (Frame.enter K.prog f i.args .normal) [] (w.forCall tape i)))
    (hl : laidOutB K.prog = true) (hr : (fn.params.toList.all fun t => K.prog.readableRec t && decide (t < K.prog.types.size)) = true) (hm : fn.params.size = m) (hres : fn.resultTypes = #[tb]) (htb : K.prog.underlying tb = some .bool)
    (law : ∀ (W : World) (args : List Value), Args C.L W fn.params.toList args → Does C f args (S W [old W]) fun v w => v = .bool true ∧ S W [old W] w) :
    ReturnsInHanded {} K os f .any (s.pre6 enc K.prog fn conds apart) (s.post enc K.prog fn apart fresh handsOn false) := by
  refine returnsInHanded_of_change_sized own started noInit hfn witness ?_
  intro W base args ds gs before hval hW _ hw _
  have hok : C.L.Ok K.prog := hP ▸ C.ok
  have hr' : ∀ t ∈ fn.params.toList, K.prog.readableRec t = true ∧ t < K.prog.types.size := fun t ht => by
    have := List.all_eq_true.1 hr t ht
    simpa using this
  have hA : Args C.L W fn.params.toList args.toList := by
    obtain ⟨p, q, hA, hV, _, _, _⟩ := hW
    refine args_of hok hA (r := .any) (b0 := base) (fun j t v hj hv => hval j t v (by simpa using hj) (by simpa using hv)) ?_
    have hlen := (trodAll_length hA).2
    have key : ∀ (ts ts' : List TypeId) (ds ds' : List (DataW H)), ds.length = ts.length → (DataW.weightsEach K.prog (ts ++ ts') (ds ++ ds')).all (· ≤ reachBytes) = true → (DataW.weightsEach K.prog ts ds).all (· ≤ reachBytes) = true := by
      intro ts
      induction ts with
      | nil => intro ts' ds ds' h _; cases ds with | nil => rfl | cons _ _ => cases h
      | cons t ts ih =>
        intro ts' ds ds' h hw
        cases ds with
        | nil => cases h
        | cons d ds =>
          simp only [List.cons_append, DataW.weightsEach, List.all_append, Bool.and_eq_true] at hw ⊢
          exact ⟨hw.1, ih ts' ds ds' (by simpa using h) hw.2⟩
    exact key _ _ _ _ (by rw [hlen]) hw
  have h1 := law W args.toList hA W (S.begin W)
  rw [← hP] at h1
  have h2 : Calls K.prog f args W fun x w' => ∃ v, x = .returned v ∧ (v = .bool true ∧ S W [old W] w') := by simpa using h1
  refine h2.mono fun e W' hh => ?_
  obtain ⟨v, rfl, rfl, hw'⟩ := hh
  exact ⟨_, rfl, law_post hl hs hr' hm hres htb hW (below_of hw')⟩
section
variable {L : Lay} {W : World} {t E : TypeId} {ti te : TI} {cs : List Value} {f : Nat}
theorem rd_less : ∀ (f : Nat) (t : TypeId) (cs : List Value), rd L W (f + 1) t cs → rd L W f t cs := by
  intro f
  induction f with
  | zero => intro t cs _; simp [rd]
  | succ f ih =>
    intro t cs h
    unfold rd at h ⊢
    cases ht : L.ti t with
    | none => trivial
    | some ti =>
      rw [ht] at h
      simp only at h ⊢
      cases hk : ti.kind with
      | struct fs =>
        rw [hk] at h
        exact ⟨h.1, fun p hp tj hj => ih _ _ (h.2 p hp tj hj)⟩
      | array m E =>
        rw [hk] at h
        exact ⟨h.1, fun te hte i hi => ih _ _ (h.2 te hte i hi)⟩
      | slice E =>
        rw [hk] at h
        intro te hte
        obtain ⟨a, n, c, xs, h1, h2, h3, h4⟩ := h te hte
        exact ⟨a, n, c, xs, h1, h2, h3, fun i hi => ih _ _ (h4 i hi)⟩
      | int k => rw [hk] at h; exact h
      | bool => rw [hk] at h; exact h
      | str => rw [hk] at h; exact h
      | _ => trivial
theorem rd_le {f g : Nat} (hfg : f ≤ g) (h : rd L W g t cs) : rd L W f t cs := by
  induction g with
  | zero =>
    obtain rfl : f = 0 := by omega
    exact h
  | succ g ih =>
    rcases Nat.lt_or_ge f (g + 1) with hlt | hge
    · exact ih (by omega) (rd_less _ _ _ h)
    · obtain rfl : f = g + 1 := by omega
      exact h
theorem rd_int {k : IntKind} (ht : L.ti t = some ti) (hk : ti.kind = .int k) (h : rd L W (f + 1) t cs) : ∃ n, cs = [.int k n] ∧ k.min ≤ n ∧ n ≤ k.max := by
  unfold rd at h; rw [ht] at h; simp only [hk] at h; exact h
theorem rd_struct {fs : List (TypeId × Nat)} (ht : L.ti t = some ti) (hk : ti.kind = .struct fs) (h : rd L W (f + 1) t cs) : cs.length = ti.size ∧ ∀ p ∈ fs, ∀ tj, L.ti p.1 = some tj → rd L W f p.1 (cellsAt cs p.2 tj.size) := by
  unfold rd at h; rw [ht] at h; simp only [hk] at h; exact h
theorem rd_slice (ht : L.ti t = some ti) (hk : ti.kind = .slice E) (hE : L.ti E = some te) (h : rd L W (f + 1) t cs) :
    ∃ a n c xs, cs = [.slice a n c] ∧ (n ≤ c ∧ c ≤ maxLen) ∧ Sl W te.size a xs n ∧ ∀ i, i < n → rd L W f E (cellsAt xs (i * te.size) te.size) := by
  unfold rd at h; rw [ht] at h; simp only [hk] at h; exact h te hE
theorem chunks (z : Nat) : ∀ (n : Nat) (xs : List Value), xs.length = n * z → ∃ es : List (List Value), es.length = n ∧ es.flatten = xs ∧ ∀ i (h : i < es.length), es[i] = cellsAt xs (i * z) z := by
  intro n
  induction n with
  | zero =>
    intro xs h
    refine ⟨[], rfl, ?_, fun i h => absurd h (by simp)⟩
    rw [Nat.zero_mul] at h
    simp [List.eq_nil_of_length_eq_zero h]
  | succ n ih =>
    intro xs h
    obtain ⟨es, h1, h2, h3⟩ := ih (xs.drop z) (by rw [List.length_drop, h, Nat.succ_mul, Nat.add_sub_cancel])
    refine ⟨xs.take z :: es, by simp [h1], by simp [h2], fun i hi => ?_⟩
    cases i with
    | zero => simp [cellsAt]
    | succ i =>
      rw [List.getElem_cons_succ, h3]
      simp only [cellsAt, List.drop_drop]
      congr 2; rw [Nat.succ_mul, Nat.add_comm]
theorem all_of {α β : Type} (g : α → β) (φ : α → Prop) : ∀ (es : List β), (∀ e ∈ es, ∃ x, e = g x ∧ φ x) → ∃ xs : List α, es = xs.map g ∧ ∀ x ∈ xs, φ x := by
  intro es
  induction es with
  | nil => intro _; exact ⟨[], rfl, by simp⟩
  | cons e r ih =>
    intro h
    obtain ⟨x, rfl, hx⟩ := h e (by simp)
    obtain ⟨xs, rfl, hxs⟩ := ih fun e he => h e (by simp [he])
    refine ⟨x :: xs, rfl, fun y hy => ?_⟩
    rcases List.mem_cons.1 hy with rfl | hy
    · exact hx
    · exact hxs y hy
theorem rd_list {α : Type} (g : α → List Value) (φ : α → Prop) (ht : L.ti t = some ti) (hk : ti.kind = .slice E) (hE : L.ti E = some te) (hg : ∀ cs, rd L W f E cs → ∃ x, cs = g x ∧ φ x) (h : rd L W (f + 1) t cs) :
    ∃ (a : Option Addr) (xs : List α) (c : Nat), cs = [.slice a xs.length c] ∧ (∀ x ∈ xs, φ x) ∧ Sl W te.size a (xs.map g).flatten xs.length ∧ (xs.length ≤ c ∧ c ≤ maxLen) := by
  obtain ⟨a, n, c, xs, h1, h2, h3, h4⟩ := rd_slice ht hk hE h
  obtain ⟨es, h5, h6, h7⟩ := chunks te.size n xs h3.len
  obtain ⟨ys, rfl, hφ⟩ := all_of g φ es fun e he => by
    obtain ⟨i, hi, rfl⟩ := List.getElem_of_mem he
    rw [h7 i hi]
    exact hg _ (h4 i (by omega))
  rw [List.length_map] at h5
  subst h5
  exact ⟨a, ys, c, h1, hφ, by rw [h6]; exact h3, h2⟩
theorem arg_cell {v u : Value} (ht : L.ti t = some ti) (hk : match ti.kind with | .int _ | .bool | .str | .slice _ => True | _ => False) (h : Arg L W t v) (he : v.cells.toList = [u]) : v = u := by
  rw [h.cell ti ht hk] at he; simpa using he
theorem arg_int {v : Value} {k : IntKind} (ht : L.ti t = some ti) (hk : ti.kind = .int k) (h : Arg L W t v) : ∃ n, v = .int k n ∧ k.min ≤ n ∧ n ≤ k.max := by
  obtain ⟨q, h1, h2⟩ := h.read
  obtain ⟨n, h3, h4⟩ := rd_int ht hk (rd_le h2 h1)
  exact ⟨n, arg_cell ht (by rw [hk]; trivial) h h3, h4⟩
theorem arg_agg {α : Type} (g : α → List Value) (φ : α → Prop) {v : Value} (ht : L.ti t = some ti) (hk : ti.kind.agg = true) (hg : ∀ cs, rd L W 20 t cs → ∃ x, cs = g x ∧ φ x) (h : Arg L W t v) : ∃ x, v = .agg (g x).toArray ∧ φ x := by
  obtain ⟨cs, rfl⟩ := h.form ti ht hk
  obtain ⟨q, h1, h2⟩ := h.read
  obtain ⟨x, h3, h4⟩ := hg _ (rd_le h2 h1)
  simp only [Value.cells] at h3
  exact ⟨x, by rw [← h3], h4⟩
theorem args2 {t2 : TypeId} {v : List Value} (h : Args L W [t, t2] v) : ∃ x y, v = [x, y] ∧ Arg L W t x ∧ Arg L W t2 y := by
  match v, h with
  | [x, y], h => exact ⟨x, y, rfl, h.1, h.2.1⟩
end
end Go.SE
namespace Go.Proofs.YtpbnjifefoniiaaGreat
open Go Go.SE
theorem own : ownKnob Tryz.prog.godebug = none := by kernel_rfl
theorem laidOut : laidOutB Tryz.prog = true := by kernel_rfl
theorem ubool : Tryz.prog.underlying 4 = some .bool := by kernel_rfl
theorem flat_u64s (xs : List Nat) : (xs.map fun m => [u64 m]).flatten = u64s xs := by
  induction xs with
  | nil => rfl
  | cons m xs ih => simp [u64s] at ih ⊢; exact ih
theorem read_u64 {W : World} (t : Nat) {ti : TI} (ht : lay.ti t = some ti) (hk : ti.kind = .int .u64) {f : Nat} (cs : List Value) (h : rd lay W (f + 1) t cs) : ∃ m : Nat, cs = [u64 m] ∧ m < 18446744073709551616 := by
  obtain ⟨n, rfl, h1, h2⟩ := rd_int ht hk h
  simp only [IntKind.min, IntKind.max] at h1 h2
  have h1 : 0 ≤ n := h1
  have h2 : n ≤ 18446744073709551615 := h2
  exact ⟨n.toNat, by simp [u64, Int.toNat_of_nonneg h1], by omega⟩
theorem open_conf {W : World} {v : Value} (h : Arg lay W T_ref14_C v) : ∃ (q th gr : Int) (a : Option Addr) (xs : List Nat) (c : Nat), v = .agg [int q, int th, int gr, .slice a xs.length c].toArray ∧ (∀ m ∈ xs, m < 18446744073709551616) ∧ View W [old W] 1 a (u64s xs) xs.length c := by
  obtain ⟨x, h1, h2⟩ := arg_agg (fun x : (Int × Int × Int) × (Option Addr × List Nat × Nat) => [int x.1.1, int x.1.2.1, int x.1.2.2, .slice x.2.1 x.2.2.1.length x.2.2.2]) (fun x => (∀ m ∈ x.2.2.1, m < 18446744073709551616) ∧ View W [old W] 1 x.2.1 (u64s x.2.2.1) x.2.2.1.length x.2.2.2) rfl rfl (fun cs h => by
    obtain ⟨h1, h2⟩ := rd_struct (L := lay) (f := 19) (ti := _) rfl rfl h
    have a1 := h2 (3, 0) (by simp) _ rfl
    have a2 := h2 (3, 1) (by simp) _ rfl
    have a3 := h2 (3, 2) (by simp) _ rfl
    have a4 := h2 (22, 3) (by simp) _ rfl
    obtain ⟨n1, e1, _⟩ := rd_int (L := lay) rfl rfl a1
    obtain ⟨n2, e2, _⟩ := rd_int (L := lay) rfl rfl a2
    obtain ⟨n3, e3, _⟩ := rd_int (L := lay) rfl rfl a3
    obtain ⟨a, xs, c, e4, g1, g2, g3⟩ := rd_list (L := lay) (fun m : Nat => [u64 m]) (· < 18446744073709551616) rfl rfl rfl (fun cs h => read_u64 _ rfl rfl cs h) a4
    rw [flat_u64s] at g2
    match cs, h1 with
    | [x, y, z, u], _ =>
      have e1 : [x] = [int n1] := e1
      have e2 : [y] = [int n2] := e2
      have e3 : [z] = [int n3] := e3
      have e4 : [u] = [.slice a xs.length c] := e4
      simp only [List.cons.injEq, and_true] at e1 e2 e3 e4
      exact ⟨((n1, n2, n3), (a, xs, c)), by rw [e1, e2, e3, e4], g1, View.of_old (i := 0) g2 g3 rfl⟩) h
  exact ⟨x.1.1, x.1.2.1, x.1.2.2, x.2.1, x.2.2.1, x.2.2.2, h1, h2⟩
theorem StateNones_lawful : Lawful Rows.stateNonesSpec 2 := ⟨rfl, fun H ds h => by
  match ds, h with
  | [d, d2], _ => rfl⟩
set_option maxRecDepth 100000 in
set_option maxHeartbeats 8000000 in
theorem StateNones_lifted (os : Os) (started : os.Started) (H : Type) (enc : TypeId × Value → H) :
    ReturnsInHanded {} Tryz.checked os F_law14_StateNones .any (Rows.stateNonesSpec.pre6 enc Tryz.prog B_law14_StateNones Rows.stateNonesRow.domain false) (Rows.stateNonesSpec.post enc Tryz.prog B_law14_StateNones false true false false) :=
  law_lifted cx (K := Tryz.checked) rfl StateNones_lawful own started (by kernel_rfl) fn_law14_StateNones
    (ChangeSpec.witness6 (enc := enc) (C := Tryz.checked) false ⟨#[], #[.agg #[int 0, int 0, int 0, .slice none 0 0], int 0], []⟩ 8 (by kernel_rfl) (by kernel_rfl) (by kernel_rfl) (by kernel_rfl))
    laidOut (by kernel_rfl) rfl rfl ubool fun W args hA => by
      obtain ⟨v, v2, rfl, h, h2⟩ := args2 (t := T_ref14_C) (t2 := T_int) hA
      obtain ⟨q, th, gr, a, xs, c, rfl, hm, hV⟩ := open_conf h
      obtain ⟨id, rfl, _⟩ := arg_int (L := lay) rfl rfl h2
      exact Nones_any (i := 0) q th gr id xs hm hV rfl
theorem and_t {a b : Bool} (h1 : a = true) (h2 : b = true) : (a && b) = true := by rw [h1, h2]; rfl
set_option maxHeartbeats 8000000 in
theorem StateNones_joined : joinedFacts Tryz.pinned.checked.prog F_law14_StateNones B_law14_StateNones Rows.stateNonesSpec Rows.stateNonesRow = true := by
  unfold joinedFacts
  refine and_t (and_t (and_t (and_t (and_t (and_t (and_t (and_t (and_t (and_t (and_t (and_t (and_t (and_t (and_t (and_t (and_t (and_t (and_t (and_t (and_t (and_t (and_t (and_t (and_t (and_t (and_t (and_t (and_t (and_t (and_t ?_ ?_) ?_) ?_) ?_) ?_) ?_) ?_) ?_) ?_) ?_) ?_) ?_) ?_) ?_) ?_) ?_) ?_) ?_) ?_) ?_) ?_) ?_) ?_) ?_) ?_) ?_) ?_) ?_) ?_) ?_) ?_
  all_goals as_aux_lemma => kernel_rfl
set_option maxHeartbeats 8000000 in
theorem StateNones_named : Tryz.pinned.checked.prog.funcNamed Rows.stateNonesRow.func = some F_law14_StateNones := by kernel_rfl
set_option maxHeartbeats 8000000 in
theorem StateNones_holds : Rows.StateNonesSaid :=
  OpenClaim.holds_of_wide F_law14_StateNones B_law14_StateNones rfl rfl rfl rfl rfl rfl rfl ⟨rfl, rfl, rfl, rfl, rfl⟩ rfl rfl rfl rfl rfl StateNones_named fn_law14_StateNones StateNones_joined
    (of_decide_eq_true (by kernel_rfl)) (by unfold Func.isWrapper; rw [if_neg (by decide +kernel)]; exact ⟨rfl, rfl⟩)
    (fun os started H enc _ => StateNones_lifted os started H enc)
#print axioms StateNones_holds
end Go.Proofs.YtpbnjifefoniiaaGreat
