/- A thread, looked at. -/
import Derived.Test.YtkpbpjnabbfdiaaAg
namespace Go.Proofs.Ytkpbpjnabbfdiaa
open Go Go.SE

variable {w0 w : World} {l : List HP} {i : Nat} {r : Option (Nat × Nat)} {p : HP}

theorem rot_stars (p : HP) : ∀ (ps l : List HP) (h : Hp), stars (p :: (ps ++ l)) h → stars (ps ++ p :: l) h
  | [], l, h, hs => hs
  | q :: ps, l, h, hs => by
    obtain ⟨a, b, hab, rfl, hp, hr⟩ := hs
    obtain ⟨c, d, hcd, rfl, hq, hrest⟩ : star q (stars (ps ++ l)) b := hr
    have h1 : stars (p :: (ps ++ l)) (uni a d) := ⟨a, d, disj_right hab, rfl, hp, hrest⟩
    have h2 := rot_stars p ps l _ h1
    refine ⟨c, uni a d, disj_uni (disj_comm (disj_left hab)) hcd, ?_, hq, h2⟩
    rw [← uni_assoc, uni_comm (disj_left hab), uni_assoc]
theorem S.rot {p : HP} (ps : List HP) (h : S w0 (p :: (ps ++ l)) w) : S w0 (ps ++ p :: l) w := ⟨h.os, h.tape, h.output, h.drawn, h.size, rot_stars p ps l _ h.sat⟩

def spotOf (sp : List (Int × List Spot)) (id : Int) : List Spot := ((sp.find? fun g => decide (g.1 = id)).map (·.2)).getD []
def domOf (ds : List Dm) (k : Int) : Option Dm := if 0 ≤ k ∧ k < ds.length then ds[k.toNat]? else none
def badSpot (d : Dm) (s : List Spot) (t : Th) : Bool := match s with
  | [x] => !decide (x = ⟨t.core, t.running⟩) || !has d.cores t.core
  | _ => false
abbrev one1 (b : Bool) (k id : Int) : List Fnd := if b = true then [⟨k, id⟩] else []
def badSlice (q : Int) (t : Th) : Bool := decide (t.slice < 1) || decide (q < t.slice)
def thF (ds : List Dm) (sp : List (Int × List Spot)) (q : Int) (t : Th) : List Fnd :=
  one1 (decide (spotOf sp t.id = [])) 3 t.id ++ (one1 (badSlice q t) 9 t.id ++ (match domOf ds t.dom with
    | none => [⟨6, t.id⟩]
    | some d => one1 (badSpot d (spotOf sp t.id) t) 6 t.id ++ (one1 (!has (effM d t.mask) t.core) 7 t.id ++ one1 (!decide (roundOk d t)) 8 t.id)))

theorem grp_find (gs : List Grp) (id : Int) : ∃ (r0 : Option (Nat × Nat)) (s0 : List Spot), spotOf (gs.map fun g => (g.id, g.sp)) id = s0 ∧ lookV (gs.map Grp.kv) id (.slice none 0 0) false = sv r0 s0.length ∧
    ∀ w0, View w0 [grpsO gs] 2 (r0.map fun p => ⟨p.1, 0, none⟩) (rows Spot.cells s0) s0.length ((r0.map (·.2)).getD 0) := by
  cases hf : gs.find? (fun g => decide (g.id = id)) with
  | none =>
    have h1 : ∀ g ∈ gs, ¬ g.id = id := by simpa using List.find?_eq_none.1 hf
    refine ⟨none, [], ?_, ?_, fun w0 => ⟨rfl, fun w hw => ⟨⟨Nat.le_refl _, Nat.zero_le _⟩, fun j u hu => by simp at hu⟩⟩⟩
    · rw [spotOf, List.find?_eq_none.2 (by simpa using h1)]; rfl
    · have : kget (gs.map Grp.kv) id = none := by rw [kget, List.find?_eq_none.2 (by simpa using h1)]; rfl
      simp only [lookV, this]; rfl
  | some g =>
    have hmem := List.mem_of_find?_eq_some hf
    refine ⟨g.r, g.sp, ?_, ?_, fun w0 => ?_⟩
    · have : (gs.map fun g => (g.id, g.sp)).find? (fun x => decide (x.1 = id)) = some (g.id, g.sp) := by
        rw [List.find?_map]
        have e : ((fun x : Int × List Spot => decide (x.1 = id)) ∘ fun g : Grp => (g.id, g.sp)) = fun g : Grp => decide (g.id = id) := rfl
        rw [e, hf]; rfl
      rw [spotOf, this]; rfl
    · have : kget (gs.map Grp.kv) id = some (sv g.r g.sp.length) := by
        rw [kget, List.find?_map]
        have e : ((fun x : Int × Value => decide (x.1 = id)) ∘ Grp.kv) = fun g : Grp => decide (g.id = id) := rfl
        rw [e, hf]; rfl
      simp only [lookV, this]; rfl
    · obtain ⟨j, hj⟩ := List.getElem?_of_mem hmem
      have hV : View w0 (gs.map Grp.row ++ []) 2 (g.r.map fun p => ⟨p.1, 0, none⟩) (rows Spot.cells g.sp) g.sp.length ((g.r.map (·.2)).getD 0) :=
        View.of_row (i := j) (T := T_audit_spot) (by rw [List.append_nil, List.getElem?_map, hj]; rfl) (rows_length _ 2 sp2 _)
      exact ⟨hV.len, fun w hw => hV.ok w (S.spread hw)⟩

theorem guard_S : cx.P.eqGuardType cx.P.depth T_audit_spot = false := by kernel_rfl
theorem plain_S : plainStruct cx.P T_audit_spot = true := by kernel_rfl
theorem same_S (x y : Spot) : Same cx 10000 T_audit_spot (.agg x.cells.toArray) (.agg y.cells.toArray) (decide (x = y)) := by
  have e : decide (x = y) = (decide (x.core = y.core) && (decide (x.running = y.running) && true)) := by
    cases x; cases y
    simp [Bool.decide_and]
  rw [e]
  exact same_struct (C := cx) (d := 9999) (fs := [(3, 0), (4, 1)]) rfl rfl plain_S (.cons rfl rfl (same_int rfl rfl) (.cons rfl rfl (same_bool rfl rfl) .nil))
theorem er_ldvA {C : Cx} {n : Nat} {o : Oper} {e : Env} {hs : List HP} (j : Nat) {q : Nat} {p : HP} {t sz m c : Nat} {a : Option Addr} {x : Operand} {ti : TI} {cs xs : List Value} (ho : o.op = .load t x)
    (ha : ev e x = some (.pointer (some ⟨ob a, oo a + q, none⟩))) (ht : C.L.ti t = some ti) (hk : ti.kind.agg = true) (hj : hs[j]? = some p) (hS : View w0 [p] sz a xs m c) (hs' : cs.length = ti.size) (hv : ∀ k, k < ti.size → xs[q + k]? = cs[k]?) :
    ER C n o e (Held w0 hs) (.agg cs.toArray) :=
  er_loadA ho ha ht hk hs' fun w hw k hk' => by
    have hlt : k < cs.length := by omega
    have := hv k hk'
    rw [List.getElem?_eq_getElem hlt] at this
    rw [List.getElem?_eq_getElem hlt, Nat.add_assoc]
    exact ((hS.ok w (hw.one hj)).2 _ _ this).2

theorem hd6 {b T : Nat} {c0 c1 c2 c3 c4 c5 c6 : Value} (h : Hp) (hp : cells b T [c0, c1, c2, c3, c4, c5, c6] h) : hdO b T [c0, c1, c2, c3, c4, c5] h := ⟨[c6], hp⟩
theorem if_one (b : Bool) (xs : List Fnd) (k id : Int) : (if b = true then xs ++ [⟨k, id⟩] else xs) = xs ++ one1 b k id := by cases b <;> simp
theorem one_le (b : Bool) (k id : Int) : (one1 b k id).length ≤ 1 := by cases b <;> simp [one1]
abbrev thL (b : Nat) (v : Hd) (x : Inn) (b3 : Nat) (t : Th) (r : Option (Nat × Nat)) (out : List Fnd) : List HP :=
  [cells b T_audit_auditor [int v.q, .slice v.ad v.nd v.cd, .slice v.ac v.nc v.cc, .slice v.at' v.nt v.ct, .map (some x.bs), .map (some x.bw), sv r out.length], rowC r T_audit_Finding 2 (rows Fnd.cells out) out.length,
   cells b3 T_state_Thread t.prog, mapO x.bs .i64 (x.gs.map Grp.kv), grpsO x.gs]
abbrev thM (b : Nat) (v : Hd) (x : Inn) (r : Option (Nat × Nat)) (out : List Fnd) : List HP :=
  [cells b T_audit_auditor [int v.q, .slice v.ad v.nd v.cd, .slice v.ac v.nc v.cc, .slice v.at' v.nt v.ct, .map (some x.bs), .map (some x.bw), sv r out.length], rowC r T_audit_Finding 2 (rows Fnd.cells out) out.length,
   mapO x.bs .i64 (x.gs.map Grp.kv), grpsO x.gs]

set_option maxHeartbeats 6400000 in
theorem thread_any {b : Nat} {v : Hd} {sp : List (Int × List Spot)} {x : Inn} (hx : (x.gs.map fun g => (g.id, g.sp)) = sp) {out : List Fnd} {ds : List Dm} {cs : List Cr} {ts : List Th} (t : Th) (hm : t.mask < 18446744073709551616) (htag : 0 ≤ t.tag ∧ t.tag ≤ 9223372036854775807) (hl : out.length ≤ 50000000) (hi : l[i]? = some p) (hv : AuV w0 p v ds cs ts) :
    Does cx F_audit_auditor_thread [ptr b, .agg t.prog.toArray] (S w0 (thM b v x r out ++ l)) fun u w => ∃ r2, u = .tuple #[] ∧ True ∧ S w0 (thM b v x r2 (out ++ thF ds sp v.q t) ++ l) w := by
  refine fn_enter (n := N_audit_auditor_thread) fn_audit_auditor_thread rfl rfl rfl ?_
  refine ej_seq (ej_region (el_cons rfl (eo_box rfl rfl rfl rfl fun b3 => ?_)))
  (repeat (first | refine el_pure rfl rfl rfl rfl ?_ | refine ej_seq ?_ | refine ej_region ?_ | refine el_nil ?_ | refine eq_seq ?_ | refine eq_calm ?_ | refine ej_true rfl ?_ | refine ej_false rfl ?_ | refine el_skip rfl rfl rfl ?_ | refine ej_ret ?_ | refine ej_skip ?_ | refine ej_exit ?_ | refine ej_block ?_ | refine eq_seq_ret ?_ | refine eq_seq_exit ?_ | refine eq_block ?_ | refine eq_block_exit ?_ | refine eq_block_ret ?_ | refine eq_block_exit_ne rfl ?_ | refine eq_back_ret ?_ | refine eq_back_exit ?_))
  refine ej_imp' (H' := S w0 (thL b v x b3 t r out ++ l)) (fun w hw => ((hw.front (i := 1) rfl).front (i := 2) rfl).front (i := 1) rfl) ?_
  obtain ⟨r0, s0, hs0, hlook, hVs⟩ := grp_find x.gs t.id
  rw [hx] at hs0
  have hVs := hVs w0
  have hdOk := hv.lies.dOk
  have hV := hv.lies.d
  have hnd := hv.nd
  have hfew := hv.few.1
  unfold thF
  rw [hs0]
  obtain ⟨id, dom, mask, awake, running, core, tag, left, slice⟩ := t
  have hm : mask < 18446744073709551616 := hm
  have hlook : lookV (x.gs.map Grp.kv) id (.slice none 0 0) false = sv r0 s0.length := hlook
  refine ej_held [cells b3 T_state_Thread (Th.prog ⟨id, dom, mask, awake, running, core, tag, left, slice⟩), hdO b T_audit_auditor [int v.q, .slice v.ad v.nd v.cd, .slice v.ac v.nc v.cc, .slice v.at' v.nt v.ct, .map (some x.bs), .map (some x.bw)], mapO x.bs .i64 (x.gs.map Grp.kv)] ?_
  refine eh_take 0 (held (.cons 2 rfl (.weak 0 rfl hd6 (.cons 3 rfl .nil)))) rfl (by kernel_rfl) (by kernel_rfl) (by kernel_rfl) rfl rfl rfl rfl ?_
  refine eh_take 1 (held (.cons 2 rfl (.weak 0 rfl hd6 (.cons 3 rfl .nil)))) rfl (by kernel_rfl) (by kernel_rfl) (by kernel_rfl) rfl rfl rfl rfl ?_
  refine eh_take 2 (held (.cons 2 rfl (.weak 0 rfl hd6 (.cons 3 rfl .nil)))) rfl (by kernel_rfl) (by kernel_rfl) (by kernel_rfl) rfl rfl rfl rfl ?_
  refine eh_load 3 (held (.cons 2 rfl (.weak 0 rfl hd6 (.cons 3 rfl .nil)))) rfl (by kernel_rfl) (by kernel_rfl) (by kernel_rfl) rfl rfl rfl (er_ldh 1 rfl rfl rfl rfl rfl rfl) ?_
  refine eh_take 4 (held (.cons 2 rfl (.weak 0 rfl hd6 (.cons 3 rfl .nil)))) rfl (by kernel_rfl) (by kernel_rfl) (by kernel_rfl) rfl rfl rfl rfl ?_
  refine eh_load 5 (held (.cons 2 rfl (.weak 0 rfl hd6 (.cons 3 rfl .nil)))) rfl (by kernel_rfl) (by kernel_rfl) (by kernel_rfl) rfl rfl rfl (er_ld 0 rfl rfl rfl rfl rfl rfl) ?_
  refine eh_load 6 (held (.cons 2 rfl (.weak 0 rfl hd6 (.cons 3 rfl .nil)))) rfl (by kernel_rfl) (by kernel_rfl) (by kernel_rfl) rfl rfl rfl (er_lookup 2 rfl rfl rfl rfl rfl rfl rfl rfl rfl) ?_
  refine eh_val 12 rfl hlook ?_
  refine eh_take 7 (held (.cons 2 rfl (.weak 0 rfl hd6 (.cons 3 rfl .nil)))) rfl (by kernel_rfl) (by kernel_rfl) (by kernel_rfl) rfl rfl rfl rfl ?_
  refine eh_done (by kernel_rfl) ?_
  (repeat (first | refine el_pure rfl rfl rfl rfl ?_ | refine ej_seq ?_ | refine ej_region ?_ | refine el_nil ?_ | refine eq_seq ?_ | refine eq_calm ?_ | refine ej_true rfl ?_ | refine ej_false rfl ?_ | refine el_skip rfl rfl rfl ?_ | refine ej_ret ?_ | refine ej_skip ?_ | refine ej_exit ?_ | refine ej_block ?_ | refine eq_seq_ret ?_ | refine eq_seq_exit ?_ | refine eq_block ?_ | refine eq_block_exit ?_ | refine eq_block_ret ?_ | refine eq_block_exit_ne rfl ?_ | refine eq_back_ret ?_ | refine eq_back_exit ?_ | refine el_cons rfl (eo_lenv rfl rfl rfl rfl rfl rfl ?_) | refine el_cons rfl (eo_arith rfl rfl rfl rfl rfl rfl ⟨by omega, by omega⟩ ?_)))
  refine el_val 16 (u := .bool (decide (s0 = []))) rfl (by congr 1; exact decide_eq_decide.2 (by rw [← List.length_eq_zero_iff]; omega)) ?_
  (repeat (first | refine el_pure rfl rfl rfl rfl ?_ | refine ej_seq ?_ | refine ej_region ?_ | refine el_nil ?_ | refine eq_seq ?_ | refine eq_calm ?_ | refine ej_true rfl ?_ | refine ej_false rfl ?_ | refine el_skip rfl rfl rfl ?_ | refine ej_ret ?_ | refine ej_skip ?_ | refine ej_exit ?_ | refine ej_block ?_ | refine eq_seq_ret ?_ | refine eq_seq_exit ?_ | refine eq_block ?_ | refine eq_block_exit ?_ | refine eq_block_ret ?_ | refine eq_block_exit_ne rfl ?_ | refine eq_back_ret ?_ | refine eq_back_exit ?_))
  refine el_cons rfl (eo_ld 2 rfl rfl rfl rfl rfl rfl rfl rfl ?_)
  refine el_cons rfl (eo_callx rfl rfl rfl rfl rfl real_audit_auditor_tell (tell_raw (decide (s0 = [])) 3 id (by omega)) fun r1 _ => ?_)
  rw [if_one]
  have hO1l : (out ++ one1 (decide (s0 = [])) 3 id).length ≤ out.length + 1 := by have := one_le (decide (s0 = [])) 3 id; rw [List.length_append]; omega
  generalize hO1 : out ++ one1 (decide (s0 = [])) 3 id = O1 at *
  (repeat (first | refine el_pure rfl rfl rfl rfl ?_ | refine ej_seq ?_ | refine ej_region ?_ | refine el_nil ?_ | refine eq_seq ?_ | refine eq_calm ?_ | refine ej_true rfl ?_ | refine ej_false rfl ?_ | refine el_skip rfl rfl rfl ?_ | refine ej_ret ?_ | refine ej_skip ?_ | refine ej_exit ?_ | refine ej_block ?_ | refine eq_seq_ret ?_ | refine eq_seq_exit ?_ | refine eq_block ?_ | refine eq_block_exit ?_ | refine eq_block_ret ?_ | refine eq_block_exit_ne rfl ?_ | refine eq_back_ret ?_ | refine eq_back_exit ?_))
  refine ej_held [cells b3 T_state_Thread (Th.prog ⟨id, dom, mask, awake, running, core, tag, left, slice⟩), hdO b T_audit_auditor [int v.q, .slice v.ad v.nd v.cd, .slice v.ac v.nc v.cc, .slice v.at' v.nt v.ct, .map (some x.bs), .map (some x.bw)]] ?_
  refine eh_cont (fun _ : Option (Nat × Nat) => [(0, ptr b), (3, ptr b3), (4, sv r0 s0.length)]) (fun r9 => S w0 (thL b v x b3 ⟨id, dom, mask, awake, running, core, tag, left, slice⟩ r9 (O1 ++ one1 (badSlice v.q ⟨id, dom, mask, awake, running, core, tag, left, slice⟩) 9 id) ++ l)) (fun cont => ?_) (fun r2 => ?_)
  · have fin : ∀ (u : Bool) (r9 : Option (Nat × Nat)), u = badSlice v.q ⟨id, dom, mask, awake, running, core, tag, left, slice⟩ → ∀ w, S w0 (thL b v x b3 ⟨id, dom, mask, awake, running, core, tag, left, slice⟩ r9 (if u = true then O1 ++ [⟨9, id⟩] else O1) ++ l) w → S w0 (thL b v x b3 ⟨id, dom, mask, awake, running, core, tag, left, slice⟩ r9 (O1 ++ one1 (badSlice v.q ⟨id, dom, mask, awake, running, core, tag, left, slice⟩) 9 id) ++ l) w := fun u r9 hu w hw => by
      rw [if_one, hu] at hw; exact hw
    have hbs : badSlice v.q ⟨id, dom, mask, awake, running, core, tag, left, slice⟩ = (decide (slice < 1) || decide (v.q < slice)) := rfl
    refine eh_take 0 (held (.cons 2 rfl (.weak 0 rfl hd6 .nil))) rfl (by kernel_rfl) (by kernel_rfl) (by kernel_rfl) rfl rfl rfl rfl ?_
    refine eh_take 1 (held (.cons 2 rfl (.weak 0 rfl hd6 .nil))) rfl (by kernel_rfl) (by kernel_rfl) (by kernel_rfl) rfl rfl rfl rfl ?_
    refine eh_load 2 (held (.cons 2 rfl (.weak 0 rfl hd6 .nil))) rfl (by kernel_rfl) (by kernel_rfl) (by kernel_rfl) rfl rfl rfl (er_ld 0 rfl rfl rfl rfl rfl rfl) ?_
    refine eh_take 3 (held (.cons 2 rfl (.weak 0 rfl hd6 .nil))) rfl (by kernel_rfl) (by kernel_rfl) (by kernel_rfl) rfl rfl rfl rfl ?_
    refine eh_take 4 (held (.cons 2 rfl (.weak 0 rfl hd6 .nil))) rfl (by kernel_rfl) (by kernel_rfl) (by kernel_rfl) rfl rfl rfl rfl ?_
    refine eh_take 14 (held (.cons 2 rfl (.weak 0 rfl hd6 .nil))) rfl (by kernel_rfl) (by kernel_rfl) (by kernel_rfl) rfl rfl rfl rfl ?_
    refine eh_load 15 (held (.cons 2 rfl (.weak 0 rfl hd6 .nil))) rfl (by kernel_rfl) (by kernel_rfl) (by kernel_rfl) rfl rfl rfl (er_ld 0 rfl rfl rfl rfl rfl rfl) ?_
    by_cases h1 : slice < 1
    · refine eh_val 24 (u := .bool true) rfl (by simp [h1]) ?_
      refine eh_skip 5 (held (.cons 2 rfl (.weak 0 rfl hd6 .nil))) rfl (by kernel_rfl) (by kernel_rfl) (by kernel_rfl) rfl rfl rfl ?_
      refine eh_skip 6 (held (.cons 2 rfl (.weak 0 rfl hd6 .nil))) rfl (by kernel_rfl) (by kernel_rfl) (by kernel_rfl) rfl rfl rfl ?_
      refine eh_skip 7 (held (.cons 2 rfl (.weak 0 rfl hd6 .nil))) rfl (by kernel_rfl) (by kernel_rfl) (by kernel_rfl) rfl rfl rfl ?_
      refine eh_skip 8 (held (.cons 2 rfl (.weak 0 rfl hd6 .nil))) rfl (by kernel_rfl) (by kernel_rfl) (by kernel_rfl) rfl rfl rfl ?_
      refine eh_skip 9 (held (.cons 2 rfl (.weak 0 rfl hd6 .nil))) rfl (by kernel_rfl) (by kernel_rfl) (by kernel_rfl) rfl rfl rfl ?_
      refine eh_skip 10 (held (.cons 2 rfl (.weak 0 rfl hd6 .nil))) rfl (by kernel_rfl) (by kernel_rfl) (by kernel_rfl) rfl rfl rfl ?_
      refine eh_skip 11 (held (.cons 2 rfl (.weak 0 rfl hd6 .nil))) rfl (by kernel_rfl) (by kernel_rfl) (by kernel_rfl) rfl rfl rfl ?_
      refine eh_skip 12 (held (.cons 2 rfl (.weak 0 rfl hd6 .nil))) rfl (by kernel_rfl) (by kernel_rfl) (by kernel_rfl) rfl rfl rfl ?_
      refine eh_take 13 (held (.cons 2 rfl (.weak 0 rfl hd6 .nil))) rfl (by kernel_rfl) (by kernel_rfl) (by kernel_rfl) rfl rfl rfl rfl ?_
      refine eh_way 16 (by kernel_rfl) (hway rfl rfl (eo_callx rfl rfl rfl rfl rfl real_audit_auditor_tell (tell_raw _ 9 id (by omega)) fun r9 _ => ⟨held (.cons 2 rfl (.weak 0 rfl hd6 .nil)), ?_⟩))
      refine eh_done (by kernel_rfl) (eq_le (cont r9) (le_of _ _ rfl) fun w hw => ?_)
      exact fin true r9 (by rw [hbs]; simp [h1]) w hw
    · refine eh_val 24 (u := .bool false) rfl (by simp [h1]) ?_
      refine eh_take 5 (held (.cons 2 rfl (.weak 0 rfl hd6 .nil))) rfl (by kernel_rfl) (by kernel_rfl) (by kernel_rfl) rfl rfl rfl rfl ?_
      refine eh_load 6 (held (.cons 2 rfl (.weak 0 rfl hd6 .nil))) rfl (by kernel_rfl) (by kernel_rfl) (by kernel_rfl) rfl rfl rfl (er_ld 0 rfl rfl rfl rfl rfl rfl) ?_
      refine eh_take 7 (held (.cons 2 rfl (.weak 0 rfl hd6 .nil))) rfl (by kernel_rfl) (by kernel_rfl) (by kernel_rfl) rfl rfl rfl rfl ?_
      refine eh_take 8 (held (.cons 2 rfl (.weak 0 rfl hd6 .nil))) rfl (by kernel_rfl) (by kernel_rfl) (by kernel_rfl) rfl rfl rfl rfl ?_
      refine eh_take 9 (held (.cons 2 rfl (.weak 0 rfl hd6 .nil))) rfl (by kernel_rfl) (by kernel_rfl) (by kernel_rfl) rfl rfl rfl rfl ?_
      refine eh_take 10 (held (.cons 2 rfl (.weak 0 rfl hd6 .nil))) rfl (by kernel_rfl) (by kernel_rfl) (by kernel_rfl) rfl rfl rfl rfl ?_
      refine eh_load 11 (held (.cons 2 rfl (.weak 0 rfl hd6 .nil))) rfl (by kernel_rfl) (by kernel_rfl) (by kernel_rfl) rfl rfl rfl (er_ldh 1 rfl rfl rfl rfl rfl rfl) ?_
      refine eh_take 12 (held (.cons 2 rfl (.weak 0 rfl hd6 .nil))) rfl (by kernel_rfl) (by kernel_rfl) (by kernel_rfl) rfl rfl rfl rfl ?_
      refine eh_take 13 (held (.cons 2 rfl (.weak 0 rfl hd6 .nil))) rfl (by kernel_rfl) (by kernel_rfl) (by kernel_rfl) rfl rfl rfl rfl ?_
      refine eh_way 16 (by kernel_rfl) (hway rfl rfl (eo_callx rfl rfl rfl rfl rfl real_audit_auditor_tell (tell_raw _ 9 id (by omega)) fun r9 _ => ⟨held (.cons 2 rfl (.weak 0 rfl hd6 .nil)), ?_⟩))
      refine eh_done (by kernel_rfl) (eq_le (cont r9) (le_of _ _ rfl) fun w hw => ?_)
      exact fin _ r9 (by rw [hbs]; simp [h1]) w hw
  have hO2l : (O1 ++ one1 (badSlice v.q ⟨id, dom, mask, awake, running, core, tag, left, slice⟩) 9 id).length ≤ out.length + 2 := by have := one_le (badSlice v.q ⟨id, dom, mask, awake, running, core, tag, left, slice⟩) 9 id; rw [List.length_append]; omega
  generalize hO2 : O1 ++ one1 (badSlice v.q ⟨id, dom, mask, awake, running, core, tag, left, slice⟩) 9 id = O2 at *
  (repeat (first | refine el_pure rfl rfl rfl rfl ?_ | refine ej_seq ?_ | refine ej_region ?_ | refine el_nil ?_ | refine eq_seq ?_ | refine eq_calm ?_ | refine ej_true rfl ?_ | refine ej_false rfl ?_ | refine el_skip rfl rfl rfl ?_ | refine ej_ret ?_ | refine ej_skip ?_ | refine ej_exit ?_ | refine ej_block ?_ | refine eq_seq_ret ?_ | refine eq_seq_exit ?_ | refine eq_block ?_ | refine eq_block_exit ?_ | refine eq_block_ret ?_ | refine eq_block_exit_ne rfl ?_ | refine eq_back_ret ?_ | refine eq_back_exit ?_))
  refine ej_held [cells b3 T_state_Thread (Th.prog ⟨id, dom, mask, awake, running, core, tag, left, slice⟩), hdO b T_audit_auditor [int v.q, .slice v.ad v.nd v.cd, .slice v.ac v.nc v.cc, .slice v.at' v.nt v.ct, .map (some x.bs), .map (some x.bw)]] ?_
  refine eh_cont (fun _ : Unit => [(0, ptr b), (3, ptr b3), (4, sv r0 s0.length), (50, .bool (!decide (0 ≤ dom ∧ dom < ds.length)))]) (fun _ => S w0 (thL b v x b3 ⟨id, dom, mask, awake, running, core, tag, left, slice⟩ r2 O2 ++ l)) (fun cont => ?_) (fun _ => ?_)
  · refine eh_take 0 (held (.cons 2 rfl (.weak 0 rfl hd6 .nil))) rfl (by kernel_rfl) (by kernel_rfl) (by kernel_rfl) rfl rfl rfl rfl ?_
    refine eh_load 1 (held (.cons 2 rfl (.weak 0 rfl hd6 .nil))) rfl (by kernel_rfl) (by kernel_rfl) (by kernel_rfl) rfl rfl rfl (er_ld 0 rfl rfl rfl rfl rfl rfl) ?_
    refine eh_take 2 (held (.cons 2 rfl (.weak 0 rfl hd6 .nil))) rfl (by kernel_rfl) (by kernel_rfl) (by kernel_rfl) rfl rfl rfl rfl ?_
    refine eh_take 3 (held (.cons 2 rfl (.weak 0 rfl hd6 .nil))) rfl (by kernel_rfl) (by kernel_rfl) (by kernel_rfl) rfl rfl rfl rfl ?_
    by_cases h1 : dom < 0
    · refine eh_val 40 (u := .bool true) rfl (by simp [h1]) ?_
      refine eh_skip 4 (held (.cons 2 rfl (.weak 0 rfl hd6 .nil))) rfl (by kernel_rfl) (by kernel_rfl) (by kernel_rfl) rfl rfl rfl ?_
      refine eh_skip 5 (held (.cons 2 rfl (.weak 0 rfl hd6 .nil))) rfl (by kernel_rfl) (by kernel_rfl) (by kernel_rfl) rfl rfl rfl ?_
      refine eh_skip 6 (held (.cons 2 rfl (.weak 0 rfl hd6 .nil))) rfl (by kernel_rfl) (by kernel_rfl) (by kernel_rfl) rfl rfl rfl ?_
      refine eh_skip 7 (held (.cons 2 rfl (.weak 0 rfl hd6 .nil))) rfl (by kernel_rfl) (by kernel_rfl) (by kernel_rfl) rfl rfl rfl ?_
      refine eh_skip 8 (held (.cons 2 rfl (.weak 0 rfl hd6 .nil))) rfl (by kernel_rfl) (by kernel_rfl) (by kernel_rfl) rfl rfl rfl ?_
      refine eh_skip 9 (held (.cons 2 rfl (.weak 0 rfl hd6 .nil))) rfl (by kernel_rfl) (by kernel_rfl) (by kernel_rfl) rfl rfl rfl ?_
      refine eh_skip 10 (held (.cons 2 rfl (.weak 0 rfl hd6 .nil))) rfl (by kernel_rfl) (by kernel_rfl) (by kernel_rfl) rfl rfl rfl ?_
      refine eh_skip 11 (held (.cons 2 rfl (.weak 0 rfl hd6 .nil))) rfl (by kernel_rfl) (by kernel_rfl) (by kernel_rfl) rfl rfl rfl ?_
      refine eh_skip 12 (held (.cons 2 rfl (.weak 0 rfl hd6 .nil))) rfl (by kernel_rfl) (by kernel_rfl) (by kernel_rfl) rfl rfl rfl ?_
      refine eh_take 13 (held (.cons 2 rfl (.weak 0 rfl hd6 .nil))) rfl (by kernel_rfl) (by kernel_rfl) (by kernel_rfl) rfl rfl rfl rfl ?_
      refine eh_done (by kernel_rfl) (eq_le (cont ()) (le_cons rfl (le_cons rfl (le_cons rfl (le_cons ?_ (le_nil _))))) fun w hw => hw)
      show some _ = some _
      simp; omega
    · refine eh_val 40 (u := .bool false) rfl (by simp [h1]) ?_
      refine eh_take 4 (held (.cons 2 rfl (.weak 0 rfl hd6 .nil))) rfl (by kernel_rfl) (by kernel_rfl) (by kernel_rfl) rfl rfl rfl rfl ?_
      refine eh_load 5 (held (.cons 2 rfl (.weak 0 rfl hd6 .nil))) rfl (by kernel_rfl) (by kernel_rfl) (by kernel_rfl) rfl rfl rfl (er_ld 0 rfl rfl rfl rfl rfl rfl) ?_
      refine eh_take 6 (held (.cons 2 rfl (.weak 0 rfl hd6 .nil))) rfl (by kernel_rfl) (by kernel_rfl) (by kernel_rfl) rfl rfl rfl rfl ?_
      refine eh_take 7 (held (.cons 2 rfl (.weak 0 rfl hd6 .nil))) rfl (by kernel_rfl) (by kernel_rfl) (by kernel_rfl) rfl rfl rfl rfl ?_
      refine eh_take 8 (held (.cons 2 rfl (.weak 0 rfl hd6 .nil))) rfl (by kernel_rfl) (by kernel_rfl) (by kernel_rfl) rfl rfl rfl rfl ?_
      refine eh_take 9 (held (.cons 2 rfl (.weak 0 rfl hd6 .nil))) rfl (by kernel_rfl) (by kernel_rfl) (by kernel_rfl) rfl rfl rfl rfl ?_
      refine eh_load 10 (held (.cons 2 rfl (.weak 0 rfl hd6 .nil))) rfl (by kernel_rfl) (by kernel_rfl) (by kernel_rfl) rfl rfl rfl (er_ldh 1 rfl rfl rfl rfl rfl rfl) ?_
      refine eh_load 11 (held (.cons 2 rfl (.weak 0 rfl hd6 .nil))) rfl (by kernel_rfl) (by kernel_rfl) (by kernel_rfl) rfl rfl rfl (er_lenv rfl rfl rfl rfl) ?_
      refine eh_take 12 (held (.cons 2 rfl (.weak 0 rfl hd6 .nil))) rfl (by kernel_rfl) (by kernel_rfl) (by kernel_rfl) rfl rfl rfl rfl ?_
      refine eh_take 13 (held (.cons 2 rfl (.weak 0 rfl hd6 .nil))) rfl (by kernel_rfl) (by kernel_rfl) (by kernel_rfl) rfl rfl rfl rfl ?_
      refine eh_done (by kernel_rfl) (eq_le (cont ()) (le_cons rfl (le_cons rfl (le_cons rfl (le_cons ?_ (le_nil _))))) fun w hw => hw)
      show some _ = some _
      rw [hnd]
      congr 2
      rw [← decide_not]
      exact decide_eq_decide.2 (by dsimp only; omega)
  by_cases hdom : 0 ≤ dom ∧ dom < ds.length
  · rw [decide_eq_true hdom]
    obtain ⟨d, hd⟩ : ∃ d, ds[dom.toNat]? = some d := ⟨ds[dom.toNat]'(by omega), List.getElem?_eq_getElem _⟩
    have hdm : domOf ds dom = some d := by rw [domOf, if_pos hdom, hd]
    simp only [hdm]
    have hdk := hdOk d (List.mem_of_getElem? hd)
    have hg : ∀ j, j < 3 → (rows Dm.cells ds)[dom.toNat * 3 + j]? = d.cells[j]? := fun j hj => rows_get Dm.cells 3 dm3 ds dom.toNat j d hd hj
    (repeat (first | refine el_pure rfl rfl rfl rfl ?_ | refine ej_seq ?_ | refine ej_region ?_ | refine el_nil ?_ | refine eq_seq ?_ | refine eq_calm ?_ | refine ej_true rfl ?_ | refine ej_false rfl ?_ | refine el_skip rfl rfl rfl ?_ | refine ej_ret ?_ | refine ej_skip ?_ | refine ej_exit ?_ | refine ej_block ?_ | refine eq_seq_ret ?_ | refine eq_seq_exit ?_ | refine eq_block ?_ | refine eq_block_exit ?_ | refine eq_block_ret ?_ | refine eq_block_exit_ne rfl ?_ | refine eq_back_ret ?_ | refine eq_back_exit ?_))
    refine ej_know ((hV.one (i := i + 5) hi).know) fun hkd => ?_
    have haddr := hkd.2 (by rw [rows_length _ 3 dm3]; omega)
    refine ej_know ((hVs.one (i := 4) rfl).know) fun hks => ?_
    refine ej_held [cells b3 T_state_Thread (Th.prog ⟨id, dom, mask, awake, running, core, tag, left, slice⟩), hdO b T_audit_auditor [int v.q, .slice v.ad v.nd v.cd, .slice v.ac v.nc v.cc, .slice v.at' v.nt v.ct, .map (some x.bs), .map (some x.bw)], p] ?_
    refine eh_take 0 (held (.cons 2 rfl (.weak 0 rfl hd6 (.cons (i + 5) hi .nil)))) rfl (by kernel_rfl) (by kernel_rfl) (by kernel_rfl) rfl rfl rfl rfl ?_
    refine eh_take 1 (held (.cons 2 rfl (.weak 0 rfl hd6 (.cons (i + 5) hi .nil)))) rfl (by kernel_rfl) (by kernel_rfl) (by kernel_rfl) rfl rfl rfl rfl ?_
    refine eh_take 2 (held (.cons 2 rfl (.weak 0 rfl hd6 (.cons (i + 5) hi .nil)))) rfl (by kernel_rfl) (by kernel_rfl) (by kernel_rfl) rfl rfl rfl rfl ?_
    refine eh_take 3 (held (.cons 2 rfl (.weak 0 rfl hd6 (.cons (i + 5) hi .nil)))) rfl (by kernel_rfl) (by kernel_rfl) (by kernel_rfl) rfl rfl rfl rfl ?_
    refine eh_load 4 (held (.cons 2 rfl (.weak 0 rfl hd6 (.cons (i + 5) hi .nil)))) rfl (by kernel_rfl) (by kernel_rfl) (by kernel_rfl) rfl rfl rfl (er_ldh 1 rfl rfl rfl rfl rfl rfl) ?_
    refine eh_take 5 (held (.cons 2 rfl (.weak 0 rfl hd6 (.cons (i + 5) hi .nil)))) rfl (by kernel_rfl) (by kernel_rfl) (by kernel_rfl) rfl rfl rfl rfl ?_
    refine eh_load 6 (held (.cons 2 rfl (.weak 0 rfl hd6 (.cons (i + 5) hi .nil)))) rfl (by kernel_rfl) (by kernel_rfl) (by kernel_rfl) rfl rfl rfl (er_ld 0 rfl rfl rfl rfl rfl rfl) ?_
    refine eh_load 7 (held (.cons 2 rfl (.weak 0 rfl hd6 (.cons (i + 5) hi .nil)))) rfl (by kernel_rfl) (by kernel_rfl) (by kernel_rfl) rfl rfl rfl (er_idxv rfl rfl rfl rfl rfl rfl haddr ⟨hdom.1, by rw [hnd]; exact hdom.2⟩) ?_
    refine eh_load 8 (held (.cons 2 rfl (.weak 0 rfl hd6 (.cons (i + 5) hi .nil)))) rfl (by kernel_rfl) (by kernel_rfl) (by kernel_rfl) rfl rfl rfl (er_ldvA 2 (q := dom.toNat * 3) (cs := d.cells) rfl rfl rfl rfl rfl hV rfl hg) ?_
    refine eh_way 9 (by kernel_rfl) (hway rfl rfl (eo_alloc rfl rfl rfl rfl fun b5 => ⟨held (.cons 3 rfl (.weak 1 rfl hd6 (.cons (i + 6) hi .nil))), ?_⟩))
    refine eh_way 10 (by kernel_rfl) (hway rfl rfl (eo_stA 0 rfl rfl rfl rfl rfl rfl rfl rfl rfl ⟨held (.cons 3 rfl (.weak 1 rfl hd6 (.cons (i + 6) hi .nil))), ?_⟩))
    refine eh_done (by kernel_rfl) ?_
    (repeat (first | refine el_pure rfl rfl rfl rfl ?_ | refine ej_seq ?_ | refine ej_region ?_ | refine el_nil ?_ | refine eq_seq ?_ | refine eq_calm ?_ | refine ej_true rfl ?_ | refine ej_false rfl ?_ | refine el_skip rfl rfl rfl ?_ | refine ej_ret ?_ | refine ej_skip ?_ | refine ej_exit ?_ | refine ej_block ?_ | refine eq_seq_ret ?_ | refine eq_seq_exit ?_ | refine eq_block ?_ | refine eq_block_exit ?_ | refine eq_block_ret ?_ | refine eq_block_exit_ne rfl ?_ | refine eq_back_ret ?_ | refine eq_back_exit ?_))
    refine ej_imp' (H' := S w0 (thL b v x b3 ⟨id, dom, mask, awake, running, core, tag, left, slice⟩ r2 O2 ++ (cells b5 T_audit_Domain d.cells :: l))) (fun w hw => S.rot (thL b v x b3 ⟨id, dom, mask, awake, running, core, tag, left, slice⟩ r2 O2) hw) ?_
    refine ej_held [cells b3 T_state_Thread (Th.prog ⟨id, dom, mask, awake, running, core, tag, left, slice⟩), cells b5 T_audit_Domain d.cells, grpsO x.gs] ?_
    refine eh_cont (fun _ : Option (Nat × Nat) => [(0, ptr b), (3, ptr b3), (5, ptr b5)]) (fun r9 => S w0 (thL b v x b3 ⟨id, dom, mask, awake, running, core, tag, left, slice⟩ r9 (O2 ++ one1 (badSpot d s0 ⟨id, dom, mask, awake, running, core, tag, left, slice⟩) 6 id) ++ (cells b5 T_audit_Domain d.cells :: l))) (fun cont => ?_) (fun r3 => ?_)
    · have fin : ∀ (u : Bool) (r9 : Option (Nat × Nat)), u = badSpot d s0 ⟨id, dom, mask, awake, running, core, tag, left, slice⟩ → ∀ w, S w0 (thL b v x b3 ⟨id, dom, mask, awake, running, core, tag, left, slice⟩ r9 (if u = true then O2 ++ [⟨6, id⟩] else O2) ++ (cells b5 T_audit_Domain d.cells :: l)) w → S w0 (thL b v x b3 ⟨id, dom, mask, awake, running, core, tag, left, slice⟩ r9 (O2 ++ one1 (badSpot d s0 ⟨id, dom, mask, awake, running, core, tag, left, slice⟩) 6 id) ++ (cells b5 T_audit_Domain d.cells :: l)) w := fun u r9 hu w hw => by
        rw [if_one, hu] at hw; exact hw
      obtain ⟨dc, don, dl⟩ := d
      have hdc : dc < 18446744073709551616 := hdk.cores
      refine eh_take 0 (held (.cons 2 rfl (.cons 5 rfl (.cons 4 rfl .nil)))) rfl (by kernel_rfl) (by kernel_rfl) (by kernel_rfl) rfl rfl rfl rfl ?_
      refine eh_take 1 (held (.cons 2 rfl (.cons 5 rfl (.cons 4 rfl .nil)))) rfl (by kernel_rfl) (by kernel_rfl) (by kernel_rfl) rfl rfl rfl rfl ?_
      refine eh_load 2 (held (.cons 2 rfl (.cons 5 rfl (.cons 4 rfl .nil)))) rfl (by kernel_rfl) (by kernel_rfl) (by kernel_rfl) rfl rfl rfl (er_lenv rfl rfl rfl rfl) ?_
      refine eh_take 3 (held (.cons 2 rfl (.cons 5 rfl (.cons 4 rfl .nil)))) rfl (by kernel_rfl) (by kernel_rfl) (by kernel_rfl) rfl rfl rfl rfl ?_
      refine eh_take 4 (held (.cons 2 rfl (.cons 5 rfl (.cons 4 rfl .nil)))) rfl (by kernel_rfl) (by kernel_rfl) (by kernel_rfl) rfl rfl rfl rfl ?_
      refine eh_take 23 (held (.cons 2 rfl (.cons 5 rfl (.cons 4 rfl .nil)))) rfl (by kernel_rfl) (by kernel_rfl) (by kernel_rfl) rfl rfl rfl rfl ?_
      refine eh_load 24 (held (.cons 2 rfl (.cons 5 rfl (.cons 4 rfl .nil)))) rfl (by kernel_rfl) (by kernel_rfl) (by kernel_rfl) rfl rfl rfl (er_ld 0 rfl rfl rfl rfl rfl rfl) ?_
      by_cases h1 : s0.length = 1
      · obtain ⟨sx, rfl⟩ : ∃ sx, s0 = [sx] := List.length_eq_one_iff.1 h1
        have hbad : badSpot ⟨dc, don, dl⟩ [sx] ⟨id, dom, mask, awake, running, core, tag, left, slice⟩ = (!decide (sx = ⟨core, running⟩) || !has dc core) := rfl
        refine eh_val 68 (u := .bool true) rfl rfl ?_
        refine eh_take 5 (held (.cons 2 rfl (.cons 5 rfl (.cons 4 rfl .nil)))) rfl (by kernel_rfl) (by kernel_rfl) (by kernel_rfl) rfl rfl rfl rfl ?_
        refine eh_load 6 (held (.cons 2 rfl (.cons 5 rfl (.cons 4 rfl .nil)))) rfl (by kernel_rfl) (by kernel_rfl) (by kernel_rfl) rfl rfl rfl (er_idxv rfl rfl rfl rfl rfl rfl (hks.2 (by show 0 < 2; decide)) ⟨by decide, by show (0 : Int) < 1; decide⟩) ?_
        refine eh_load 7 (held (.cons 2 rfl (.cons 5 rfl (.cons 4 rfl .nil)))) rfl (by kernel_rfl) (by kernel_rfl) (by kernel_rfl) rfl rfl rfl (er_ldvA 2 (q := 0) (cs := sx.cells) rfl rfl rfl rfl rfl hVs rfl (fun k hk => by rw [Nat.zero_add]; rfl)) ?_
        refine eh_take 8 (held (.cons 2 rfl (.cons 5 rfl (.cons 4 rfl .nil)))) rfl (by kernel_rfl) (by kernel_rfl) (by kernel_rfl) rfl rfl rfl rfl ?_
        refine eh_load 9 (held (.cons 2 rfl (.cons 5 rfl (.cons 4 rfl .nil)))) rfl (by kernel_rfl) (by kernel_rfl) (by kernel_rfl) rfl rfl rfl (er_ld 0 rfl rfl rfl rfl rfl rfl) ?_
        refine eh_take 10 (held (.cons 2 rfl (.cons 5 rfl (.cons 4 rfl .nil)))) rfl (by kernel_rfl) (by kernel_rfl) (by kernel_rfl) rfl rfl rfl rfl ?_
        refine eh_load 11 (held (.cons 2 rfl (.cons 5 rfl (.cons 4 rfl .nil)))) rfl (by kernel_rfl) (by kernel_rfl) (by kernel_rfl) rfl rfl rfl (er_ld 0 rfl rfl rfl rfl rfl rfl) ?_
        refine eh_load 12 (held (.cons 2 rfl (.cons 5 rfl (.cons 4 rfl .nil)))) rfl (by kernel_rfl) (by kernel_rfl) (by kernel_rfl) rfl rfl rfl (er_build (cs := Spot.cells ⟨core, running⟩) rfl rfl rfl rfl rfl rfl) ?_
        refine eh_load 13 (held (.cons 2 rfl (.cons 5 rfl (.cons 4 rfl .nil)))) rfl (by kernel_rfl) (by kernel_rfl) (by kernel_rfl) rfl rfl rfl (er_eqA rfl (.inr rfl) rfl rfl guard_S (same_S sx ⟨core, running⟩)) ?_
        by_cases hs : sx = ⟨core, running⟩
        · refine eh_val 77 (u := .bool false) rfl (by rw [decide_eq_true hs]; rfl) ?_
          refine eh_take 14 (held (.cons 2 rfl (.cons 5 rfl (.cons 4 rfl .nil)))) rfl (by kernel_rfl) (by kernel_rfl) (by kernel_rfl) rfl rfl rfl rfl ?_
          refine eh_take 15 (held (.cons 2 rfl (.cons 5 rfl (.cons 4 rfl .nil)))) rfl (by kernel_rfl) (by kernel_rfl) (by kernel_rfl) rfl rfl rfl rfl ?_
          refine eh_load 16 (held (.cons 2 rfl (.cons 5 rfl (.cons 4 rfl .nil)))) rfl (by kernel_rfl) (by kernel_rfl) (by kernel_rfl) rfl rfl rfl (er_ld 1 rfl rfl rfl rfl rfl rfl) ?_
          refine eh_take 17 (held (.cons 2 rfl (.cons 5 rfl (.cons 4 rfl .nil)))) rfl (by kernel_rfl) (by kernel_rfl) (by kernel_rfl) rfl rfl rfl rfl ?_
          refine eh_load 18 (held (.cons 2 rfl (.cons 5 rfl (.cons 4 rfl .nil)))) rfl (by kernel_rfl) (by kernel_rfl) (by kernel_rfl) rfl rfl rfl (er_ld 0 rfl rfl rfl rfl rfl rfl) ?_
          refine eh_way 19 (by kernel_rfl) (hway rfl rfl (eo_call1 rfl rfl rfl rfl rfl real_mask_Set_Has (Has_any dc core hdc _) ⟨held (.cons 2 rfl (.cons 5 rfl (.cons 4 rfl .nil))), ?_⟩))
          refine eh_take 20 (held (.cons 2 rfl (.cons 5 rfl (.cons 4 rfl .nil)))) rfl (by kernel_rfl) (by kernel_rfl) (by kernel_rfl) rfl rfl rfl rfl ?_
          refine eh_take 21 (held (.cons 2 rfl (.cons 5 rfl (.cons 4 rfl .nil)))) rfl (by kernel_rfl) (by kernel_rfl) (by kernel_rfl) rfl rfl rfl rfl ?_
          refine eh_take 22 (held (.cons 2 rfl (.cons 5 rfl (.cons 4 rfl .nil)))) rfl (by kernel_rfl) (by kernel_rfl) (by kernel_rfl) rfl rfl rfl rfl ?_
          refine eh_way 25 (by kernel_rfl) (hway rfl rfl (eo_callx rfl rfl rfl rfl rfl real_audit_auditor_tell (tell_raw _ 6 id (by omega)) fun r9 _ => ⟨held (.cons 2 rfl (.cons 5 rfl (.cons 4 rfl .nil))), ?_⟩))
          refine eh_done (by kernel_rfl) (eq_le (cont r9) (le_of _ _ rfl) fun w hw => ?_)
          exact fin _ r9 (by rw [hbad, decide_eq_true hs]; rfl) w hw
        · refine eh_val 77 (u := .bool true) rfl (by rw [decide_eq_false hs]; rfl) ?_
          refine eh_take 14 (held (.cons 2 rfl (.cons 5 rfl (.cons 4 rfl .nil)))) rfl (by kernel_rfl) (by kernel_rfl) (by kernel_rfl) rfl rfl rfl rfl ?_
          refine eh_skip 15 (held (.cons 2 rfl (.cons 5 rfl (.cons 4 rfl .nil)))) rfl (by kernel_rfl) (by kernel_rfl) (by kernel_rfl) rfl rfl rfl ?_
          refine eh_skip 16 (held (.cons 2 rfl (.cons 5 rfl (.cons 4 rfl .nil)))) rfl (by kernel_rfl) (by kernel_rfl) (by kernel_rfl) rfl rfl rfl ?_
          refine eh_skip 17 (held (.cons 2 rfl (.cons 5 rfl (.cons 4 rfl .nil)))) rfl (by kernel_rfl) (by kernel_rfl) (by kernel_rfl) rfl rfl rfl ?_
          refine eh_skip 18 (held (.cons 2 rfl (.cons 5 rfl (.cons 4 rfl .nil)))) rfl (by kernel_rfl) (by kernel_rfl) (by kernel_rfl) rfl rfl rfl ?_
          refine eh_skip 19 (held (.cons 2 rfl (.cons 5 rfl (.cons 4 rfl .nil)))) rfl (by kernel_rfl) (by kernel_rfl) (by kernel_rfl) rfl rfl rfl ?_
          refine eh_skip 20 (held (.cons 2 rfl (.cons 5 rfl (.cons 4 rfl .nil)))) rfl (by kernel_rfl) (by kernel_rfl) (by kernel_rfl) rfl rfl rfl ?_
          refine eh_take 21 (held (.cons 2 rfl (.cons 5 rfl (.cons 4 rfl .nil)))) rfl (by kernel_rfl) (by kernel_rfl) (by kernel_rfl) rfl rfl rfl rfl ?_
          refine eh_take 22 (held (.cons 2 rfl (.cons 5 rfl (.cons 4 rfl .nil)))) rfl (by kernel_rfl) (by kernel_rfl) (by kernel_rfl) rfl rfl rfl rfl ?_
          refine eh_way 25 (by kernel_rfl) (hway rfl rfl (eo_callx rfl rfl rfl rfl rfl real_audit_auditor_tell (tell_raw _ 6 id (by omega)) fun r9 _ => ⟨held (.cons 2 rfl (.cons 5 rfl (.cons 4 rfl .nil))), ?_⟩))
          refine eh_done (by kernel_rfl) (eq_le (cont r9) (le_of _ _ rfl) fun w hw => ?_)
          exact fin _ r9 (by rw [hbad, decide_eq_false hs]; rfl) w hw
      · refine eh_val 68 (u := .bool false) rfl (by congr 1; exact decide_eq_false (by omega)) ?_
        have hbad : badSpot ⟨dc, don, dl⟩ s0 ⟨id, dom, mask, awake, running, core, tag, left, slice⟩ = false := by
          unfold badSpot
          match s0, h1 with
          | [], _ => rfl
          | [_], h => exact absurd rfl h
          | _ :: _ :: _, _ => rfl
        refine eh_skip 5 (held (.cons 2 rfl (.cons 5 rfl (.cons 4 rfl .nil)))) rfl (by kernel_rfl) (by kernel_rfl) (by kernel_rfl) rfl rfl rfl ?_
        refine eh_skip 6 (held (.cons 2 rfl (.cons 5 rfl (.cons 4 rfl .nil)))) rfl (by kernel_rfl) (by kernel_rfl) (by kernel_rfl) rfl rfl rfl ?_
        refine eh_skip 7 (held (.cons 2 rfl (.cons 5 rfl (.cons 4 rfl .nil)))) rfl (by kernel_rfl) (by kernel_rfl) (by kernel_rfl) rfl rfl rfl ?_
        refine eh_skip 8 (held (.cons 2 rfl (.cons 5 rfl (.cons 4 rfl .nil)))) rfl (by kernel_rfl) (by kernel_rfl) (by kernel_rfl) rfl rfl rfl ?_
        refine eh_skip 9 (held (.cons 2 rfl (.cons 5 rfl (.cons 4 rfl .nil)))) rfl (by kernel_rfl) (by kernel_rfl) (by kernel_rfl) rfl rfl rfl ?_
        refine eh_skip 10 (held (.cons 2 rfl (.cons 5 rfl (.cons 4 rfl .nil)))) rfl (by kernel_rfl) (by kernel_rfl) (by kernel_rfl) rfl rfl rfl ?_
        refine eh_skip 11 (held (.cons 2 rfl (.cons 5 rfl (.cons 4 rfl .nil)))) rfl (by kernel_rfl) (by kernel_rfl) (by kernel_rfl) rfl rfl rfl ?_
        refine eh_skip 12 (held (.cons 2 rfl (.cons 5 rfl (.cons 4 rfl .nil)))) rfl (by kernel_rfl) (by kernel_rfl) (by kernel_rfl) rfl rfl rfl ?_
        refine eh_skip 13 (held (.cons 2 rfl (.cons 5 rfl (.cons 4 rfl .nil)))) rfl (by kernel_rfl) (by kernel_rfl) (by kernel_rfl) rfl rfl rfl ?_
        refine eh_skip 14 (held (.cons 2 rfl (.cons 5 rfl (.cons 4 rfl .nil)))) rfl (by kernel_rfl) (by kernel_rfl) (by kernel_rfl) rfl rfl rfl ?_
        refine eh_skip 15 (held (.cons 2 rfl (.cons 5 rfl (.cons 4 rfl .nil)))) rfl (by kernel_rfl) (by kernel_rfl) (by kernel_rfl) rfl rfl rfl ?_
        refine eh_skip 16 (held (.cons 2 rfl (.cons 5 rfl (.cons 4 rfl .nil)))) rfl (by kernel_rfl) (by kernel_rfl) (by kernel_rfl) rfl rfl rfl ?_
        refine eh_skip 17 (held (.cons 2 rfl (.cons 5 rfl (.cons 4 rfl .nil)))) rfl (by kernel_rfl) (by kernel_rfl) (by kernel_rfl) rfl rfl rfl ?_
        refine eh_skip 18 (held (.cons 2 rfl (.cons 5 rfl (.cons 4 rfl .nil)))) rfl (by kernel_rfl) (by kernel_rfl) (by kernel_rfl) rfl rfl rfl ?_
        refine eh_skip 19 (held (.cons 2 rfl (.cons 5 rfl (.cons 4 rfl .nil)))) rfl (by kernel_rfl) (by kernel_rfl) (by kernel_rfl) rfl rfl rfl ?_
        refine eh_skip 20 (held (.cons 2 rfl (.cons 5 rfl (.cons 4 rfl .nil)))) rfl (by kernel_rfl) (by kernel_rfl) (by kernel_rfl) rfl rfl rfl ?_
        refine eh_skip 21 (held (.cons 2 rfl (.cons 5 rfl (.cons 4 rfl .nil)))) rfl (by kernel_rfl) (by kernel_rfl) (by kernel_rfl) rfl rfl rfl ?_
        refine eh_take 22 (held (.cons 2 rfl (.cons 5 rfl (.cons 4 rfl .nil)))) rfl (by kernel_rfl) (by kernel_rfl) (by kernel_rfl) rfl rfl rfl rfl ?_
        refine eh_way 25 (by kernel_rfl) (hway rfl rfl (eo_callx rfl rfl rfl rfl rfl real_audit_auditor_tell (tell_raw _ 6 id (by omega)) fun r9 _ => ⟨held (.cons 2 rfl (.cons 5 rfl (.cons 4 rfl .nil))), ?_⟩))
        refine eh_done (by kernel_rfl) (eq_le (cont r9) (le_of _ _ rfl) fun w hw => ?_)
        exact fin false r9 hbad.symm w hw
    have hO3l : (O2 ++ one1 (badSpot d s0 ⟨id, dom, mask, awake, running, core, tag, left, slice⟩) 6 id).length ≤ out.length + 3 := by have := one_le (badSpot d s0 ⟨id, dom, mask, awake, running, core, tag, left, slice⟩) 6 id; rw [List.length_append]; omega
    generalize hO3 : O2 ++ one1 (badSpot d s0 ⟨id, dom, mask, awake, running, core, tag, left, slice⟩) 6 id = O3 at *
    (repeat (first | refine el_pure rfl rfl rfl rfl ?_ | refine ej_seq ?_ | refine ej_region ?_ | refine el_nil ?_ | refine eq_seq ?_ | refine eq_calm ?_ | refine ej_true rfl ?_ | refine ej_false rfl ?_ | refine el_skip rfl rfl rfl ?_ | refine ej_ret ?_ | refine ej_skip ?_ | refine ej_exit ?_ | refine ej_block ?_ | refine eq_seq_ret ?_ | refine eq_seq_exit ?_ | refine eq_block ?_ | refine eq_block_exit ?_ | refine eq_block_ret ?_ | refine eq_block_exit_ne rfl ?_ | refine eq_back_ret ?_ | refine eq_back_exit ?_))
    have heff := effM_lt d hdk mask hm
    refine ej_held [cells b3 T_state_Thread (Th.prog ⟨id, dom, mask, awake, running, core, tag, left, slice⟩), cells b5 T_audit_Domain d.cells] ?_
    refine eh_take 0 (held (.cons 2 rfl (.cons 5 rfl .nil))) rfl (by kernel_rfl) (by kernel_rfl) (by kernel_rfl) rfl rfl rfl rfl ?_
    refine eh_take 2 (held (.cons 2 rfl (.cons 5 rfl .nil))) rfl (by kernel_rfl) (by kernel_rfl) (by kernel_rfl) rfl rfl rfl rfl ?_
    refine eh_load 3 (held (.cons 2 rfl (.cons 5 rfl .nil))) rfl (by kernel_rfl) (by kernel_rfl) (by kernel_rfl) rfl rfl rfl (er_ld 0 rfl rfl rfl rfl rfl rfl) ?_
    refine eh_take 5 (held (.cons 2 rfl (.cons 5 rfl .nil))) rfl (by kernel_rfl) (by kernel_rfl) (by kernel_rfl) rfl rfl rfl rfl ?_
    refine eh_load 6 (held (.cons 2 rfl (.cons 5 rfl .nil))) rfl (by kernel_rfl) (by kernel_rfl) (by kernel_rfl) rfl rfl rfl (er_ld 0 rfl rfl rfl rfl rfl rfl) ?_
    refine eh_take 9 (held (.cons 2 rfl (.cons 5 rfl .nil))) rfl (by kernel_rfl) (by kernel_rfl) (by kernel_rfl) rfl rfl rfl rfl ?_
    refine eh_load 10 (held (.cons 2 rfl (.cons 5 rfl .nil))) rfl (by kernel_rfl) (by kernel_rfl) (by kernel_rfl) rfl rfl rfl (er_ld 0 rfl rfl rfl rfl rfl rfl) ?_
    refine eh_load 1 (held (.cons 2 rfl (.cons 5 rfl .nil))) rfl (by kernel_rfl) (by kernel_rfl) (by kernel_rfl) rfl rfl rfl (er_ldW 1 rfl rfl rfl rfl rfl rfl) ?_
    refine eh_way 4 (by kernel_rfl) (hway rfl rfl (eo_call1 rfl rfl rfl rfl rfl real_audit_Domain_effective (effective_any d hdk mask hm) ⟨held (.cons 2 rfl (.cons 5 rfl .nil)), ?_⟩))
    refine eh_way 7 (by kernel_rfl) (hway rfl rfl (eo_call1 rfl rfl rfl rfl rfl real_mask_Set_Has (Has_any _ core heff _) ⟨held (.cons 2 rfl (.cons 5 rfl .nil)), ?_⟩))
    refine eh_take 8 (held (.cons 2 rfl (.cons 5 rfl .nil))) rfl (by kernel_rfl) (by kernel_rfl) (by kernel_rfl) rfl rfl rfl rfl ?_
    refine eh_way 11 (by kernel_rfl) (hway rfl rfl (eo_callx rfl rfl rfl rfl rfl real_audit_auditor_tell (tell_raw _ 7 id (by omega)) fun r4 _ => ⟨held (.cons 2 rfl (.cons 5 rfl .nil)), ?_⟩))
    refine eh_done (by kernel_rfl) ?_
    rw [if_one]
    have hO4l : (O3 ++ one1 (!has (effM d mask) core) 7 id).length ≤ out.length + 4 := by have := one_le (!has (effM d mask) core) 7 id; rw [List.length_append]; omega
    generalize hO4 : O3 ++ one1 (!has (effM d mask) core) 7 id = O4 at *
    (repeat (first | refine el_pure rfl rfl rfl rfl ?_ | refine ej_seq ?_ | refine ej_region ?_ | refine el_nil ?_ | refine eq_seq ?_ | refine eq_calm ?_ | refine ej_true rfl ?_ | refine ej_false rfl ?_ | refine el_skip rfl rfl rfl ?_ | refine ej_ret ?_ | refine ej_skip ?_ | refine ej_exit ?_ | refine ej_block ?_ | refine eq_seq_ret ?_ | refine eq_seq_exit ?_ | refine eq_block ?_ | refine eq_block_exit ?_ | refine eq_block_ret ?_ | refine eq_block_exit_ne rfl ?_ | refine eq_back_ret ?_ | refine eq_back_exit ?_))
    refine ej_held [cells b3 T_state_Thread (Th.prog ⟨id, dom, mask, awake, running, core, tag, left, slice⟩), cells b5 T_audit_Domain d.cells] ?_
    refine eh_take 0 (held (.cons 2 rfl (.cons 5 rfl .nil))) rfl (by kernel_rfl) (by kernel_rfl) (by kernel_rfl) rfl rfl rfl rfl ?_
    refine eh_take 5 (held (.cons 2 rfl (.cons 5 rfl .nil))) rfl (by kernel_rfl) (by kernel_rfl) (by kernel_rfl) rfl rfl rfl rfl ?_
    refine eh_load 6 (held (.cons 2 rfl (.cons 5 rfl .nil))) rfl (by kernel_rfl) (by kernel_rfl) (by kernel_rfl) rfl rfl rfl (er_ld 0 rfl rfl rfl rfl rfl rfl) ?_
    refine eh_load 1 (held (.cons 2 rfl (.cons 5 rfl .nil))) rfl (by kernel_rfl) (by kernel_rfl) (by kernel_rfl) rfl rfl rfl (er_ldW 1 rfl rfl rfl rfl rfl rfl) ?_
    refine eh_load 2 (held (.cons 2 rfl (.cons 5 rfl .nil))) rfl (by kernel_rfl) (by kernel_rfl) (by kernel_rfl) rfl rfl rfl (er_ldW 0 rfl rfl rfl rfl rfl rfl) ?_
    refine eh_way 3 (by kernel_rfl) (hway rfl rfl (eo_call1 rfl rfl rfl rfl rfl real_audit_Domain_rounded (rounded_any d ⟨id, dom, mask, awake, running, core, tag, left, slice⟩ htag.1 htag.2) ⟨held (.cons 2 rfl (.cons 5 rfl .nil)), ?_⟩))
    refine eh_take 4 (held (.cons 2 rfl (.cons 5 rfl .nil))) rfl (by kernel_rfl) (by kernel_rfl) (by kernel_rfl) rfl rfl rfl rfl ?_
    refine eh_way 7 (by kernel_rfl) (hway rfl rfl (eo_callx rfl rfl rfl rfl rfl real_audit_auditor_tell (tell_raw _ 8 id (by omega)) fun r5 _ => ⟨held (.cons 2 rfl (.cons 5 rfl .nil)), ?_⟩))
    refine eh_done (by kernel_rfl) ?_
    rw [if_one]
    (repeat (first | refine el_pure rfl rfl rfl rfl ?_ | refine ej_seq ?_ | refine ej_region ?_ | refine el_nil ?_ | refine eq_seq ?_ | refine eq_calm ?_ | refine ej_true rfl ?_ | refine ej_false rfl ?_ | refine el_skip rfl rfl rfl ?_ | refine ej_ret ?_ | refine ej_skip ?_ | refine ej_exit ?_ | refine ej_block ?_ | refine eq_seq_ret ?_ | refine eq_seq_exit ?_ | refine eq_block ?_ | refine eq_block_exit ?_ | refine eq_block_ret ?_ | refine eq_block_exit_ne rfl ?_ | refine eq_back_ret ?_ | refine eq_back_exit ?_))
    refine eq_end [] rvs_nil fun w hw => ⟨r5, rfl, trivial, ?_⟩
    have hX : out ++ (one1 (decide (s0 = [])) 3 id ++ (one1 (badSlice v.q ⟨id, dom, mask, awake, running, core, tag, left, slice⟩) 9 id ++ (one1 (badSpot d s0 ⟨id, dom, mask, awake, running, core, tag, left, slice⟩) 6 id ++ (one1 (!has (effM d mask) core) 7 id ++ one1 (!decide (roundOk d ⟨id, dom, mask, awake, running, core, tag, left, slice⟩)) 8 id)))) = O4 ++ one1 (!decide (roundOk d ⟨id, dom, mask, awake, running, core, tag, left, slice⟩)) 8 id := by
      simp only [← hO4, ← hO3, ← hO2, ← hO1, List.append_assoc]
    have hw : S w0 (thL b v x b3 ⟨id, dom, mask, awake, running, core, tag, left, slice⟩ r5 (O4 ++ one1 (!decide (roundOk d ⟨id, dom, mask, awake, running, core, tag, left, slice⟩)) 8 id) ++ (cells b5 T_audit_Domain d.cells :: l)) w := hw
    rw [← hX] at hw
    exact (hw.erase 2).erase 4
  · rw [decide_eq_false hdom]
    have hdn : domOf ds dom = none := if_neg hdom
    simp only [hdn]
    (repeat (first | refine el_pure rfl rfl rfl rfl ?_ | refine ej_seq ?_ | refine ej_region ?_ | refine el_nil ?_ | refine eq_seq ?_ | refine eq_calm ?_ | refine ej_true rfl ?_ | refine ej_false rfl ?_ | refine el_skip rfl rfl rfl ?_ | refine ej_ret ?_ | refine ej_skip ?_ | refine ej_exit ?_ | refine ej_block ?_ | refine eq_seq_ret ?_ | refine eq_seq_exit ?_ | refine eq_block ?_ | refine eq_block_exit ?_ | refine eq_block_ret ?_ | refine eq_block_exit_ne rfl ?_ | refine eq_back_ret ?_ | refine eq_back_exit ?_))
    refine el_cons rfl (eo_ld 2 rfl rfl rfl rfl rfl rfl rfl rfl ?_)
    refine el_cons rfl (eo_callx rfl rfl rfl rfl rfl real_audit_auditor_tell (tell_raw true 6 id (by omega)) fun r3 _ => ?_)
    (repeat (first | refine el_pure rfl rfl rfl rfl ?_ | refine ej_seq ?_ | refine ej_region ?_ | refine el_nil ?_ | refine eq_seq ?_ | refine eq_calm ?_ | refine ej_true rfl ?_ | refine ej_false rfl ?_ | refine el_skip rfl rfl rfl ?_ | refine ej_ret ?_ | refine ej_skip ?_ | refine ej_exit ?_ | refine ej_block ?_ | refine eq_seq_ret ?_ | refine eq_seq_exit ?_ | refine eq_block ?_ | refine eq_block_exit ?_ | refine eq_block_ret ?_ | refine eq_block_exit_ne rfl ?_ | refine eq_back_ret ?_ | refine eq_back_exit ?_))
    refine eq_ret [] rvs_nil fun w hw => ⟨r3, rfl, trivial, ?_⟩
    have hX : out ++ (one1 (decide (s0 = [])) 3 id ++ (one1 (badSlice v.q ⟨id, dom, mask, awake, running, core, tag, left, slice⟩) 9 id ++ [⟨6, id⟩])) = O2 ++ [⟨6, id⟩] := by
      simp only [← hO2, ← hO1, List.append_assoc]
    rw [hX]
    exact hw.erase 2

end Go.Proofs.Ytkpbpjnabbfdiaa
