/- What an audit looks at; the auditor, as it lies in memory. -/
import Derived.Test.YtkpbpjnabbfdiaaAx
import Derived.Test.YtkpbpjnabbfdiaaSEk
namespace Go.Proofs.Ytkpbpjnabbfdiaa
open Go Go.SE

variable {w0 w : World} {l : List HP} {i : Nat} {r : Option (Nat × Nat)}

structure Dm where
  cores : Nat
  on : Nat
  low : Int
structure Cr where
  num : Int
  cur : Int
  lane : List Int
  a : Option Addr
  cap : Nat
structure Th where
  id : Int
  dom : Int
  mask : Nat
  awake : Bool
  running : Bool
  core : Int
  tag : Int
  left : Int
  slice : Int
abbrev Dm.cells (d : Dm) : List Value := [u64 d.cores, u64 d.on, int d.low]
abbrev Cr.cells (c : Cr) : List Value := [int c.num, int c.cur, .slice c.a c.lane.length c.cap]
abbrev Th.prog (t : Th) : List Value := [int t.id, int 0, int t.dom, int 0, u64 t.mask, .bool t.awake, .bool t.running, int t.core, int t.tag, int t.left, int t.slice]
abbrev Th.doc (t : Th) : List Value := [int t.id, int t.dom, u64 t.mask, .bool t.awake, .bool t.running, int t.core, int t.tag, int t.left, int t.slice]
theorem dm3 (d : Dm) : d.cells.length = 3 := rfl
theorem cr3 (c : Cr) : c.cells.length = 3 := rfl
theorem th11 (t : Th) : t.prog.length = 11 := rfl
theorem th9 (t : Th) : t.doc.length = 9 := rfl
structure Dm.Ok (d : Dm) : Prop where
  cores : d.cores < 18446744073709551616
  on : d.on < 18446744073709551616

/-- a view, as it is read -/
structure Lies (w0 : World) (p : HP) (ds : List Dm) (cs : List Cr) (ts : List Th) (ad ac at' : Option Addr) (cd cc ct : Nat) (n : Nat) (f : Th → List Value) : Prop where
  d : View w0 [p] 3 ad (rows Dm.cells ds) ds.length cd
  c : View w0 [p] 3 ac (rows Cr.cells cs) cs.length cc
  lane : ∀ x ∈ cs, View w0 [p] 1 x.a (ints x.lane) x.lane.length x.cap
  t : View w0 [p] n at' (rows f ts) ts.length ct
  dOk : ∀ d ∈ ds, d.Ok
  tOk : ∀ t ∈ ts, t.mask < 18446744073709551616

structure Spot where
  core : Int
  running : Bool
deriving DecidableEq
abbrev Spot.cells (s : Spot) : List Value := [int s.core, .bool s.running]
theorem sp2 (s : Spot) : s.cells.length = 2 := rfl
/-- where an id is, and the row that says it -/
structure Grp where
  id : Int
  r : Option (Nat × Nat)
  sp : List Spot
abbrev Grp.row (g : Grp) : HP := rowC g.r T_audit_spot 2 (rows Spot.cells g.sp) g.sp.length
abbrev Grp.kv (g : Grp) : Int × Value := (g.id, sv g.r g.sp.length)
def grpsO (gs : List Grp) : HP := stars (gs.map Grp.row)

theorem S.spread {ps : List HP} (h : S w0 (stars ps :: l) w) : S w0 (ps ++ l) w := h.split fun _ hp => hp
theorem S.gather : ∀ {ps : List HP} {l : List HP}, S w0 (ps ++ l) w → S w0 (stars ps :: l) w
  | [], l, h => ⟨h.os, h.tape, h.output, h.drawn, h.size, ⟨fun _ => none, fun b => w.heap[b]?, fun _ => .inl rfl, by funext x; simp [uni], trivial, h.sat⟩⟩
  | p :: ps, l, h => by
    have h1 : S w0 (p :: (ps ++ l)) w := h
    have h2 := h1.front (i := 0) rfl
    have h3 : S w0 (p :: stars ps :: l) w := by
      obtain ⟨a, b, hab, he, hp, hr⟩ := h1.sat
      refine ⟨h.os, h.tape, h.output, h.drawn, h.size, ⟨a, b, hab, he, hp, ?_⟩⟩
      exact gather_stars _ _ _ hr
    exact h3.join2 fun _ hh => hh
where
  gather_stars : ∀ (ps l : List HP) (h : Hp), stars (ps ++ l) h → star (stars ps) (stars l) h
    | [], l, h, hs => ⟨fun _ => none, h, fun _ => .inl rfl, by funext x; simp [uni], trivial, hs⟩
    | p :: ps, l, h, hs => by
      obtain ⟨a, b, hab, rfl, hp, hr⟩ := hs
      obtain ⟨c, d, hcd, rfl, hc, hd⟩ := gather_stars ps l b hr
      exact ⟨uni a c, d, disj_comm (disj_uni (disj_comm (disj_right hab)) (disj_comm hcd)), (uni_assoc _ _ _).symm, ⟨a, c, disj_left hab, rfl, hp, hc⟩, hd⟩

theorem unfront_stars : ∀ (l : List HP) (i : Nat) (q : HP) (h : Hp), i < l.length → star q (stars (l.eraseIdx i)) h → stars (l.set i q) h
  | [], i, _, _, hi, _ => by simp at hi
  | p :: l, 0, q, h, _, hs => hs
  | p :: l, i + 1, q, h, hi, hs => by
    obtain ⟨a, b, hab, rfl, hq, hr⟩ := hs
    obtain ⟨c, d, hcd, rfl, hp, hrest⟩ : star p (stars (l.eraseIdx i)) b := hr
    have h1 : star q (stars (l.eraseIdx i)) (uni a d) := ⟨a, d, disj_right hab, rfl, hq, hrest⟩
    have h2 := unfront_stars l i q _ (by simpa using hi) h1
    refine ⟨c, uni a d, disj_uni (disj_comm (disj_left hab)) hcd, ?_, hp, h2⟩
    rw [← uni_assoc, uni_comm (disj_left hab), uni_assoc]
theorem _root_.Go.SE.S.unfront {i : Nat} {q : HP} (hi : i < l.length) (h : S w0 (q :: l.eraseIdx i) w) : S w0 (l.set i q) w :=
  ⟨h.os, h.tape, h.output, h.drawn, h.size, unfront_stars l i q _ hi h.sat⟩
theorem ej_exP {C : Cx} {n : Nat} {Q : Kont} {e : Env} {H : WP} {c : Code} {α : Type} {φ : α → Prop} {H' : α → WP} (hH : ∀ w, H w → ∃ x, φ x ∧ H' x w) (h : ∀ x, φ x → EJ C n c Q e (H' x)) : EJ C n c Q e H :=
  ⟨fun a w hf hw => by obtain ⟨x, h1, h2⟩ := hH w hw; exact (h x h1).run a w hf h2⟩
theorem el_exP {C : Cx} {n : Nat} {Q : Kont} {e : Env} {H : WP} {ops : Array Oper} {rest : List Oper} {α : Type} {φ : α → Prop} {H' : α → WP} (hH : ∀ w, H w → ∃ x, φ x ∧ H' x w) (h : ∀ x, φ x → EL C n rest ops Q e (H' x)) : EL C n rest ops Q e H :=
  ⟨fun a w hf hw => by obtain ⟨x, h1, h2⟩ := hH w hw; exact (h x h1).run a w hf h2⟩
/-- a contract at the front, taken anywhere -/
theorem Does.at {C : Cx} {f : FuncId} {args : List Value} {i : Nat} {p q : HP} {V : Value} (hi : l[i]? = some p) (h : Does C f args (S w0 (p :: l.eraseIdx i)) fun v w => v = V ∧ S w0 (q :: l.eraseIdx i) w) : Does C f args (S w0 l) fun v w => v = V ∧ S w0 (l.set i q) w :=
  h.mono (fun _ hw => hw.front hi) fun _ _ ⟨hv, hw⟩ => ⟨hv, hw.unfront (List.getElem?_eq_some_iff.1 hi).1⟩
theorem Does.atx {C : Cx} {f : FuncId} {args : List Value} {i : Nat} {p : HP} {α : Type} {φ : α → Prop} {q : α → HP} {V : α → Value} (hi : l[i]? = some p) (h : Does C f args (S w0 (p :: l.eraseIdx i)) fun v w => ∃ x, v = V x ∧ φ x ∧ S w0 (q x :: l.eraseIdx i) w) : Does C f args (S w0 l) fun v w => ∃ x, v = V x ∧ φ x ∧ S w0 (l.set i (q x)) w :=
  h.mono (fun _ hw => hw.front hi) fun _ _ ⟨x, hv, hφ, hw⟩ => ⟨x, hv, hφ, hw.unfront (List.getElem?_eq_some_iff.1 hi).1⟩

/-! ### The auditor -/
structure Hd where
  q : Int
  ad : Option Addr
  nd : Nat
  cd : Nat
  ac : Option Addr
  nc : Nat
  cc : Nat
  at' : Option Addr
  nt : Nat
  ct : Nat
abbrev Hd.cells (v : Hd) : List Value := [int v.q, .slice v.ad v.nd v.cd, .slice v.ac v.nc v.cc, .slice v.at' v.nt v.ct]
structure Inn where
  bs : Nat
  bw : Nat
  r : Option (Nat × Nat)
  gs : List Grp
abbrev awO (b : Nat) (aw : List Th) : HP := mapO b .i64 (aw.map fun t => (t.id, .agg t.prog.toArray))
abbrev auL (b : Nat) (v : Hd) (x : Inn) (aw : List Th) (out : List Fnd) : List HP :=
  [cells b T_audit_auditor [int v.q, .slice v.ad v.nd v.cd, .slice v.ac v.nc v.cc, .slice v.at' v.nt v.ct, .map (some x.bs), .map (some x.bw), sv x.r out.length],
   mapO x.bs .i64 (x.gs.map Grp.kv), grpsO x.gs, awO x.bw aw, rowC x.r T_audit_Finding 2 (rows Fnd.cells out) out.length]
def auO (b : Nat) (v : Hd) (sp : List (Int × List Spot)) (aw : List Th) (out : List Fnd) : HP := fun h => ∃ x : Inn, (x.gs.map fun g => (g.id, g.sp)) = sp ∧ stars (auL b v x aw out) h
theorem au_open {b : Nat} {v : Hd} {sp : List (Int × List Spot)} {aw : List Th} {out : List Fnd} (w : World) (h : S w0 (auO b v sp aw out :: l) w) : ∃ x : Inn, (x.gs.map fun g => (g.id, g.sp)) = sp ∧ S w0 (auL b v x aw out ++ l) w := by
  obtain ⟨⟨x, hx⟩, h1⟩ := h.ex (i := 0) rfl (α := { x : Inn // (x.gs.map fun g => (g.id, g.sp)) = sp }) (q := fun x => stars (auL b v x.1 aw out)) fun h ⟨x, h1, h2⟩ => ⟨⟨x, h1⟩, h2⟩
  exact ⟨x, hx, S.spread h1⟩
theorem au_close {b : Nat} {v : Hd} {sp : List (Int × List Spot)} {aw : List Th} {out : List Fnd} {x : Inn} (hx : (x.gs.map fun g => (g.id, g.sp)) = sp) (w : World) (h : S w0 (auL b v x aw out ++ l) w) : S w0 (auO b v sp aw out :: l) w :=
  (S.gather h).imp (i := 0) rfl fun _ hp => ⟨x, hx, hp⟩

set_option maxHeartbeats 800000 in
theorem tell_any {b : Nat} {v : Hd} {sp : List (Int × List Spot)} {aw : List Th} {out : List Fnd} (wrong : Bool) (kind num : Int) (hl : out.length ≤ 100000000) :
    Does cx F_audit_auditor_tell [ptr b, .bool wrong, int kind, int num] (S w0 (auO b v sp aw out :: l)) fun r w => r = .tuple #[] ∧ S w0 (auO b v sp aw (if wrong then out ++ [⟨kind, num⟩] else out) :: l) w := by
  refine fn_enter (n := N_audit_auditor_tell) fn_audit_auditor_tell rfl rfl rfl ?_
  cases wrong with
  | false =>
    (repeat (first | refine el_pure rfl rfl rfl rfl ?_ | refine ej_seq ?_ | refine ej_region ?_ | refine el_nil ?_ | refine eq_seq ?_ | refine eq_calm ?_ | refine ej_true rfl ?_ | refine ej_false rfl ?_ | refine el_skip rfl rfl rfl ?_ | refine ej_ret ?_ | refine ej_skip ?_ | refine ej_exit ?_ | refine ej_block ?_ | refine eq_seq_ret ?_ | refine eq_seq_exit ?_ | refine eq_block ?_ | refine eq_block_exit ?_ | refine eq_block_ret ?_ | refine eq_block_exit_ne rfl ?_ | refine eq_back_ret ?_ | refine eq_back_exit ?_))
    exact eq_end [] rvs_nil fun w hw => ⟨rfl, hw⟩
  | true =>
    refine ej_exP au_open fun x hx => ?_
    (repeat (first | refine el_pure rfl rfl rfl rfl ?_ | refine ej_seq ?_ | refine ej_region ?_ | refine el_nil ?_ | refine eq_seq ?_ | refine eq_calm ?_ | refine ej_true rfl ?_ | refine ej_false rfl ?_ | refine el_skip rfl rfl rfl ?_ | refine ej_ret ?_ | refine ej_skip ?_ | refine ej_exit ?_ | refine ej_block ?_ | refine eq_seq_ret ?_ | refine eq_seq_exit ?_ | refine eq_block ?_ | refine eq_block_exit ?_ | refine eq_block_ret ?_ | refine eq_block_exit_ne rfl ?_ | refine eq_back_ret ?_ | refine eq_back_exit ?_))
    refine el_cons rfl (eo_ld 0 rfl rfl rfl rfl rfl rfl rfl rfl ?_)
    (repeat (first | refine el_pure rfl rfl rfl rfl ?_ | refine ej_seq ?_ | refine ej_region ?_ | refine el_nil ?_ | refine eq_seq ?_ | refine eq_calm ?_ | refine ej_true rfl ?_ | refine ej_false rfl ?_ | refine el_skip rfl rfl rfl ?_ | refine ej_ret ?_ | refine ej_skip ?_ | refine ej_exit ?_ | refine ej_block ?_ | refine eq_seq_ret ?_ | refine eq_seq_exit ?_ | refine eq_block ?_ | refine eq_block_exit ?_ | refine eq_block_ret ?_ | refine eq_block_exit_ne rfl ?_ | refine eq_back_ret ?_ | refine eq_back_exit ?_))
    refine el_cons rfl (eo_build (cs := Fnd.cells ⟨kind, num⟩) rfl rfl rfl rfl rfl rfl rfl rfl ?_)
    refine el_cons rfl (eo_buildS (cs := Fnd.cells ⟨kind, num⟩) rfl rfl rfl rfl rfl rfl rfl rfl rfl rfl fun b6 => ?_)
    refine el_cons rfl (eo_append 5 (r := x.r) (xs := rows Fnd.cells out) (n' := out.length) (Fnd.cells ⟨kind, num⟩) rfl rfl rfl rfl rfl rfl rfl rfl rfl rfl rfl (fun w hw j u hu => ?_) rfl (by decide) ?_ ?_ fun r2 => ?_)
    · rw [addr_add, Nat.zero_add]; exact hw.cell (i := 0) rfl hu
    · show (out.length + 1) * 16 ≤ 140737488355328; omega
    · show out.length + 1 ≤ 9223372036854775807; omega
    (repeat (first | refine el_pure rfl rfl rfl rfl ?_ | refine ej_seq ?_ | refine ej_region ?_ | refine el_nil ?_ | refine eq_seq ?_ | refine eq_calm ?_ | refine ej_true rfl ?_ | refine ej_false rfl ?_ | refine el_skip rfl rfl rfl ?_ | refine ej_ret ?_ | refine ej_skip ?_ | refine ej_exit ?_ | refine ej_block ?_ | refine eq_seq_ret ?_ | refine eq_seq_exit ?_ | refine eq_block ?_ | refine eq_block_exit ?_ | refine eq_block_ret ?_ | refine eq_block_exit_ne rfl ?_ | refine eq_back_ret ?_ | refine eq_back_exit ?_))
    refine el_cons rfl (eo_st 1 rfl rfl rfl rfl rfl rfl rfl rfl rfl ?_)
    (repeat (first | refine el_pure rfl rfl rfl rfl ?_ | refine ej_seq ?_ | refine ej_region ?_ | refine el_nil ?_ | refine eq_seq ?_ | refine eq_calm ?_ | refine ej_true rfl ?_ | refine ej_false rfl ?_ | refine el_skip rfl rfl rfl ?_ | refine ej_ret ?_ | refine ej_skip ?_ | refine ej_exit ?_ | refine ej_block ?_ | refine eq_seq_ret ?_ | refine eq_seq_exit ?_ | refine eq_block ?_ | refine eq_block_exit ?_ | refine eq_block_ret ?_ | refine eq_block_exit_ne rfl ?_ | refine eq_back_ret ?_ | refine eq_back_exit ?_))
    refine eq_end [] rvs_nil fun w hw => ⟨rfl, ?_⟩
    refine au_close (x := { x with r := r2 }) hx w ?_
    have h1 := hw.erase 0
    rw [← rows_snoc] at h1
    have e : (out ++ [(⟨kind, num⟩ : Fnd)]).length = out.length + 1 := by simp
    rw [if_pos rfl, auL, e]
    exact h1

end Go.Proofs.Ytkpbpjnabbfdiaa
