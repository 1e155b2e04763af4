/- Proved: LifeEvenCard_holds of this seat, for every input that its row lets in. Merged by a program of mine (merge.py) of my texts. -/
import Derived.Test.YtpbnjifefoniiaaGreatDoorQa
import Derived.Laws.Externs
import Derived.Laws.LoneSync
import Derived.Test.YtpbnjifefoniiaaGreatDoorProg
open Go Go.SE
namespace Go.SE
variable {C : Cx} {n : Nat} {Q : Kont} {e : Env} {H : WP} {ops : Array Oper} {rest : List Oper} {o : Oper} {k : Env → WP → Prop} {w0 w : World} {l hs : List HP}
def Kont.flat : Kont → Bool
  | .done _ _ => true
  | .seq _ k => k.flat
  | .block _ k => k.flat
  | .back .. => false
  | .calm k => k.flat
  | .any _ => true
  | .mid .. => false
  | .stop k => k.flat
theorem post_flat (C : Cx) (n : Nat) (ds : List Deferred) : ∀ (Q : Kont), Q.flat = true → Q.post { C with dfs := ds } n = Q.post C n
  | .done _ _, _ => rfl
  | .seq c k, h => by simp only [Kont.post, post_flat C n ds k h]
  | .block i k, h => by simp only [Kont.post, post_flat C n ds k h]
  | .calm k, h => by simp only [Kont.post, post_flat C n ds k h]
  | .any _, _ => rfl
  | .stop k, h => by simp only [Kont.post, post_flat C n ds k h]
theorem eq_any {x : Exit} {Q : Post} (h : ∀ a w, H w → Q x a w) : EQ C n x (.any Q) e H := ⟨fun a w _ hw => h a w hw⟩
theorem eq_mid {E : Env} {W : WP} (h : le E e) (hw : ∀ w, H w → W w) : EQ C n .normal (.mid E W) e H := ⟨fun _ w hf h' => ⟨hf.mono h, hw w h'⟩⟩
def Yld (C : Cx) (y : Value) (args : List Value) (H : WP) (R : Bool → WP) : Prop :=
  ∀ (r : Option Nat) (ds : List Deferred) (n : Nat) (Q : Kont) (e : Env) (k : Env → WP → Prop) (o : Oper) (c : Call) (d : Nat) (x : Operand), o.op = .call c → c.callee = .value x → ev e x = some y → evs e c.args.toList = some args → o.dst = some d → Nat.ble n d = false →
    (∀ b, k ((d, .bool b) :: e) (R b)) → EO { C with rnd := r, dfs := ds } n o Q e H k
theorem yld_of {f : FuncId} {first capt args : List Value} {R : Bool → WP} (hr : Real C.P f) (h : Does C f (first ++ args ++ capt) H fun v w => ∃ b, v = .bool b ∧ R b w) : Yld C (.func (.func f) first.toArray capt.toArray) args H R := by
  intro r ds n Q e k o c d x ho hc hx ha hd hn hk
  have hcal : callee e c.callee = some (f, first, capt) := by rw [hc]; simp [callee, hx]
  refine eo_callx (V := fun b => .bool b) (φ := fun _ => True) (H' := R) ho hd hn hcal ha hr (Does.mono (C := C) h (fun _ h => h) fun v w ⟨b, h1, h2⟩ => ⟨b, h1, trivial, h2⟩) fun b _ => hk b
theorem eo_yield {c : Call} {d : Nat} {x : Operand} {y : Value} {args : List Value} {R : Bool → WP} {C0 : Cx} (hy : Yld C0 y args H R) (hC : C = { C0 with rnd := C.rnd, dfs := C.dfs }) (ho : o.op = .call c) (hc : c.callee = .value x) (hx : ev e x = some y) (ha : evs e c.args.toList = some args) (hd : o.dst = some d) (hn : Nat.ble n d = false)
    (h : ∀ b, k ((d, .bool b) :: e) (R b)) : EO C n o Q e H k := by
  rw [hC]
  exact hy _ _ n Q e k o c d x ho hc hx ha hd hn h
theorem Yld.mono {y : Value} {args : List Value} {H' : WP} {R R' : Bool → WP} (h : Yld C y args H R) (hH : ∀ w, H' w → H w) (hR : ∀ b w, R b w → R' b w) : Yld C y args H' R' := by
  intro r ds n Q e k o c d x ho hc hx ha hd hn hk
  refine ⟨fun K hK a w hf hw => ?_⟩
  refine (h r ds n Q e (fun e' H'' => ∀ a w, Fits ds n e' a → H'' w → K a w) o c d x ho hc hx ha hd hn fun b => ?_).run K (fun _ _ h => h) a w hf (hH w hw)
  exact fun a w hf hw => hK _ _ (hk b) a w hf (hR b w hw)
def loopO (L : Nat) (rec : LoopState → Option Code → Loop) (p : Option Code) : HP := pt L (.loop (rec (if p.isNone then .ready else .done) p))
abbrev dfO (D : Nat) : HP := pt D (.deferred (some []))
abbrev markOf (D : Nat) : Deferred := { target := .collected D, args := #[] }
theorem S.put {i b : Nat} {o1 : Obj} (o2 : Obj) (h : S w0 l w) (hi : l[i]? = some (pt b o1)) : S w0 (l.set i (pt b o2)) (w.putObj b o2) := by
  have hlt := h.lt hi
  exact h.turn hi rfl rfl rfl (Nat.le_refl _) (by simp [World.putObj]) (World.putObj_heap_same hlt) (fun x hx => World.putObj_heap_other hx)
def parEnv : List Nat → List Value → Env
  | p :: ps, v :: vs => parEnv ps vs ++ [(p, v)]
  | _, _ => []
theorem ej_rangeFunc {σ α : Type} {g : Operand} {ps : Array Tmp} {assign body : Code} {gf : FuncId} {lb : List Value} (enc : α → List Value) (I : List α → σ → Prop) (Ix : Code → List α → σ → Prop) (Fin : List α → Prop) (Pm : List α → α → Prop) (L : σ → List HP) (s0 : σ) (E1 : α → Env)
    (hg : ev e g = some (.func (.func gf) #[] lb.toArray)) (hr : Real C.P gf) (hro : C.rnd = none) (hQ : Q.flat = true) (hps : ∀ x, (enc x).length = ps.size) (hpn : ∀ p ∈ ps.toList, Nat.ble n p = false)
    (hiter : ∀ (y : Value) (a : Option Code → HP) (b : HP) (M : σ × Option Code → List HP), (∀ s, M s = a s.2 :: b :: L s.1) →
      (∀ (pre : List α) (x : α) (s : σ) (fr : List HP), Pm pre x → I pre s → Yld C y (enc x) (S w0 (fr ++ M (s, none))) fun t w => ∃ s', (if t then s'.2 = none ∧ I (pre ++ [x]) s'.1 else ∃ c, s'.2 = some c ∧ Ix c (pre ++ [x]) s'.1) ∧ S w0 (fr ++ M s') w) →
      Does C gf (y :: lb) (S w0 (M (s0, none))) fun _ w => ∃ s', ((s'.2 = none ∧ ∃ xs, Fin xs ∧ I xs s'.1) ∨ ∃ c pre, s'.2 = some c ∧ Ix c pre s'.1) ∧ S w0 (M s') w)
    (hassign : ∀ (m : Nat) (x : α) (H : WP), EJ { C with rnd := some m, dfs := [] } n assign (.mid (E1 x) H) (parEnv ps.toList (enc x) ++ e) H)
    (hbody : ∀ (m : Nat) (pre : List α) (x : α) (s : σ) (fr : List HP), Pm pre x → I pre s →
      EJ { C with rnd := some m, dfs := [] } n body (.any fun t _ w => ∃ s', (match t with | .normal => I (pre ++ [x]) s' | .ret => Ix .ret (pre ++ [x]) s' | .exit i => Ix (.exit i) (pre ++ [x]) s' | _ => False) ∧ S w0 (fr ++ L s') w) (E1 x) (S w0 (fr ++ L s)))
    (hdone : ∀ (D : Nat) (xs : List α) (s : σ), Fin xs → I xs s → EQ { C with dfs := markOf D :: C.dfs } n .normal Q e (S w0 (dfO D :: L s)))
    (hstop : ∀ (D : Nat) (c : Code) (pre : List α) (s : σ), Ix c pre s → EJ { C with dfs := markOf D :: C.dfs } n c Q e (S w0 (dfO D :: L s))) :
    EJ C n (.rangeFunc g ps assign body) Q e (S w0 (L s0)) := by
  refine ⟨fun a w hf hw => ?_⟩
  refine wpIn_rangeFunc fun fn hfn => ?_
  have hF : C.F = Fr none := by rw [Cx.F, hro]
  have hrd : C.F.round = none := by rw [hF]; rfl
  rw [hrd]
  obtain ⟨rec, hrec⟩ : ∃ rec : LoopState → Option Code → Loop, rec = fun st pe => { state := st, pending := pe, fn, tmps := a.tmps, params := ps, assign, body, defers := w.heap.size } := ⟨_, rfl⟩
  obtain ⟨W1, hW1⟩ : ∃ W1, (w.alloc (.deferred (some []))).alloc (.loop (rec .ready none)) = W1 := ⟨_, rfl⟩
  have hw1 : S w0 (loopO (w.heap.size + 1) rec none :: dfO w.heap.size :: L s0) W1 := by
    have h1 := hw.alloc (.deferred (some []))
    have h2 := h1.alloc (.loop (rec .ready none))
    rw [hW1] at h2
    rw [show (w.alloc (.deferred (some []))).heap.size = w.heap.size + 1 from World.size_alloc ..] at h2
    exact h2
  refine ⟨w.heap.size + 1, [markOf w.heap.size], W1, { target := .fn (.func gf) lb.toArray, args := #[.func (.yield (w.heap.size + 1)) #[] #[]] }, W1, gf,
    #[.func (.yield (w.heap.size + 1)) #[] #[]] ++ lb.toArray, W1, ?_, ?_, ?_, ?_, fun h => ?_, ?_⟩
  · rw [← hW1, hrec]; exact run_enterLoop_outer _ _ _ _ _
  · simp only [resolve, hf.ev hg]
    simp [go_sem]
  · intro f' hf'; exact trivial
  · obtain ⟨fn', h1, h2, h3⟩ := hr
    simp [invoke, go_sem, callFunc_run h1 h2 h3]
  · rw [hF] at h; cases h
  · rw [hF, show #[Value.func (Fn.yield (w.heap.size + 1)) #[] #[]] ++ lb.toArray = (Value.func (Fn.yield (w.heap.size + 1)) #[] #[] :: lb).toArray by simp]
    refine CallsIn.mono (calls_in (m := 0) (hiter (.func (.yield (w.heap.size + 1)) #[] #[]) (loopO (w.heap.size + 1) rec) (dfO w.heap.size) (fun s => loopO (w.heap.size + 1) rec s.2 :: dfO w.heap.size :: L s.1) (fun s => rfl) ?_ W1 hw1)) ?_
    ·
      intro pre x s fr hpm hI
      intro r ds n' Q' e' k o c d xo ho hc hx ha hd hn hk
      refine ⟨fun K hK a' w' hf' hw' => ⟨fun _ _ => trivial, ?_⟩⟩
      have hfl : (fr ++ loopO (w.heap.size + 1) rec none :: dfO w.heap.size :: L s)[fr.length]? = some (pt (w.heap.size + 1) (.loop (rec .ready none))) := by simp [loopO]
      have hL := hw'.get hfl
      have hsz : (enc x).toArray.size = ps.size := by simp [hps]
      have hy := run_yield (P := C.P) (args := (enc x).toArray) hL (by rw [hrec]; exact hsz)
      have hex : (execOp a'.eval o).run C.P w' = .ok (.round (w.heap.size + 1) fn ((ps.zip (enc x).toArray).foldl (fun t (p, v) => t.setIfInBounds p v) a.tmps) assign body) w' := by
        unfold execOp
        rw [ho]
        obtain ⟨cl, ags, ts⟩ := c
        have hc' : cl = .value xo := hc
        subst hc'
        have hargs := evs_arr hf' ha
        simp only at hargs
        simp only [resolve, Sem.run_bind, hf'.ev hx, hargs, Deferred.ofValue, Sem.run_pure, Result.andThen_ok, invoke]
        rw [hrec] at hy
        simp at hy ⊢
        exact hy
      rw [sem_at _ hex (by simp), Oper.uponIn_round]
      refine ⟨fun h => (by cases h), RoundIn.mono (R := fun t w'' => ∃ b, t = .returned (.bool b) ∧ ∃ s' : σ × Option Code, (if b then s'.2 = none ∧ I (pre ++ [x]) s'.1 else ∃ c, s'.2 = some c ∧ Ix c (pre ++ [x]) s'.1) ∧ S w0 (fr ++ (loopO (w.heap.size + 1) rec s'.2 :: dfO w.heap.size :: L s'.1)) w'') (roundIn_of_wpIn (F := Fr r) trivial ?_) ?_⟩
      · have hset : (fr ++ loopO (w.heap.size + 1) rec none :: dfO w.heap.size :: L s).set fr.length (pt (w.heap.size + 1) (.loop { rec .ready none with state := .busy })) = (fr ++ [pt (w.heap.size + 1) (.loop { rec .ready none with state := .busy }), dfO w.heap.size]) ++ L s := by simp
        have hpe : ∀ (qs : List Nat) (vs : List Value) (T : Array Value), (∀ p ∈ qs, Nat.ble n p = false) → Fits [] n e { tmps := T, defers := [] } →
            Fits [] n (parEnv qs vs ++ e) { tmps := (qs.zip vs).foldl (fun t (p, v) => t.setIfInBounds p v) T, defers := [] } := by
          intro qs
          suffices hgen : ∀ (qs : List Nat) (vs : List Value) (T : Array Value) (e1 : Env), (∀ p ∈ qs, Nat.ble n p = false) → Fits [] n e1 { tmps := T, defers := [] } →
            Fits [] n (parEnv qs vs ++ e1) { tmps := (qs.zip vs).foldl (fun t (p, v) => t.setIfInBounds p v) T, defers := [] } from fun vs T => hgen qs vs T e
          intro qs
          induction qs with
          | nil => intro vs T e1 _ h; simpa [parEnv] using h
          | cons p qs ih =>
            intro vs T e1 hp h
            cases vs with
            | nil => simpa [parEnv] using h
            | cons v vs =>
              simp only [parEnv, List.zip_cons_cons, List.foldl_cons, List.append_assoc, List.cons_append, List.nil_append]
              exact ih vs _ _ (fun q hq => hp q (by simp [hq])) (h.put (hp p (by simp)) v)
        have hfit := hpe ps.toList (enc x) a.tmps hpn ⟨hf.size, rfl, hf.slot⟩
        have hfold : (ps.toList.zip (enc x)).foldl (fun t (p, v) => t.setIfInBounds p v) a.tmps = (ps.zip (enc x).toArray).foldl (fun t (p, v) => t.setIfInBounds p v) a.tmps := by
          rw [← Array.foldl_toList, Array.toList_zip]
        rw [hfold] at hfit
        refine wpIn_mono ((hassign (w.heap.size + 1) x (S w0 (fr ++ loopO (w.heap.size + 1) rec none :: dfO w.heap.size :: L s))).run _ _ hfit hw') ?_
        intro t1 a1 w1 ht1
        cases t1 <;> try exact ht1.elim
        obtain ⟨hfit1, hw1⟩ := ht1
        have hL1 := hw1.get hfl
        refine ⟨_, run_beginRound hL1 (by rw [hrec]), ?_⟩
        have hw2 := hw1.put (.loop { rec .ready none with state := .busy }) hfl
        rw [hset] at hw2
        refine wpIn_mono ((hbody (w.heap.size + 1) pre x s _ hpm hI).run _ _ hfit1 hw2) ?_
        intro t a3 w3 ht
        obtain ⟨s', h1, h2⟩ := ht
        have hfl3 : (fr ++ [pt (w.heap.size + 1) (.loop { rec .ready none with state := .busy }), dfO w.heap.size] ++ L s')[fr.length]? = some (pt (w.heap.size + 1) (.loop { rec .ready none with state := .busy })) := by simp
        have hL3 := h2.get hfl3
        have fin : ∀ (jump : Option Code), (Instr.endRound (w.heap.size + 1) jump).run C.P w3 = .ok (.bool jump.isNone) (w3.putObj (w.heap.size + 1) (.loop (rec (if jump.isNone then .ready else .done) jump))) ∧
            S w0 (fr ++ (loopO (w.heap.size + 1) rec jump :: dfO w.heap.size :: L s')) (w3.putObj (w.heap.size + 1) (.loop (rec (if jump.isNone then .ready else .done) jump))) := by
          intro jump
          constructor
          · have := run_endRound (P := C.P) jump hL3
            rw [hrec] at this ⊢
            exact this
          · have h3 := h2.put (.loop (rec (if jump.isNone then .ready else .done) jump)) hfl3
            have : (fr ++ [pt (w.heap.size + 1) (.loop { rec .ready none with state := .busy }), dfO w.heap.size] ++ L s').set fr.length (pt (w.heap.size + 1) (.loop (rec (if jump.isNone then .ready else .done) jump))) = fr ++ (loopO (w.heap.size + 1) rec jump :: dfO w.heap.size :: L s') := by simp [loopO]
            rw [this] at h3; exact h3
        cases t with
        | normal => exact ⟨_, _, (fin none).1, true, rfl, (s', none), by simpa using h1, (fin none).2⟩
        | ret => exact ⟨_, _, (fin (some .ret)).1, false, rfl, (s', some .ret), by simpa using h1, (fin (some .ret)).2⟩
        | exit i => exact ⟨_, _, (fin (some (.exit i))).1, false, rfl, (s', some (.exit i)), by simpa using h1, (fin (some (.exit i))).2⟩
        | goto t => exact h1.elim
        | panic ch => exact h1.elim
        | outgrown => exact h1.elim
      · rintro t w'' ⟨b, rfl, hR⟩
        simp only [hd]
        exact hK _ _ (hk b) _ _ (hf'.put hn _) hR
    · rintro t w2 ⟨v, rfl, s', hs, hw2⟩
      have hfl : (loopO (w.heap.size + 1) rec s'.2 :: dfO w.heap.size :: L s'.1)[0]? = some (pt (w.heap.size + 1) (.loop (rec (if s'.2.isNone then .ready else .done) s'.2))) := rfl
      have hL := hw2.get hfl
      have hend := run_endLoop (P := C.P) hL (by rw [hrec]; cases s'.2 <;> simp)
      have hw3 := (hw2.put (.loop { rec (if s'.2.isNone then .ready else .done) s'.2 with state := .exhausted }) hfl).erase 0
      refine ⟨_, _, hend, ?_⟩
      have hfit : Fits (markOf w.heap.size :: C.dfs) n e { a with defers := [markOf w.heap.size] ++ a.defers } := ⟨hf.size, by simp [hf.defers], hf.slot⟩
      rcases hs with ⟨hn, xs, hfin, hI⟩ | ⟨c, pre, hc, hI⟩
      · have h1 : (rec (if s'.2.isNone then .ready else .done) s'.2).pending = none := by rw [hrec, hn]
        have := (hdone w.heap.size xs s'.1 hfin hI).run _ _ hfit hw3
        rw [post_flat C n _ Q hQ] at this
        split
        · exact this
        · rename_i c heq; rw [h1] at heq; cases heq
      · have h1 : (rec (if s'.2.isNone then .ready else .done) s'.2).pending = some c := by rw [hrec, hc]
        have := (hstop w.heap.size c pre s'.1 hI).run _ _ hfit hw3
        rw [post_flat C n _ Q hQ] at this
        have h2 : ({ C with dfs := markOf w.heap.size :: C.dfs } : Cx).F = Fr none := by simp only [Cx.F, hro]
        rw [h2] at this
        split
        · rename_i heq; rw [h1] at heq; cases heq
        · rename_i c' heq
          rw [h1] at heq
          cases heq
          exact this
theorem take_run {P : Program} {D : Nat} (h : w.heap[D]? = some (.deferred (some []))) : (Instr.takeDeferred D).run P w = .ok [] (w.putObj D (.deferred none)) := by
  have hlt := (Array.getElem?_eq_some_iff.1 h).1
  have hg : w.heap[D] = .deferred (some []) := (Array.getElem?_eq_some_iff.1 h).2
  simp [Instr.takeDeferred, getObj, setObj, Sem.run, World.putObj, hlt, hg]
theorem eq_mark (i : Nat) {D : Nat} {ds : List Deferred} {fn : Func} {R : Value → WP} (hds : C.dfs = markOf D :: ds) (hi : l[i]? = some (dfO D)) (h : EQ { C with dfs := ds } n .ret (.done fn R) e (S w0 (l.eraseIdx i))) : EQ C n .ret (.done fn R) e (S w0 l) := by
  refine ⟨fun a w hf hw => ?_⟩
  show LeavesInM _ _ _ _ _ _ _ _ _
  rw [hf.defers, hds]
  refine ⟨by simp, .inl ⟨D, _, rfl, take_run (hw.get hi), ?_⟩⟩
  have h1 := hw.put (.deferred none) hi
  have h2 := h1.erase i
  have h3 : (l.set i (pt D (.deferred none))).eraseIdx i = l.eraseIdx i := by
    refine List.ext_getElem? fun j => ?_
    rw [List.getElem?_eraseIdx, List.getElem?_eraseIdx]
    split
    · rw [List.getElem?_set_ne (by omega)]
    · rw [List.getElem?_set_ne (by omega)]
  rw [h3] at h2
  exact h.run { a with defers := ds } _ ⟨hf.size, rfl, hf.slot⟩ h2
end Go.SE
open Go Go.SE
open Go.ChangeMaps (setBlock)
open Go.MapKept
namespace Go.SE
section
variable {α : Type} (key : α → Int)
def kfind (L : List α) (x : Int) : Option α := L.find? fun a => decide (key a = x)
def kupd (L : List α) (x : Int) (f : α → α) : List α := L.map fun a => if key a = x then f a else a
def kidx (L : List α) (x : Int) : Int := match L.findIdx? (fun a => decide (key a = x)) with
  | some i => (i : Int)
  | none => -1
def Nod (L : List α) : Prop := (L.map key).Nodup
def Srt (L : List α) : Prop := (L.map key).Pairwise (· < ·)
variable {key} {L : List α} {x : Int} {a : α}
theorem Srt.nod (h : Srt key L) : Nod key L := h.imp fun h e => by omega
theorem kfind_mem (h : kfind key L x = some a) : a ∈ L := List.mem_of_find?_eq_some h
theorem kfind_key (h : kfind key L x = some a) : key a = x := by simpa using List.find?_some h
theorem kfind_none : kfind key L x = none ↔ ∀ a ∈ L, key a ≠ x := by simp [kfind]
theorem nod_cons {b : α} : Nod key (b :: L) ↔ (∀ c ∈ L, key c ≠ key b) ∧ Nod key L := by
  simp only [Nod, List.map_cons, List.nodup_cons, List.mem_map, not_exists, not_and]
theorem kfind_of (h : Nod key L) (hm : a ∈ L) : kfind key L (key a) = some a := by
  induction L with
  | nil => cases hm
  | cons b L ih =>
    rw [nod_cons] at h
    simp only [kfind, List.find?_cons]
    rcases List.mem_cons.1 hm with rfl | hm
    · simp
    · have : ¬ key b = key a := fun e => h.1 a hm e.symm
      simp only [this, decide_false]
      exact ih h.2 hm
theorem kfind_iff (h : Nod key L) : kfind key L x = some a ↔ a ∈ L ∧ key a = x :=
  ⟨fun h => ⟨kfind_mem h, kfind_key h⟩, fun ⟨h1, h2⟩ => h2 ▸ kfind_of h h1⟩
theorem kfind_perm {L' : List α} (h : Nod key L) (hp : L.Perm L') : kfind key L' x = kfind key L x := by
  have h' : Nod key L' := (hp.map key).nodup h
  cases hf : kfind key L x with
  | none => rw [kfind_none] at hf ⊢; exact fun a ha => hf a (hp.mem_iff.2 ha)
  | some a => rw [kfind_iff h] at hf; rw [kfind_iff h']; exact ⟨hp.mem_iff.1 hf.1, hf.2⟩
theorem kidx_of {i : Nat} (h : Nod key L) (hi : L[i]? = some a) : kidx key L (key a) = i := by
  have hm := List.mem_of_getElem? hi
  have hlt := (List.getElem?_eq_some_iff.1 hi).1
  have hai := (List.getElem?_eq_some_iff.1 hi).2
  unfold kidx
  split
  · rename_i j hj
    obtain ⟨hjl, hp, _⟩ := List.findIdx?_eq_some_iff_getElem.1 hj
    have hp : key L[j] = key a := by simpa using hp
    by_cases hij : j = i
    · rw [hij]
    · exfalso
      have := nodup_ne (l := L.map key) h (i := j) (j := i) (by simpa using hjl) (by simpa using hlt) hij
      simp only [List.getElem_map, hai] at this
      exact this hp
  · rename_i hj
    simp only [List.findIdx?_eq_none_iff] at hj
    have := hj a hm
    simp at this
theorem kupd_set {i : Nat} {b : α} (h : Nod key L) (hi : L[i]? = some a) : L.set i b = kupd key L (key a) fun _ => b := by
  have hlt := (List.getElem?_eq_some_iff.1 hi).1
  refine List.ext_getElem (by simp [kupd]) fun j h1 h2 => ?_
  simp only [kupd, List.getElem_map, List.getElem_set]
  have hjl : j < L.length := by simpa using h1
  by_cases hij : i = j
  · subst hij
    have := (List.getElem?_eq_some_iff.1 hi).2
    simp [this]
  · rw [if_neg hij]
    have hj : L[j]? = some L[j] := by simp [hjl]
    by_cases he : key L[j] = key a
    · have e1 := kidx_of h hi
      have e2 := kidx_of h hj
      rw [he, e1] at e2
      omega
    · rw [if_neg he]
theorem kupd_keys {f : α → α} (hf : ∀ a, key (f a) = key a) : (kupd key L x f).map key = L.map key := by
  simp only [kupd, List.map_map]
  refine List.map_congr_left fun a _ => ?_
  simp only [Function.comp]
  split <;> simp [hf]
theorem Srt.upd {f : α → α} (h : Srt key L) (hf : ∀ a, key (f a) = key a) : Srt key (kupd key L x f) := by rw [Srt, kupd_keys hf]; exact h
theorem Srt.snoc {b : α} (h : Srt key L) (hb : ∀ a ∈ L, key a < key b) : Srt key (L ++ [b]) := by
  rw [Srt, List.map_append, List.pairwise_append]
  exact ⟨h, by simp, fun u hu v hv => by
    obtain ⟨c, hc, rfl⟩ := List.mem_map.1 hu
    simp at hv; subst hv; exact hb c hc⟩
theorem kupd_mem {f : α → α} {b : α} : b ∈ kupd key L x f ↔ (b ∈ L ∧ key b ≠ x) ∨ ∃ a ∈ L, key a = x ∧ f a = b := by
  simp only [kupd, List.mem_map]
  constructor
  · rintro ⟨a, ha, he⟩
    by_cases h : key a = x
    · rw [if_pos h] at he; exact .inr ⟨a, ha, h, he⟩
    · rw [if_neg h] at he; subst he; exact .inl ⟨ha, h⟩
  · rintro (⟨h1, h2⟩ | ⟨a, ha, h, he⟩)
    · exact ⟨b, h1, by rw [if_neg h2]⟩
    · exact ⟨a, ha, by rw [if_pos h]; exact he⟩
theorem kupd_none {f : α → α} (h : kfind key L x = none) : kupd key L x f = L := by
  rw [kfind_none] at h
  refine List.ext_getElem (by simp [kupd]) fun j h1 h2 => ?_
  simp only [kupd, List.getElem_map]
  rw [if_neg (h _ (List.getElem_mem h2))]
def kins (L : List α) (b : α) : List α := match L with
  | [] => [b]
  | a :: r => if key a < key b then a :: kins r b else b :: a :: r
theorem kins_perm {b : α} : (kins (key := key) L b).Perm (b :: L) := by
  induction L with
  | nil => exact List.Perm.refl _
  | cons a r ih =>
    simp only [kins]
    split
    · exact (ih.cons a).trans (List.Perm.swap b a r)
    · exact List.Perm.refl _
theorem Srt.ins {b : α} (h : Srt key L) (hb : ∀ a ∈ L, key a ≠ key b) : Srt key (kins (key := key) L b) := by
  induction L with
  | nil => simp [kins, Srt]
  | cons a r ih =>
    have h1 := List.pairwise_map.1 h
    rw [List.pairwise_cons] at h1
    have hr : Srt key r := List.pairwise_map.2 h1.2
    simp only [kins]
    split
    · rename_i hlt
      refine List.pairwise_map.2 (List.pairwise_cons.2 ⟨fun c hc => ?_, List.pairwise_map.1 (ih hr fun c hc => hb c (by simp [hc]))⟩)
      rcases List.mem_cons.1 (kins_perm.mem_iff.1 hc) with rfl | hc
      · exact hlt
      · exact h1.1 c hc
    · rename_i hlt
      have hab : key b < key a := by have := hb a (by simp); omega
      refine List.pairwise_map.2 (List.pairwise_cons.2 ⟨fun c hc => ?_, List.pairwise_map.1 h⟩)
      rcases List.mem_cons.1 hc with rfl | hc
      · exact hab
      · have := h1.1 c hc; omega
end
variable {C : Cx} {n : Nat} {Q : Kont} {e : Env} {H : WP} {ops : Array Oper} {rest : List Oper} {o : Oper} {k : Env → WP → Prop} {w0 w : World} {l hs : List HP} {α : Type} {key : α → Int} {enc : α → Value} {L : List α}
abbrev ents (key : α → Int) (enc : α → Value) (L : List α) : List (Int × Value) := L.map fun a => (key a, enc a)
def mapL (b : Nat) (key : α → Int) (enc : α → Value) (L : List α) : HP := fun h => ∃ kvs, kvs.Perm (ents key enc L) ∧ mapO b .i64 kvs h
theorem mapL_open {i b : Nat} (h : S w0 l w) (hi : l[i]? = some (mapL b key enc L)) : ∃ kvs, kvs.Perm (ents key enc L) ∧ S w0 (l.set i (mapO b .i64 kvs)) w := by
  obtain ⟨⟨kvs, hp⟩, hS⟩ := h.ex hi (α := { kvs : List (Int × Value) // kvs.Perm (ents key enc L) }) (q := fun x => mapO b .i64 x.1) fun h ⟨kvs, h1, h2⟩ => ⟨⟨kvs, h1⟩, h2⟩
  exact ⟨kvs, hp, hS⟩
theorem ents_keys : (ents key enc L).map (·.1) = L.map key := by simp [ents, Function.comp]
theorem perm_nod {kvs : List (Int × Value)} (hp : kvs.Perm (ents key enc L)) (hn : (kvs.map (·.1)).Nodup) : Nod key L := by
  have := (hp.map (·.1)).nodup hn
  rw [ents_keys] at this; exact this
theorem kget_ents {kvs : List (Int × Value)} (hp : kvs.Perm (ents key enc L)) (hn : (kvs.map (·.1)).Nodup) (x : Int) : kget kvs x = (kfind key L x).map enc := by
  have hnL := perm_nod hp hn
  have h1 : kfind (fun p : Int × Value => p.1) (ents key enc L) x = kfind (fun p : Int × Value => p.1) kvs x := kfind_perm (key := fun p : Int × Value => p.1) hn hp
  have h2 : kget kvs x = (kfind (fun p : Int × Value => p.1) kvs x).map (·.2) := rfl
  rw [h2, ← h1]
  simp only [kfind, ents, List.find?_map, Option.map_map]
  rfl
def lookL (key : α → Int) (enc : α → Value) (L : List α) (x : Int) (z : Value) (ok : Bool) : Value :=
  if ok then .tuple #[((kfind key L x).map enc).getD z, .bool (kfind key L x).isSome] else ((kfind key L x).map enc).getD z
theorem lookV_ents {kvs : List (Int × Value)} (hp : kvs.Perm (ents key enc L)) (hn : (kvs.map (·.1)).Nodup) (x : Int) (z : Value) (ok : Bool) : lookV kvs x z ok = lookL key enc L x z ok := by
  rw [lookV, lookL, kget_ents hp hn, Option.isSome_map]
theorem er_lookL {i : Nat} {b t kt et : Nat} {x y : Operand} {ok : Bool} {tl tk te : TI} {a : Int} (ho : o.op = .lookup t x y ok)
    (hx : ev e x = some (.map (some b))) (hy : ev e y = some (.int .i64 a)) (ht : C.L.ti t = some tl) (hk : tl.kind = .map kt et) (htk : C.L.ti kt = some tk) (hkk : tk.kind = .int .i64) (hte : C.L.ti et = some te)
    {I : WP} (hI : ∀ w, I w → ∃ l, S w0 l w ∧ l[i]? = some (mapL b key enc L)) : ER C n o e I (lookL key enc L a te.zero ok) := by
  refine ⟨fun ac w hf hw => ?_⟩
  obtain ⟨l, hS, hi⟩ := hI w hw
  obtain ⟨kvs, hp, hS⟩ := mapL_open hS hi
  have hil := (List.getElem?_eq_some_iff.1 hi).1
  obtain ⟨es, clock, _, hE, hb⟩ := map_open (b := b) (K := .i64) (kvs := kvs) hS (i := i) (by simp [hil])
  unfold execOp
  rw [ho]
  simp only [Sem.run_bind, hf.ev hx, hf.ev hy, look_run ht hk htk hkk hte hb hE, Result.andThen_ok, Sem.run_pure, lookV_ents hp hE.keys]
theorem Lk {i d b t kt et : Nat} {x y : Operand} {ok : Bool} {tl tk te : TI} {a : Int} (h : EL C n rest ops Q ((d, lookL key enc L a te.zero ok) :: e) (S w0 l)) (hg : want ops e o = some true := by exact rfl) (ho : o.op = .lookup t x y ok := by exact rfl) (hd : o.dst = some d := by exact rfl) (hn : Nat.ble n d = false := by exact rfl)
    (hx : ev e x = some (.map (some b)) := by exact rfl) (hy : ev e y = some (.int .i64 a) := by exact rfl) (ht : C.L.ti t = some tl := by exact rfl) (hk : tl.kind = .map kt et := by exact rfl) (htk : C.L.ti kt = some tk := by exact rfl) (hkk : tk.kind = .int .i64 := by exact rfl) (hte : C.L.ti et = some te := by exact rfl)
    (hi : l[i]? = some (mapL b key enc L) := by first | exact at0 | exact at1 | exact at2 | exact at3 | exact at4 | exact at5 | exact at6 | exact at7 | exact at8 | exact at9 | exact at10 | exact at11 | exact at12 | exact at13 | exact at14 | exact at15) : EL C n (o :: rest) ops Q e (S w0 l) :=
  el_cons hg (eo_er hd hn (er_lookL ho hx hy ht hk htk hkk hte fun _ hw => ⟨l, hw, hi⟩) h)
theorem kput_mem {kvs : List (Int × Value)} (hp : kvs.Perm (ents key enc L)) {a' : α} (f : α → α) (ha : (kfind key L (key a')).isSome = true) (hf : ∀ a ∈ L, key a = key a' → f a = a') : (kput kvs (key a') (enc a')).Perm (ents key enc (kupd key L (key a') f)) := by
  obtain ⟨a0, h0⟩ := Option.isSome_iff_exists.1 ha
  have hany : kvs.any (fun p => decide (p.1 = key a')) = true := by
    rw [List.any_eq_true]
    exact ⟨(key a0, enc a0), hp.mem_iff.2 (List.mem_map.2 ⟨a0, kfind_mem h0, rfl⟩), by simp [kfind_key h0]⟩
  rw [kput, if_pos hany]
  refine (hp.map _).trans (List.Perm.of_eq ?_)
  simp only [ents, kupd, List.map_map]
  refine List.map_congr_left fun a ha => ?_
  simp only [Function.comp]
  by_cases h : key a = key a'
  · rw [if_pos h, if_pos h, hf a ha h]
  · rw [if_neg h, if_neg h]
theorem kput_new {kvs : List (Int × Value)} (hp : kvs.Perm (ents key enc L)) {a' : α} (ha : kfind key L (key a') = none) : (kput kvs (key a') (enc a')).Perm (ents key enc (L ++ [a'])) := by
  rw [kfind_none] at ha
  have hany : kvs.any (fun p => decide (p.1 = key a')) = false := by
    rw [List.any_eq_false]
    intro p hp'
    obtain ⟨a, h1, rfl⟩ := List.mem_map.1 (hp.mem_iff.1 hp')
    simpa using ha a h1
  rw [kput, if_neg (by rw [hany]; decide)]
  simp only [ents, List.map_append, List.map_cons, List.map_nil]
  exact hp.append_right _
theorem setmap_run {i b : Nat} {K : IntKind} {kvs : List (Int × Value)} {es : List MapEntry} {clock : Nat} (hS : S w0 (l.set i (pt b (.map es.toArray clock))) w) (hil : i < l.length) (hb : w.heap[b]? = some (.map es.toArray clock)) (es' : List MapEntry) (clock' : Nat) (hE : Ents K kvs es' clock') (P : Program) :
    (setObj b (.map es'.toArray clock')).run P w = .ok () (setBlock w b (.map es'.toArray clock')) ∧ S w0 (l.set i (mapO b K kvs)) (setBlock w b (.map es'.toArray clock')) := by
  have hlt := (Array.getElem?_eq_some_iff.1 hb).1
  refine ⟨by simp [setObj, Sem.run, hb, setBlock], ?_⟩
  have h1 := hS.turn (i := i) (o' := .map es'.toArray clock') (w' := setBlock w b (.map es'.toArray clock')) (by simp [hil]; rfl) rfl rfl rfl (Nat.le_refl _) (by simp [setBlock]) (by simp [setBlock, hlt]) (fun x hx => by simp [setBlock, Ne.symm hx])
  have h2 := h1.imp (i := i) (p := pt b (.map es'.toArray clock')) (q := mapO b K kvs) (by simp [hil]) fun h hp => ⟨es', clock', hp, hE⟩
  simpa [List.set_set] using h2
theorem eo_mapsetL (i : Nat) {b t kt et : Nat} {x y z : Operand} {tl tk : TI} {a : Int} {v : Value} (L' : List α) (ho : o.op = .mapUpdate t x y z) (hd : o.dst = none)
    (hx : ev e x = some (.map (some b))) (hy : ev e y = some (.int .i64 a)) (hz : ev e z = some v) (ht : C.L.ti t = some tl) (hk : tl.kind = .map kt et) (htk : C.L.ti kt = some tk) (hkk : tk.kind = .int .i64)
    (hi : l[i]? = some (mapL b key enc L)) (hL : ∀ kvs : List (Int × Value), kvs.Perm (ents key enc L) → (kput kvs a v).Perm (ents key enc L')) (h : k e (S w0 (l.set i (mapL b key enc L')))) : EO C n o Q e (S w0 l) k := by
  refine eo_skip hd (S w0 (l.set i (mapL b key enc L'))) (fun ac w hf hw => ?_) h
  obtain ⟨kvs, hp, hS⟩ := mapL_open hw hi
  have hil := (List.getElem?_eq_some_iff.1 hi).1
  obtain ⟨es, clock, hS2, hE, hb⟩ := map_open (b := b) (K := .i64) (kvs := kvs) hS (i := i) (by simp [hil])
  rw [List.set_set] at hS2
  have hdk := kind_int (C.ok _ _ htk) hkk
  have fin := fun (es' : List MapEntry) (clock' : Nat) (hE' : Ents .i64 (kput kvs a v) es' clock') => setmap_run hS2 hil hb es' clock' hE' C.P
  have shut : ∀ w', S w0 (l.set i (mapO b .i64 (kput kvs a v))) w' → S w0 (l.set i (mapL b key enc L')) w' := fun w' h' => by
    have := h'.imp (i := i) (p := mapO b .i64 (kput kvs a v)) (q := mapL b key enc L') (by simp [hil]) fun h hm => ⟨_, hL _ hp, hm⟩
    simpa [List.set_set] using this
  unfold execOp
  rw [ho]
  simp only [hf.ev hx, hf.ev hy, hf.ev hz, Instr.mapUpdate, Sem.run_bind, run_underlying (kind_map (C.ok _ _ ht) hk), Result.andThen_ok, getObj, Sem.run, hb]
  have hck : (Instr.checkKey false 10000 kt (.int .i64 a)).run C.P w = .ok () w := run_checkKey (d := .int .i64) (k := .int .i64 a) hdk rfl _ 9999
  rw [hck]
  simp only [Result.andThen_ok]
  rcases find_ents hdk hE a w with ⟨h1, _, h3⟩ | ⟨j, p, en, h1, h2, h3, h4, h5, rfl, _, h7⟩
  · rw [h1]
    obtain ⟨f1, f2⟩ := fin _ _ (hE.push v h3)
    refine ⟨_, ?_, shut _ f2⟩
    simp only [Result.andThen_ok, List.push_toArray]
    rw [f1]; rfl
  · rw [h1]
    obtain ⟨f1, f2⟩ := fin _ _ (hE.modify h5 h2 v h7)
    refine ⟨_, ?_, shut _ f2⟩
    have hk1 : ((es.toArray[j]?).map (·.key)).getD (.int .i64 p.1) = .int .i64 p.1 := by
      rw [List.getElem?_toArray, h2]; simp [h3]
    simp only [Result.andThen_ok, Sem.run_bind, hk1]
    rw [run_keyThatStays (d := .int .i64) (k := .int .i64 p.1) rfl]
    simp only [Result.andThen_ok, List.modify_toArray]
    rw [f1]; rfl
theorem Ents.erase {K : IntKind} {kvs : List (Int × Value)} {es : List MapEntry} {clock : Nat} (h : Ents K kvs es clock) (j : Nat) : Ents K (kvs.eraseIdx j) (es.eraseIdx j) clock := by
  refine ⟨by rw [ChangeMaps.map_eraseIdx, h.reads, ← ChangeMaps.map_eraseIdx], ?_, ?_, fun e he => h.older e ((List.eraseIdx_sublist _ _).subset he)⟩
  · exact h.keys.sublist ((List.eraseIdx_sublist _ _).map _)
  · exact h.borns.sublist ((List.eraseIdx_sublist _ _).map _)
def famO (T : Nat) (fs : List (Nat × List Value)) : HP := stars (fs.map fun p => cells p.1 T p.2)
theorem fam_take {T : Nat} {fs : List (Nat × List Value)} {j : Nat} {p : Nat × List Value} (hj : fs[j]? = some p) (f : Hp) (h : famO T fs f) : star (cells p.1 T p.2) (famO T (fs.eraseIdx j)) f := by
  have hp := (perm_front hj).map fun p => cells p.1 T p.2
  exact stars_perm hp h
theorem fam_give {T : Nat} {fs : List (Nat × List Value)} {j : Nat} {p : Nat × List Value} (q : Nat × List Value) (hj : fs[j]? = some p) (f : Hp) (h : star (cells q.1 T q.2) (famO T (fs.eraseIdx j)) f) : famO T (fs.set j q) f := by
  have hp := (set_front (q := q) hj).symm.map fun p => cells p.1 T p.2
  exact stars_perm (l := List.map (fun p : Nat × List Value => cells p.1 T p.2) (q :: fs.eraseIdx j)) hp h
theorem S.take {i j T : Nat} {fs : List (Nat × List Value)} {p : Nat × List Value} (h : S w0 l w) (hi : l[i]? = some (famO T fs)) (hj : fs[j]? = some p) : S w0 (SE.cells p.1 T p.2 :: l.set i (famO T (fs.eraseIdx j))) w := by
  have hil := (List.getElem?_eq_some_iff.1 hi).1
  have h1 := (h.front hi).split (qs := [SE.cells p.1 T p.2, famO T (fs.eraseIdx j)]) fun f hf => by
    obtain ⟨a, b, hd, he, ha, hb⟩ := fam_take hj f hf
    exact ⟨a, b, hd, he, ha, b, fun _ => none, fun _ => .inr rfl, by funext x; simp [uni], hb, trivial⟩
  exact h1.perm ((set_front hi).symm.cons _)
theorem S.give {i j T : Nat} {fs : List (Nat × List Value)} {p : Nat × List Value} {q : Nat × List Value} (h : S w0 (SE.cells q.1 T q.2 :: l.set i (famO T (fs.eraseIdx j))) w) (hi : i < l.length) (hj : fs[j]? = some p) : S w0 (l.set i (famO T (fs.set j q))) w := by
  have hi' : (l.set i (famO T (fs.eraseIdx j)))[i]? = some (famO T (fs.eraseIdx j)) := by simp [hi]
  have h1 := h.perm ((perm_front hi').cons _)
  have h2 := h1.join2 (p := famO T (fs.set j q)) (fun f hf => fam_give q hj f hf)
  refine h2.perm ?_
  have hl : l[i]? = some l[i] := by simp [hi]
  have e1 : (l.set i (famO T (fs.eraseIdx j))).eraseIdx i = l.eraseIdx i := by
    refine List.ext_getElem? fun j => ?_
    rw [List.getElem?_eraseIdx, List.getElem?_eraseIdx]
    split
    · rw [List.getElem?_set_ne (by omega)]
    · rw [List.getElem?_set_ne (by omega)]
  rw [e1]
  exact (set_front hl).symm
end Go.SE
open Go Go.SE
namespace Go.SE
variable {C : Cx} {n : Nat} {Q : Kont} {e : Env} {H : WP} {ops : Array Oper} {rest : List Oper} {o : Oper} {k : Env → WP → Prop} {w0 w : World} {l hs : List HP} {F : Hp}
theorem Ixf {d i : Nat} {x y : Operand} {kd : IntKind} {a : Option Addr} {m c t : Nat} {ix : Int} {xs : List Value} {tl te : TI} {E : TypeId} (hV : Fv w0 F te.size a xs m c) (h : EL C n rest ops Q ((d, .pointer (some ⟨ob a, oo a + ix.toNat * te.size, none⟩)) :: e) (S w0 l))
    (hg : want ops e o = some true := by exact rfl) (ho : o.op = .indexAddr t x y := by exact rfl) (hd : o.dst = some d := by exact rfl) (hn : Nat.ble n d = false := by exact rfl) (hx : ev e x = some (.slice a m c) := by exact rfl) (hy : ev e y = some (.int kd ix) := by exact rfl) (ht : C.L.ti t = some tl := by exact rfl) (hk : tl.kind = .slice E := by exact rfl) (hE : C.L.ti E = some te := by exact rfl) (hs : Nat.ble 1 te.size = true := by exact rfl)
    (hi : l[i]? = some (frz F) := by first | exact at0 | exact at1 | exact at2 | exact at3 | exact at4 | exact at5 | exact at6 | exact at7 | exact at8 | exact at9 | exact at10 | exact at11 | exact at12 | assumption | exact nx (by assumption) | exact nx (nx (by assumption)) | exact nx (nx (nx (by assumption))) | exact nx (nx (nx (nx (by assumption))))) (hix : 0 ≤ ix ∧ ix < m := by exact ⟨by omega, by omega⟩) : EL C n (o :: rest) ops Q e (S w0 l) :=
  el_cons hg (eo_idxv ho hd hn hx hy ht hk hE hs (hV.one hi) hix h)
theorem Ldf {d i t sz m c q : Nat} {a : Option Addr} {x : Operand} {ti : TI} {v : Value} {xs : List Value} (j : Nat) (hV : Fv w0 F sz a xs m c) (hv : xs[j]? = some v) (h : EL C n rest ops Q ((d, v) :: e) (S w0 l)) (hg : want ops e o = some true := by exact rfl) (ho : o.op = .load t x := by exact rfl) (hd : o.dst = some d := by exact rfl) (hn : Nat.ble n d = false := by exact rfl)
    (ha : ev e x = some (.pointer (some ⟨ob a, oo a + q, none⟩)) := by exact rfl) (ht : C.L.ti t = some ti := by exact rfl) (hk : ti.kind.agg = false := by exact rfl) (hi : l[i]? = some (frz F) := by first | exact at0 | exact at1 | exact at2 | exact at3 | exact at4 | exact at5 | exact at6 | exact at7 | exact at8 | exact at9 | exact at10 | exact at11 | exact at12 | assumption | exact nx (by assumption) | exact nx (nx (by assumption)) | exact nx (nx (nx (by assumption))) | exact nx (nx (nx (nx (by assumption))))) (hq : q = j := by first | omega | (dsimp only; omega)) : EL C n (o :: rest) ops Q e (S w0 l) :=
  el_cons hg (eo_ldv j ho hd hn (by rw [ha, hq]) ht hk (hV.one hi) hv h)
theorem LdfA {d i t sz m c q : Nat} {a : Option Addr} {x : Operand} {ti : TI} {xs cs : List Value} (j : Nat) (hV : Fv w0 F sz a xs m c) (hv : ∀ q, q < ti.size → xs[j + q]? = cs[q]?) (h : EL C n rest ops Q ((d, .agg cs.toArray) :: e) (S w0 l)) (hg : want ops e o = some true := by exact rfl) (ho : o.op = .load t x := by exact rfl) (hd : o.dst = some d := by exact rfl) (hn : Nat.ble n d = false := by exact rfl)
    (ha : ev e x = some (.pointer (some ⟨ob a, oo a + q, none⟩)) := by exact rfl) (ht : C.L.ti t = some ti := by exact rfl) (hk : ti.kind.agg = true := by exact rfl) (hs : cs.length = ti.size := by exact rfl) (hi : l[i]? = some (frz F) := by first | exact at0 | exact at1 | exact at2 | exact at3 | exact at4 | exact at5 | exact at6 | exact at7 | exact at8 | exact at9 | exact at10 | exact at11 | exact at12 | assumption | exact nx (by assumption) | exact nx (nx (by assumption)) | exact nx (nx (nx (by assumption))) | exact nx (nx (nx (nx (by assumption))))) (hq : q = j := by first | omega | (dsimp only; omega)) : EL C n (o :: rest) ops Q e (S w0 l) :=
  el_cons hg (eo_ldvA j ho hd hn (by rw [ha, hq]) ht hk (hV.one hi) hs hv h)
theorem Slf {d i : Nat} {x : Operand} {lo hi : Option Operand} {t E : Nat} {tl te : TI} {a : Option Addr} {m c : Nat} {xs : List Value} (L R : Nat) (hV : Fv w0 F te.size a xs m c) (h : EL C n rest ops Q ((d, .slice (subA a L c te.size) (R - L) (c - L)) :: e) (S w0 l))
    (hg : want ops e o = some true := by exact rfl) (ho : o.op = .slice t x lo hi none := by exact rfl) (hd : o.dst = some d := by exact rfl) (hn : Nat.ble n d = false := by exact rfl) (hx : ev e x = some (.slice a m c) := by exact rfl) (ht : C.L.ti t = some tl := by exact rfl) (hk : tl.kind = .slice E := by exact rfl) (hE : C.L.ti E = some te := by exact rfl)
    (hf : l[i]? = some (frz F) := by first | exact at0 | exact at1 | exact at2 | exact at3 | exact at4 | exact at5 | exact at6 | exact at7 | exact at8 | exact at9 | exact at10 | exact at11 | exact at12 | assumption | exact nx (by assumption) | exact nx (nx (by assumption)) | exact nx (nx (nx (by assumption))) | exact nx (nx (nx (nx (by assumption)))))
    (hlo : bound e 0 lo L := by first | exact rfl | exact ⟨_, rfl⟩ | exact ⟨_, congrArg (fun x => some (Value.int _ x)) (by omega)⟩) (hhi : bound e m hi R := by first | exact rfl | exact ⟨_, rfl⟩ | exact ⟨_, congrArg (fun x => some (Value.int _ x)) (by omega)⟩) (h1 : L ≤ R := by omega) (h2 : R ≤ m := by omega) : EL C n (o :: rest) ops Q e (S w0 l) :=
  el_cons hg (eo_slice L R ho hd hn hx hlo hhi ht hk hE (hV.one hf) h1 h2 h)
theorem Fv.sub {sz n c lo hi : Nat} {a : Option Addr} {xs : List Value} (h : Fv w0 F sz a xs n c) (h1 : lo ≤ hi) (h2 : hi ≤ n) : Fv w0 F sz (subA a lo c sz) (subX xs lo hi sz) (hi - lo) (c - lo) := View.sub h h1 h2
theorem perm_two {α : Type} {l : List α} {i j : Nat} {q p : α} (hi : l[i]? = some q) (hj : l[j]? = some p) (hij : i ≠ j) : ∃ R, l.Perm (q :: p :: R) ∧ ∀ q', ((l.set i q').eraseIdx j).Perm (q' :: R) := by
  have hj' : (l.eraseIdx i)[if j < i then j else j - 1]? = some p := by
    by_cases hlt : j < i
    · rw [if_pos hlt, List.getElem?_eraseIdx, if_pos hlt]; exact hj
    · rw [if_neg hlt, List.getElem?_eraseIdx, if_neg (by omega), show j - 1 + 1 = j by omega]; exact hj
  have h1 := perm_front hi
  have h2 := perm_front hj'
  refine ⟨_, h1.trans (h2.cons _), fun q' => ?_⟩
  have hjs : (l.set i q')[j]? = some p := by rw [List.getElem?_set_ne hij]; exact hj
  have h3 := perm_front hjs
  have h4 := (set_front (q := q') hi).trans (h2.cons _)
  exact ((h3.symm.trans h4).trans (List.Perm.swap p q' _)).cons_inv
theorem S.frzn {i j : Nat} {p : HP} (h : S w0 l w) (hi : l[i]? = some (frz F)) (hj : l[j]? = some p) (hij : i ≠ j) : ∃ G, (Up F G ∧ Froze p G) ∧ S w0 ((l.set i (frz G)).eraseIdx j) w := by
  obtain ⟨R, h1, h2⟩ := perm_two hi hj hij
  obtain ⟨G, hG, hS⟩ := (h.perm h1).freeze
  exact ⟨G, hG, hS.perm (h2 _).symm⟩
theorem el_frz (j : Nat) {i : Nat} {p : HP} {l' : List Oper} (h : ∀ G, Up F G → Froze p G → EL C n l' ops Q e (S w0 ((l.set i (frz G)).eraseIdx j))) (hj : l[j]? = some p := by exact rfl) (hi : l[i]? = some (frz F) := by first | exact at0 | exact at1 | exact at2 | exact at3 | exact at4 | exact at5 | exact at6 | exact at7 | exact at8 | exact at9 | exact at10 | exact at11 | exact at12 | assumption | exact nx (by assumption) | exact nx (nx (by assumption)) | exact nx (nx (nx (by assumption))) | exact nx (nx (nx (nx (by assumption))))) (hij : i ≠ j := by omega) : EL C n l' ops Q e (S w0 l) :=
  ⟨fun a w hf hw => let ⟨G, hG, hS⟩ := hw.frzn hi hj hij; (h G hG.1 hG.2).run a w hf hS⟩
theorem ej_frz (j : Nat) {i : Nat} {p : HP} {c : Code} (h : ∀ G, Up F G → Froze p G → EJ C n c Q e (S w0 ((l.set i (frz G)).eraseIdx j))) (hj : l[j]? = some p := by exact rfl) (hi : l[i]? = some (frz F) := by first | exact at0 | exact at1 | exact at2 | exact at3 | exact at4 | exact at5 | exact at6 | exact at7 | exact at8 | exact at9 | exact at10 | exact at11 | exact at12 | assumption | exact nx (by assumption) | exact nx (nx (by assumption)) | exact nx (nx (nx (by assumption))) | exact nx (nx (nx (nx (by assumption))))) (hij : i ≠ j := by omega) : EJ C n c Q e (S w0 l) :=
  ⟨fun a w hf hw => let ⟨G, hG, hS⟩ := hw.frzn hi hj hij; (h G hG.1 hG.2).run a w hf hS⟩
theorem froze_cells {b T sz m : Nat} {xs : List Value} {G : Hp} (h : Froze (cells b T xs) G) (hl : xs.length = m * sz) (hm : m ≤ maxLen) : Fv w0 G sz (some ⟨b, 0, none⟩) xs m m := h.view (View.of_cells (i := 0) rfl hl hm)
def Gives (C : Cx) (f : FuncId) (args : List Value) (w0 : World) (l : List HP) (i : Nat) (F : Hp) (φ : Hp → Value → Prop) : Prop :=
  Does C f args (S w0 l) fun v w => ∃ x : Hp × Value, v = x.2 ∧ (Up F x.1 ∧ φ x.1 x.2) ∧ S w0 (l.set i (frz x.1)) w
theorem Gv {c : Call} {d f i : Nat} {first capt args argv : List Value} {φ : Hp → Value → Prop} (hs : Gives C f argv w0 l i F φ) (hr : Real C.P f) (h : ∀ G v, Up F G → φ G v → EL C n rest ops Q ((d, v) :: e) (S w0 (l.set i (frz G)))) (hg : want ops e o = some true := by exact rfl)
    (ho : o.op = .call c := by exact rfl) (hd : o.dst = some d := by exact rfl) (hn : Nat.ble n d = false := by exact rfl) (hc : callee e c.callee = some (f, first, capt) := by exact rfl) (ha : evs e c.args.toList = some args := by exact rfl) (hargs : first ++ args ++ capt = argv := by exact rfl) : EL C n (o :: rest) ops Q e (S w0 l) := by
  subst hargs
  exact el_cons hg (eo_callx (V := fun x : Hp × Value => x.2) (φ := fun x => Up F x.1 ∧ φ x.1 x.2) (H' := fun x => S w0 (l.set i (frz x.1))) ho hd hn hc ha hr hs fun x hx => h x.1 x.2 hx.1 hx.2)
theorem Cl {c : Call} {d f : Nat} {first capt args argv : List Value} {φ : Value → Prop} {H' : WP} (hs : Does C f argv H fun v w => φ v ∧ H' w) (hr : Real C.P f) (h : ∀ v, φ v → EL C n rest ops Q ((d, v) :: e) H') (hg : want ops e o = some true := by exact rfl)
    (ho : o.op = .call c := by exact rfl) (hd : o.dst = some d := by exact rfl) (hn : Nat.ble n d = false := by exact rfl) (hc : callee e c.callee = some (f, first, capt) := by exact rfl) (ha : evs e c.args.toList = some args := by exact rfl) (hargs : first ++ args ++ capt = argv := by exact rfl) : EL C n (o :: rest) ops Q e H := by
  subst hargs
  exact el_cons hg (eo_callx (V := fun v => v) (φ := φ) (H' := fun _ => H') ho hd hn hc ha hr (Does.mono hs (fun _ h => h) fun v w h => ⟨v, rfl, h.1, h.2⟩) h)
theorem C1 {c : Call} {d f : Nat} {first capt args argv : List Value} {V : Value} {H' : WP} (hs : Does C f argv H fun v w => v = V ∧ H' w) (hr : Real C.P f) (h : EL C n rest ops Q ((d, V) :: e) H') (hg : want ops e o = some true := by exact rfl)
    (ho : o.op = .call c := by exact rfl) (hd : o.dst = some d := by exact rfl) (hn : Nat.ble n d = false := by exact rfl) (hc : callee e c.callee = some (f, first, capt) := by exact rfl) (ha : evs e c.args.toList = some args := by exact rfl) (hargs : first ++ args ++ capt = argv := by exact rfl) : EL C n (o :: rest) ops Q e H := by
  subst hargs
  exact el_cons hg (eo_call1 ho hd hn hc ha hr hs h)
theorem Cx1 {c : Call} {d f : Nat} {first capt args argv : List Value} {α : Type} {V : α → Value} {φ : α → Prop} {H' : α → WP} (hs : Does C f argv H fun v w => ∃ x, v = V x ∧ φ x ∧ H' x w) (hr : Real C.P f) (h : ∀ x, φ x → EL C n rest ops Q ((d, V x) :: e) (H' x)) (hg : want ops e o = some true := by exact rfl)
    (ho : o.op = .call c := by exact rfl) (hd : o.dst = some d := by exact rfl) (hn : Nat.ble n d = false := by exact rfl) (hc : callee e c.callee = some (f, first, capt) := by exact rfl) (ha : evs e c.args.toList = some args := by exact rfl) (hargs : first ++ args ++ capt = argv := by exact rfl) : EL C n (o :: rest) ops Q e H := by
  subst hargs
  exact el_cons hg (eo_callx ho hd hn hc ha hr hs h)
def un2 {α β γ : Type _} (f : α → β → γ) (p : α × β) : γ := f p.1 p.2
def un3 {α β γ δ : Type _} (f : α → β → γ → δ) (p : α × β × γ) : δ := f p.1 p.2.1 p.2.2
def un4 {α β γ δ ε : Type _} (f : α → β → γ → δ → ε) (p : α × β × γ × δ) : ε := f p.1 p.2.1 p.2.2.1 p.2.2.2
theorem ej_loop2 {α β : Type} {c : Code} (P : α → β → Prop) (I : α → β → Env) (W : α → β → WP) (μ : α → β → Nat) (x0 : α) (y0 : β) (hp : P x0 y0) (h0 : le (I x0 y0) e) (hw0 : ∀ w, H w → W x0 y0 w)
    (round : ∀ x y, P x y → EJ C n c (.back (un2 I) (fun p w => un2 P p ∧ un2 W p w) (un2 μ) (x, y) Q) (I x y) (W x y)) : EJ C n (.loop c) Q e H :=
  ej_loopP (un2 P) (un2 I) (un2 W) (un2 μ) (x0, y0) hp h0 hw0 fun p hp => round p.1 p.2 hp
theorem eq_back2 {α β : Type} {P : α → β → Prop} {I : α → β → Env} {W : α → β → WP} {μ : α → β → Nat} {x : α} {y : β} (x' : α) (y' : β) (hp : P x' y') (hμ : μ x' y' < μ x y) (h1 : le (I x' y') e) (h2 : ∀ w, H w → W x' y' w) :
    EQ C n .normal (.back (un2 I) (fun p w => un2 P p ∧ un2 W p w) (un2 μ) (x, y) Q) e H := eq_back (x', y') hμ h1 fun w hw => ⟨hp, h2 w hw⟩
theorem ej_loop3 {α β γ : Type} {c : Code} (P : α → β → γ → Prop) (I : α → β → γ → Env) (W : α → β → γ → WP) (μ : α → β → γ → Nat) (x0 : α) (y0 : β) (z0 : γ) (hp : P x0 y0 z0) (h0 : le (I x0 y0 z0) e) (hw0 : ∀ w, H w → W x0 y0 z0 w)
    (round : ∀ x y z, P x y z → EJ C n c (.back (un3 I) (fun p w => un3 P p ∧ un3 W p w) (un3 μ) (x, y, z) Q) (I x y z) (W x y z)) : EJ C n (.loop c) Q e H :=
  ej_loopP (un3 P) (un3 I) (un3 W) (un3 μ) (x0, y0, z0) hp h0 hw0 fun p hp => round p.1 p.2.1 p.2.2 hp
theorem eq_back3 {α β γ : Type} {P : α → β → γ → Prop} {I : α → β → γ → Env} {W : α → β → γ → WP} {μ : α → β → γ → Nat} {x : α} {y : β} {z : γ} (x' : α) (y' : β) (z' : γ) (hp : P x' y' z') (hμ : μ x' y' z' < μ x y z) (h1 : le (I x' y' z') e) (h2 : ∀ w, H w → W x' y' z' w) :
    EQ C n .normal (.back (un3 I) (fun p w => un3 P p ∧ un3 W p w) (un3 μ) (x, y, z) Q) e H := eq_back (x', y', z') hμ h1 fun w hw => ⟨hp, h2 w hw⟩
theorem ej_loop4 {α β γ δ : Type} {c : Code} (P : α → β → γ → δ → Prop) (I : α → β → γ → δ → Env) (W : α → β → γ → δ → WP) (μ : α → β → γ → δ → Nat) (x0 : α) (y0 : β) (z0 : γ) (u0 : δ) (hp : P x0 y0 z0 u0) (h0 : le (I x0 y0 z0 u0) e) (hw0 : ∀ w, H w → W x0 y0 z0 u0 w)
    (round : ∀ x y z u, P x y z u → EJ C n c (.back (un4 I) (fun p w => un4 P p ∧ un4 W p w) (un4 μ) (x, y, z, u) Q) (I x y z u) (W x y z u)) : EJ C n (.loop c) Q e H :=
  ej_loopP (un4 P) (un4 I) (un4 W) (un4 μ) (x0, y0, z0, u0) hp h0 hw0 fun p hp => round p.1 p.2.1 p.2.2.1 p.2.2.2 hp
theorem eq_back4 {α β γ δ : Type} {P : α → β → γ → δ → Prop} {I : α → β → γ → δ → Env} {W : α → β → γ → δ → WP} {μ : α → β → γ → δ → Nat} {x : α} {y : β} {z : γ} {u : δ} (x' : α) (y' : β) (z' : γ) (u' : δ) (hp : P x' y' z' u') (hμ : μ x' y' z' u' < μ x y z u) (h1 : le (I x' y' z' u') e) (h2 : ∀ w, H w → W x' y' z' u' w) :
    EQ C n .normal (.back (un4 I) (fun p w => un4 P p ∧ un4 W p w) (un4 μ) (x, y, z, u) Q) e H := eq_back (x', y', z', u') hμ h1 fun w hw => ⟨hp, h2 w hw⟩
theorem fv_len {sz m c : Nat} {a : Option Addr} {xs : List Value} {i : Nat} (hV : Fv w0 F sz a xs m c) (hi : l[i]? = some (frz F)) : ∀ w, S w0 l w → m ≤ 9223372036854775807 := fun w hw => by
  have h := ((View.one hV hi).know w hw).1
  have e : maxLen = 9223372036854775807 := rfl
  omega
theorem set_frz {i : Nat} (hi : l[i]? = some (frz F)) : l.set i (frz F) = l := set_perm_front _ _ _ hi
end Go.SE
open Go Go.SE
namespace Go.SE
variable {C : Cx} {n : Nat} {Q : Kont} {e : Env} {H : WP} {ops : Array Oper} {rest : List Oper} {o : Oper} {k : Env → WP → Prop} {w0 w : World} {l hs : List HP} {F : Hp}
theorem ext_run {a : Act} {c : Call} {f : Nat} {first capt args : List Value} {r : Result Next} (hf : Fits C.dfs n e a) (ho : o.op = .call c) (hc : callee e c.callee = some (f, first, capt)) (ha : evs e c.args.toList = some args)
    (hr : (callFunc f (first ++ args ++ capt).toArray).run C.P w = r) : (execOp a.eval o).run C.P w = r := by
  unfold execOp
  rw [ho]
  obtain ⟨cl, ags, ts⟩ := c
  unfold callee at hc
  split at hc
  · rename_i y hcl
    split at hc
    · rename_i f' fi ca hev
      simp only [Option.some.injEq, Prod.mk.injEq] at hc
      obtain ⟨rfl, rfl, rfl⟩ := hc
      have hargs := evs_arr hf ha
      simp only at hargs
      have hcl' : cl = .value y := hcl
      subst hcl'
      simp only [resolve, Sem.run_bind, hf.ev hev, hargs, Deferred.ofValue, Sem.run_pure, Result.andThen_ok, invoke]
      rw [← hr]
      congr 2
      apply Array.toList_inj.1
      simp
    · cases hc
  · cases hc
theorem eo_ext {c : Call} {d f : Nat} {first capt args : List Value} {v : Value} (hx : ∀ w, H w → (callFunc f (first ++ args ++ capt).toArray).run C.P w = .ok (.value v) w) (h : k ((d, v) :: e) H) (ho : o.op = .call c := by exact rfl) (hd : o.dst = some d := by exact rfl) (hn : Nat.ble n d = false := by exact rfl) (hc : callee e c.callee = some (f, first, capt) := by exact rfl)
    (ha : evs e c.args.toList = some args := by exact rfl) : EO C n o Q e H k :=
  eo_value hd hn (fun _ w hf hw => ext_run hf ho hc ha (hx w hw)) h
structure Ext (P : Program) (f : FuncId) (E : Array Value → Sem Value) : Prop where
  is : ∃ fn, P.funcs[f]? = some fn ∧ (fn.name == "runtime.NumGoroutine") = false ∧ fn.body.isNone = true ∧ Extern.findNext fn = none ∧ Extern.find fn = some E
def sub64Entry : Array Value → Sem Value := fun args => do
  let (x, y, b) ← Extern.MathBitsCarry.three "Sub64" args
  pure (Extern.MathBitsCarry.pair ((x + Extern.MathBitsCarry.m64 - y - b) % Extern.MathBitsCarry.m64) (if x < y + b then 1 else 0))
theorem add64_run {P : Program} {f : FuncId} (hE : Ext P f add64Entry) {x y c : Nat} (hc : c ≤ 1) (w : World) :
    (callFunc f [u64 x, u64 y, u64 c].toArray).run P w = .ok (.value (.tuple #[u64 ((x + y + c) % 18446744073709551616), u64 ((x + y + c) / 18446744073709551616)])) w := by
  obtain ⟨fn, h1, h2, h3, h4, h5⟩ := hE.is
  rw [run_callFunc_extern h1 h2 h3 h4 h5]
  have hk : c = 0 ∨ c = 1 := by omega
  rcases hk with rfl | rfl <;> rfl
theorem sub64_run {P : Program} {f : FuncId} (hE : Ext P f sub64Entry) {x y c : Nat} (hc : c ≤ 1) (w : World) :
    (callFunc f [u64 x, u64 y, u64 c].toArray).run P w = .ok (.value (.tuple #[u64 ((x + 18446744073709551616 - y - c) % 18446744073709551616), u64 (if x < y + c then 1 else 0)])) w := by
  obtain ⟨fn, h1, h2, h3, h4, h5⟩ := hE.is
  rw [run_callFunc_extern h1 h2 h3 h4 h5]
  have hk : c = 0 ∨ c = 1 := by omega
  rcases hk with rfl | rfl <;> rfl
end Go.SE
open Go Go.SE
namespace Go.SE
variable {C : Cx} {n : Nat} {Q : Kont} {e : Env} {H : WP} {ops : Array Oper} {rest : List Oper} {o o1 o2 : Oper} {k : Env → WP → Prop} {w0 w : World} {l hs : List HP} {F : Hp}
theorem maxLen_eq : maxLen = 9223372036854775807 := rfl
theorem eo_make2 {d : Nat} {x y : Operand} {t E m c : Nat} {kx ky : IntKind} {tl te : TI} (ho : o.op = .makeSlice t x y) (hd : o.dst = some d) (hn : Nat.ble n d = false)
    (hx : ev e x = some (.int kx (m : Int))) (hy : ev e y = some (.int ky (c : Int))) (ht : C.L.ti t = some tl) (hk : tl.kind = .slice E) (hE : C.L.ti E = some te) (hz : te.zero.cells.size = te.size) (hmc : m ≤ c) (hc : c ≤ maxLen) (hb : te.bytes * c ≤ 281474976710656)
    (h : ∀ b, k ((d, sv (some (b, c)) m) :: e) (S w0 (rowC (some (b, c)) E te.size (rowZ m te.zero.cells.toList) m :: l))) : EO C n o Q e (S w0 l) k := by
  refine eo_some hd hn (fun b => sv (some (b, c)) m) (fun _ => True) (fun b => S w0 (rowC (some (b, c)) E te.size (rowZ m te.zero.cells.toList) m :: l)) (fun ac w hf hw => ?_) (fun b _ => h b)
  obtain ⟨ie, hie, hsz, hby, hze⟩ := (C.ok _ _ hE).info
  have hu := kind_slice (C.ok _ _ ht) hk
  have hb' : (ie.bytes : Int) * (c : Int) ≤ 281474976710656 := by
    have h2 : ((te.bytes * c : Nat) : Int) ≤ 281474976710656 := by omega
    rw [hby]; rwa [Int.natCast_mul] at h2
  have hr := run_make (P := C.P) w t E ie te.zero hu hie hze kx ky (m : Int) (c : Int) (by omega) (by omega) hb' (by simp only [maxLen] at hc; omega)
  have hl : ∀ q, (rowZ q te.zero.cells.toList).length = q * te.size := fun q => by rw [rowZ_length, Array.length_toList, hz]
  have hcells : madeCells te.zero.cells ((c : Int).toNat * ie.size) = (rowZ c te.zero.cells.toList).toArray := by
    have := rowZ_eq te.zero.cells c
    rw [hz] at this
    rw [← this]
    simp only [madeCells, hsz, hz, Int.toNat_natCast]
  have hsplit : ∀ (q p : Nat), rowZ (q + p) te.zero.cells.toList = rowZ q te.zero.cells.toList ++ rowZ p te.zero.cells.toList := fun q p => by
    induction p with
    | zero => simp [rowZ]
    | succ p ih => rw [show q + (p + 1) = (q + p) + 1 by omega]; simp only [rowZ, ih, List.append_assoc]
  refine ⟨w.heap.size, w.alloc (.cells (rowZ c te.zero.cells.toList).toArray E), ?_, trivial, ?_⟩
  · unfold execOp
    rw [ho]
    simp only [Sem.run_bind, hf.ev hx, hf.ev hy, hr, Result.andThen_ok, Sem.run_pure, hcells]
    rfl
  · have h1 := hw.alloc (.cells (rowZ c te.zero.cells.toList).toArray E)
    refine h1.imp (i := 0) rfl fun h hp => ⟨rowZ (c - m) te.zero.cells.toList, ?_, hl m, ?_, hmc, hc⟩
    · rw [← hsplit, show m + (c - m) = c by omega]; exact hp
    · rw [← hsplit, show m + (c - m) = c by omega, hl]
theorem Mk {d : Nat} {x y : Operand} {t E m : Nat} {kx ky : IntKind} {tl te : TI} (h : ∀ b, EL C n rest ops Q ((d, sv (some (b, m)) m) :: e) (S w0 (rowC (some (b, m)) E te.size (rowZ m te.zero.cells.toList) m :: l))) (hg : want ops e o = some true := by exact rfl) (ho : o.op = .makeSlice t x y := by exact rfl) (hd : o.dst = some d := by exact rfl) (hn : Nat.ble n d = false := by exact rfl)
    (hx : ev e x = some (.int kx (m : Int)) := by exact rfl) (hy : ev e y = some (.int ky (m : Int)) := by exact rfl) (ht : C.L.ti t = some tl := by exact rfl) (hk : tl.kind = .slice E := by exact rfl) (hE : C.L.ti E = some te := by exact rfl) (hz : te.zero.cells.size = te.size := by exact rfl) (hb : Nat.ble te.bytes 10000 = true := by exact rfl) (hm : m ≤ 1000000 := by omega) : EL C n (o :: rest) ops Q e (S w0 l) := by
  have h1 := Nat.le_of_ble_eq_true hb
  have h2 : te.bytes * m ≤ 10000 * 1000000 := Nat.mul_le_mul h1 hm
  exact el_cons hg (eo_make ho hd hn hx hy ht hk hE hz (by rw [maxLen_eq]; omega) (by omega) h)
theorem Mk2 {d : Nat} {x y : Operand} {t E : Nat} {a b : Int} {kx ky : IntKind} {tl te : TI} (m c : Nat) (h : ∀ b, EL C n rest ops Q ((d, sv (some (b, c)) m) :: e) (S w0 (rowC (some (b, c)) E te.size (rowZ m te.zero.cells.toList) m :: l))) (hg : want ops e o = some true := by exact rfl) (ho : o.op = .makeSlice t x y := by exact rfl) (hd : o.dst = some d := by exact rfl) (hn : Nat.ble n d = false := by exact rfl)
    (hx : ev e x = some (.int kx a) := by exact rfl) (hy : ev e y = some (.int ky b) := by exact rfl) (ha : a = m := by omega) (hb' : b = c := by omega) (ht : C.L.ti t = some tl := by exact rfl) (hk : tl.kind = .slice E := by exact rfl) (hE : C.L.ti E = some te := by exact rfl) (hz : te.zero.cells.size = te.size := by exact rfl) (hb : Nat.ble te.bytes 10000 = true := by exact rfl) (hm : c ≤ 1000000 := by omega) (hmc : m ≤ c := by omega) : EL C n (o :: rest) ops Q e (S w0 l) := by
  subst ha hb'
  have h1 := Nat.le_of_ble_eq_true hb
  have h2 : te.bytes * c ≤ 10000 * 1000000 := Nat.mul_le_mul h1 hm
  exact el_cons hg (eo_make2 ho hd hn hx hy ht hk hE hz hmc (by rw [maxLen_eq]; omega) (by omega) h)
theorem Ixr {d i : Nat} {x y : Operand} {kd : IntKind} {r : Option (Nat × Nat)} {m t T sz : Nat} {xs : List Value} {ix : Int} {tl te : TI} {E : TypeId} (h : EL C n rest ops Q ((d, .pointer (some ⟨blk r, ix.toNat * te.size, none⟩)) :: e) (S w0 l)) (hg : want ops e o = some true := by exact rfl) (ho : o.op = .indexAddr t x y := by exact rfl) (hd : o.dst = some d := by exact rfl) (hn : Nat.ble n d = false := by exact rfl)
    (hx : ev e x = some (sv r m) := by exact rfl) (hy : ev e y = some (.int kd ix) := by exact rfl) (ht : C.L.ti t = some tl := by exact rfl) (hk : tl.kind = .slice E := by exact rfl) (hE : C.L.ti E = some te := by exact rfl)
    (hj : l[i]? = some (rowC r T sz xs m) := by first | exact at0 | exact at1 | exact at2 | exact at3 | exact at4 | exact at5 | exact at6 | exact at7 | exact at8 | exact at9 | exact at10 | exact at11 | exact at12 | assumption | exact nx (by assumption) | exact nx (nx (by assumption)) | exact nx (nx (nx (by assumption))) | exact nx (nx (nx (nx (by assumption))))) (hi : 0 ≤ ix ∧ ix < m := by exact ⟨by omega, by omega⟩) : EL C n (o :: rest) ops Q e (S w0 l) :=
  el_cons hg (eo_idxr i ho hd hn hx hy ht hk hE hj hi h)
theorem Ldr {d i t T sz m q : Nat} {r : Option (Nat × Nat)} {x : Operand} {ti : TI} {v : Value} {xs : List Value} (j : Nat) (hv : xs[j]? = some v) (h : EL C n rest ops Q ((d, v) :: e) (S w0 l)) (hg : want ops e o = some true := by exact rfl) (ho : o.op = .load t x := by exact rfl) (hd : o.dst = some d := by exact rfl) (hn : Nat.ble n d = false := by exact rfl)
    (ha : ev e x = some (.pointer (some ⟨blk r, q, none⟩)) := by exact rfl) (ht : C.L.ti t = some ti := by exact rfl) (hk : ti.kind.agg = false := by exact rfl)
    (hi : l[i]? = some (rowC r T sz xs m) := by first | exact at0 | exact at1 | exact at2 | exact at3 | exact at4 | exact at5 | exact at6 | exact at7 | exact at8 | exact at9 | exact at10 | exact at11 | exact at12 | assumption | exact nx (by assumption) | exact nx (nx (by assumption)) | exact nx (nx (nx (by assumption))) | exact nx (nx (nx (nx (by assumption))))) (hq : q = j := by first | omega | (dsimp only; omega)) : EL C n (o :: rest) ops Q e (S w0 l) := by
  subst hq
  exact el_cons hg (eo_ldr i ho hd hn ha ht hk hi hv h)
theorem LdrA {d i t T sz m q : Nat} {r : Option (Nat × Nat)} {x : Operand} {ti : TI} {cs xs : List Value} (j : Nat) (hv : ∀ q, q < ti.size → xs[j + q]? = cs[q]?) (h : EL C n rest ops Q ((d, .agg cs.toArray) :: e) (S w0 l)) (hg : want ops e o = some true := by exact rfl) (ho : o.op = .load t x := by exact rfl) (hd : o.dst = some d := by exact rfl) (hn : Nat.ble n d = false := by exact rfl)
    (ha : ev e x = some (.pointer (some ⟨blk r, q, none⟩)) := by exact rfl) (ht : C.L.ti t = some ti := by exact rfl) (hk : ti.kind.agg = true := by exact rfl) (hs : cs.length = ti.size := by exact rfl)
    (hi : l[i]? = some (rowC r T sz xs m) := by first | exact at0 | exact at1 | exact at2 | exact at3 | exact at4 | exact at5 | exact at6 | exact at7 | exact at8 | exact at9 | exact at10 | exact at11 | exact at12 | assumption | exact nx (by assumption) | exact nx (nx (by assumption)) | exact nx (nx (nx (by assumption))) | exact nx (nx (nx (nx (by assumption))))) (hq : q = j := by first | omega | (dsimp only; omega)) : EL C n (o :: rest) ops Q e (S w0 l) := by
  subst hq
  exact el_cons hg (eo_ldrA (i := i) (ho := ho) (hd := hd) (hn := hn) (ha := ha) (ht := ht) (hk := hk) (hi := hi) (hs := hs) (hv := hv) (h := h))
theorem Str {i t T sz m q : Nat} {r : Option (Nat × Nat)} {x y : Operand} {ti : TI} {v : Value} {xs : List Value} (j : Nat) (h : EL C n rest ops Q e (S w0 (l.set i (rowC r T sz (xs.set j v) m)))) (hg : want ops e o = some true := by exact rfl) (ho : o.op = .store t x y := by exact rfl) (hd : o.dst = none := by exact rfl)
    (ha : ev e x = some (.pointer (some ⟨blk r, q, none⟩)) := by exact rfl) (hv : ev e y = some v := by exact rfl) (ht : C.L.ti t = some ti := by exact rfl) (hz : v.cells = #[v] := by exact rfl) (hz' : ti.size = 1 := by exact rfl) (h1 : one v = true := by exact rfl)
    (hi : l[i]? = some (rowC r T sz xs m) := by first | exact at0 | exact at1 | exact at2 | exact at3 | exact at4 | exact at5 | exact at6 | exact at7 | exact at8 | exact at9 | exact at10 | exact at11 | exact at12 | assumption | exact nx (by assumption) | exact nx (nx (by assumption)) | exact nx (nx (nx (by assumption))) | exact nx (nx (nx (nx (by assumption))))) (hq : q = j := by first | omega | (dsimp only; omega)) (hl : j < xs.length := by first | omega | (simp; omega)) : EL C n (o :: rest) ops Q e (S w0 l) := by
  subst hq
  exact el_cons hg (eo_str i ho hd ha hv ht hz hz' h1 hi hl h)
theorem App {d1 d2 i t E n' : Nat} {ps : Array (Nat × Operand)} {parts : List (Nat × Value)} {x y : Operand} {r : Option (Nat × Nat)} {te tl : TI} {xs cs : List Value}
    (h : ∀ r' b, EL C n rest ops Q ((d2, sv r' (n' + 1)) :: (d1, .slice (some ⟨b, 0, none⟩) 1 1) :: e) (S w0 (l.set i (rowC r' E te.size (xs ++ cs) (n' + 1)))))
    (hg1 : want ops e o1 = some true := by exact rfl) (ho1 : o1.op = .buildSlice t 1 ps := by exact rfl) (hd1 : o1.dst = some d1 := by exact rfl) (hn1 : Nat.ble n d1 = false := by exact rfl) (hp : evParts e ps.toList = some parts := by exact rfl) (ht : C.L.ti t = some tl := by exact rfl) (hk : tl.kind = .slice E := by exact rfl) (hE : C.L.ti E = some te := by exact rfl)
    (hzs : te.zero.cells.size = te.size := by exact rfl) (hm : Nat.ble (1 * te.size) 16777216 = true := by exact rfl) (hc : fillL (fun i => some (i * te.size, te.size)) (rowZ 1 te.zero.cells.toList) parts = some cs := by exact rfl)
    (ho2 : o2.op = .call { callee := .builtin .append, args := #[x, y], argTypes := #[t, t] } := by exact rfl) (hd2 : o2.dst = some d2 := by exact rfl) (hn2 : Nat.ble n d2 = false := by exact rfl) (hx : ∀ b, ev ((d1, .slice (some ⟨b, 0, none⟩) 1 1) :: e) x = some (sv r n') := by exact fun _ => rfl) (hy : ∀ b, ev ((d1, .slice (some ⟨b, 0, none⟩) 1 1) :: e) y = some (.slice (some ⟨b, 0, none⟩) 1 1) := by exact fun _ => rfl) (hg2 : ∀ b, want ops ((d1, .slice (some ⟨b, 0, none⟩) 1 1) :: e) o2 = some true := by exact fun _ => rfl)
    (hi : l[i]? = some (rowC r E te.size xs n') := by first | exact at0 | exact at1 | exact at2 | exact at3 | exact at4 | exact at5 | exact at6 | exact at7 | exact at8 | exact at9 | exact at10 | exact at11 | exact at12 | assumption | exact nx (by assumption) | exact nx (nx (by assumption)) | exact nx (nx (nx (by assumption))) | exact nx (nx (nx (nx (by assumption))))) (hcs : cs.length = te.size := by exact rfl) (h1 : cs.all one = true := by exact rfl) (hN : n' ≤ 1000000 := by omega) (hb : Nat.ble te.bytes 10000 = true := by exact rfl) :
    EL C n (o1 :: o2 :: rest) ops Q e (S w0 l) := by
  have hb1 := Nat.le_of_ble_eq_true hb
  have hb2 : (n' + 1) * te.bytes ≤ 1000001 * 10000 := Nat.mul_le_mul (by omega) hb1
  refine el_cons hg1 (eo_buildS ho1 hd1 hn1 ht hk hE hzs hm hp hc fun b => el_cons (hg2 b) ?_)
  refine eo_append (i + 1) cs ho2 hd2 hn2 (hx b) (hy b) ht hk hE hzs (by simpa using hi) (by omega) (fun w hw j u hj => ?_) h1 (by omega) (by omega) (by rw [maxLen_eq]; omega) fun r' => ?_
  · have := hw.cell (i := 0) (b := b) (T := E) (cs := cs) rfl hj
    rw [addr_add, Nat.zero_add]; exact this
  · exact el_imp (fun w hw => hw.erase 0) (h r' b)
theorem Emp {d t E : Nat} {ps : Array (Nat × Operand)} {te tl : TI} (h : ∀ b, EL C n rest ops Q ((d, sv (some (b, 0)) 0) :: e) (S w0 (rowC (some (b, 0)) E te.size [] 0 :: l))) (hg : want ops e o = some true := by exact rfl) (ho : o.op = .buildSlice t 0 ps := by exact rfl) (hd : o.dst = some d := by exact rfl) (hn : Nat.ble n d = false := by exact rfl) (hp : evParts e ps.toList = some [] := by exact rfl) (ht : C.L.ti t = some tl := by exact rfl) (hk : tl.kind = .slice E := by exact rfl) (hE : C.L.ti E = some te := by exact rfl)
    (hzs : te.zero.cells.size = te.size := by exact rfl) (hm : Nat.ble (0 * te.size) 16777216 = true := by exact rfl) (hc : fillL (fun i => some (i * te.size, te.size)) (rowZ 0 te.zero.cells.toList) [] = some [] := by exact rfl) : EL C n (o :: rest) ops Q e (S w0 l) :=
  el_cons hg (eo_buildS ho hd hn ht hk hE hzs hm hp hc fun b => el_imp (fun w hw => hw.imp (i := 0) rfl fun h hp => row_of_cells (by simp) (by rw [maxLen_eq]; omega) hp) (h b))
theorem ApV {d i j t E n' m c : Nat} {x y : Operand} {r : Option (Nat × Nat)} {te tl : TI} {xs news : List Value} {a : Option Addr} (hV : Fv w0 F te.size a news m c) (h1 : news.all one = true) (h : ∀ r', EL C n rest ops Q ((d, sv r' (n' + m)) :: e) (S w0 (l.set i (rowC r' E te.size (xs ++ news) (n' + m))))) (hg : want ops e o = some true := by exact rfl)
    (ho : o.op = .call { callee := .builtin .append, args := #[x, y], argTypes := #[t, t] } := by exact rfl) (hd : o.dst = some d := by exact rfl) (hn : Nat.ble n d = false := by exact rfl) (hx : ev e x = some (sv r n') := by exact rfl) (hy : ev e y = some (.slice a m c) := by exact rfl) (ht : C.L.ti t = some tl := by exact rfl) (hk : tl.kind = .slice E := by exact rfl) (hE : C.L.ti E = some te := by exact rfl) (hz : te.zero.cells.size = te.size := by exact rfl) (hs : Nat.ble 1 te.size = true := by exact rfl)
    (hi : l[i]? = some (rowC r E te.size xs n') := by first | exact at0 | exact at1 | exact at2 | exact at3 | exact at4 | exact at5 | exact at6 | exact at7 | exact at8 | exact at9 | exact at10 | exact at11 | exact at12 | assumption | exact nx (by assumption) | exact nx (nx (by assumption)) | exact nx (nx (nx (by assumption))) | exact nx (nx (nx (nx (by assumption))))) (hf : l[j]? = some (frz F) := by first | exact at0 | exact at1 | exact at2 | exact at3 | exact at4 | exact at5 | exact at6 | exact at7 | exact at8 | exact at9 | exact at10 | exact at11 | exact at12 | assumption | exact nx (by assumption) | exact nx (nx (by assumption)) | exact nx (nx (nx (by assumption))) | exact nx (nx (nx (nx (by assumption)))))
    (hb : Nat.ble te.bytes 10000 = true := by exact rfl) (hN : n' + m ≤ 1000000 := by omega) : EL C n (o :: rest) ops Q e (S w0 l) := by
  have hb1 := Nat.le_of_ble_eq_true hb
  have hb2 : (n' + m) * te.bytes ≤ 1000000 * 10000 := Nat.mul_le_mul hN hb1
  exact el_cons hg (eo_appendV i ho hd hn hx hy ht hk hE hz hs hi (View.one hV hf) h1 (by omega) (by rw [maxLen_eq]; omega) h)
theorem ej_nonnil {sz m c i : Nat} {a : Option Addr} {xs : List Value} {cd : Code} (hV : Fv w0 F sz a xs m c) (hi : l[i]? = some (frz F)) (h : (a.isNone = true → xs = []) → EJ C n cd Q e (S w0 l)) : EJ C n cd Q e (S w0 l) :=
  ej_know (fun w hw ha => by
    have h1 := ((View.one hV hi).know w hw).2
    cases xs with
    | nil => rfl
    | cons x r => rw [h1 (by simp)] at ha; cases ha) h
theorem wrapN (x : Nat) : IntKind.u64.wrap (x : Int) = ((x % 18446744073709551616 : Nat) : Int) := by
  simp [IntKind.wrap, IntKind.signed, IntKind.bits]
theorem AddN {d a b : Nat} {t t' : TypeId} {x y : Operand} (h : EL C n rest ops Q ((d, u64 ((a + b) % 18446744073709551616)) :: e) H) (hg : want ops e o = some true := by exact rfl) (ho : o.op = .binOp .add t x y t' := by exact rfl) (hd : o.dst = some d := by exact rfl) (hn : Nat.ble n d = false := by exact rfl)
    (hx : ev e x = some (u64 a) := by exact rfl) (hy : ev e y = some (u64 b) := by exact rfl) : EL C n (o :: rest) ops Q e H :=
  el_cons hg (eo_arithW (c := (a : Int) + b) ho hd hn hx hy rfl (by rw [show (a : Int) + b = ((a + b : Nat) : Int) by omega, wrapN]; exact h))
theorem MulN {d a b : Nat} {t t' : TypeId} {x y : Operand} (h : EL C n rest ops Q ((d, u64 (a * b % 18446744073709551616)) :: e) H) (hg : want ops e o = some true := by exact rfl) (ho : o.op = .binOp .mul t x y t' := by exact rfl) (hd : o.dst = some d := by exact rfl) (hn : Nat.ble n d = false := by exact rfl)
    (hx : ev e x = some (u64 a) := by exact rfl) (hy : ev e y = some (u64 b) := by exact rfl) : EL C n (o :: rest) ops Q e H :=
  el_cons hg (eo_arithW (c := (a : Int) * b) ho hd hn hx hy rfl (by rw [show (a : Int) * b = ((a * b : Nat) : Int) by simp, wrapN]; exact h))
theorem And32 {d a : Nat} {t t' : TypeId} {x y : Operand} (ha : a < 18446744073709551616) (h : EL C n rest ops Q ((d, u64 (a % 4294967296)) :: e) H) (hg : want ops e o = some true := by exact rfl) (ho : o.op = .binOp .and t x y t' := by exact rfl) (hd : o.dst = some d := by exact rfl) (hn : Nat.ble n d = false := by exact rfl)
    (hx : ev e x = some (u64 a) := by exact rfl) (hy : ev e y = some (u64 4294967295) := by exact rfl) : EL C n (o :: rest) ops Q e H :=
  el_cons hg (eo_bits (c := a &&& 4294967295) ho hd hn hx hy ha (by decide) rfl (by
    have e : a &&& 4294967295 = a % 4294967296 := Nat.and_two_pow_sub_one_eq_mod a 32
    rw [e]; exact h))
theorem ShrK {d a : Nat} {t t' : TypeId} {x y : Operand} {kd : IntKind} (b : Nat) (h : EL C n rest ops Q ((d, u64 (a / 2 ^ b)) :: e) H) (hb : b < 64 := by omega) (hg : want ops e o = some true := by exact rfl) (ho : o.op = .binOp .shr t x y t' := by exact rfl) (hd : o.dst = some d := by exact rfl) (hn : Nat.ble n d = false := by exact rfl)
    (hx : ev e x = some (u64 a) := by exact rfl) (hy : ev e y = some (.int kd (b : Int)) := by exact rfl) : EL C n (o :: rest) ops Q e H :=
  el_cons hg (eo_shr ho hd hn hx hy ⟨by omega, by omega⟩ (by rw [Int.toNat_natCast, Nat.shiftRight_eq_div_pow]; exact h))
theorem ShlN {d a : Nat} {b : Int} {t t' : TypeId} {x y : Operand} {kd : IntKind} (r : Nat) (h : EL C n rest ops Q ((d, u64 (a * 2 ^ r % 18446744073709551616)) :: e) H) (hg : want ops e o = some true := by exact rfl) (ho : o.op = .binOp .shl t x y t' := by exact rfl) (hd : o.dst = some d := by exact rfl) (hn : Nat.ble n d = false := by exact rfl)
    (hx : ev e x = some (u64 a) := by exact rfl) (hy : ev e y = some (.int kd b) := by exact rfl) (hb : b = r := by omega) (hr : r < 64 := by omega) : EL C n (o :: rest) ops Q e H := by
  subst hb
  refine el_cons hg (eo_value hd hn (fun ac w hf hw => ?_) h)
  unfold execOp
  rw [ho]
  simp only [Sem.run_bind, hf.ev hx, hf.ev hy, u64, eqGuard_int, Result.andThen_ok, binOp, Op.shift, if_neg (show ¬ (r : Int) < 0 by omega)]
  have : min ((r : Int)).toNat IntKind.u64.bits = r := by simp [IntKind.bits]; omega
  simp only [this, Sem.run_pure, Result.andThen_ok]
  congr 3
theorem ShrN {d a : Nat} {b : Int} {t t' : TypeId} {x y : Operand} {kd : IntKind} (r : Nat) (_ha : a < 18446744073709551616) (h : EL C n rest ops Q ((d, u64 (a / 2 ^ r)) :: e) H) (hg : want ops e o = some true := by exact rfl) (ho : o.op = .binOp .shr t x y t' := by exact rfl) (hd : o.dst = some d := by exact rfl) (hn : Nat.ble n d = false := by exact rfl)
    (hx : ev e x = some (u64 a) := by exact rfl) (hy : ev e y = some (.int kd b) := by exact rfl) (hb : b = r := by omega) (hr : r ≤ 64 := by omega) : EL C n (o :: rest) ops Q e H := by
  subst hb
  refine el_cons hg (eo_value hd hn (fun ac w hf hw => ?_) h)
  unfold execOp
  rw [ho]
  simp only [Sem.run_bind, hf.ev hx, hf.ev hy, u64, eqGuard_int, Result.andThen_ok, binOp, Op.shift, if_neg (show ¬ (r : Int) < 0 by omega)]
  have : min ((r : Int)).toNat IntKind.u64.bits = r := by simp [IntKind.bits]; omega
  simp only [this, Sem.run_pure, Result.andThen_ok]
  congr 3
  rw [Int.fdiv_eq_ediv_of_nonneg _ (by exact Int.le_of_lt (Int.pow_pos (by omega)))]
  norm_cast
theorem eo_strix {d t : Nat} {x y : Operand} {kd : IntKind} {ix : Int} {s : ByteArray} {tl : TI} {b : UInt8} (ho : o.op = .index t x y) (hd : o.dst = some d) (hn : Nat.ble n d = false) (hx : ev e x = some (.string s)) (hy : ev e y = some (.int kd ix)) (ht : C.L.ti t = some tl) (hk : tl.kind = .str) (h0 : 0 ≤ ix) (hb : s[ix.toNat]? = some b)
    (h : k ((d, .int .u8 (b.toNat : Int)) :: e) H) : EO C n o Q e H k := by
  refine eo_value hd hn (fun ac w hf hw => ?_) h
  unfold execOp
  rw [ho]
  simp only [Sem.run_bind, hf.ev hx, hf.ev hy, Instr.index, asIntOf, Sem.run_pure, Result.andThen_ok, underlying_run (kind_str (C.ok _ _ ht) hk), if_pos h0, hb]
theorem rIxf {i : Nat} {x y : Operand} {kd : IntKind} {a : Option Addr} {m c t : Nat} {ix : Int} {xs : List Value} {tl te : TI} {E : TypeId} (hV : Fv w0 F te.size a xs m c) (ho : o.op = .indexAddr t x y := by exact rfl) (hx : ev e x = some (.slice a m c) := by exact rfl) (hy : ev e y = some (.int kd ix) := by exact rfl) (ht : C.L.ti t = some tl := by exact rfl) (hk : tl.kind = .slice E := by exact rfl) (hE : C.L.ti E = some te := by exact rfl) (hs' : Nat.ble 1 te.size = true := by exact rfl)
    (hi : hs[i]? = some (frz F) := by first | exact at0 | exact at1 | exact at2 | exact at3 | exact at4) (hix : 0 ≤ ix ∧ ix < m := by exact ⟨by omega, by omega⟩) : ER C n o e (Held w0 hs) (.pointer (some ⟨ob a, oo a + ix.toNat * te.size, none⟩)) := by
  refine ⟨fun ac w hf hw => ?_⟩
  have h1 := Nat.le_of_ble_eq_true hs'
  have h2 : 0 < xs.length := by rw [hV.len]; exact Nat.mul_pos (by omega) (by omega)
  have ha := ((View.know hV w (hw.one hi)).2) h2
  exact (er_idxv (I := Held w0 hs) ho hx hy ht hk hE ha hix).run ac w hf hw
theorem rLdf {i t sz m c q : Nat} {a : Option Addr} {x : Operand} {ti : TI} {v : Value} {xs : List Value} (j : Nat) (hV : Fv w0 F sz a xs m c) (hv : xs[j]? = some v) (ho : o.op = .load t x := by exact rfl) (ha : ev e x = some (.pointer (some ⟨ob a, oo a + q, none⟩)) := by exact rfl) (ht : C.L.ti t = some ti := by exact rfl) (hk : ti.kind.agg = false := by exact rfl)
    (hi : hs[i]? = some (frz F) := by first | exact at0 | exact at1 | exact at2 | exact at3 | exact at4) (hq : q = j := by first | omega | (dsimp only; omega)) : ER C n o e (Held w0 hs) v := by
  subst hq
  exact er_ldv i ho ha ht hk hi hV hv
theorem rQuo {I : WP} {t t' : TypeId} {x y : Operand} {kd : IntKind} {a b : Int} (ho : o.op = .binOp .quo t x y t' := by exact rfl) (hx : ev e x = some (.int kd a) := by exact rfl) (hy : ev e y = some (.int kd b) := by exact rfl) (ha : 0 ≤ a := by omega) (hb : 0 < b := by omega) (hr : inR kd (a / b) := by exact ⟨by omega, by omega⟩) : ER C n o e I (.int kd (a / b)) := by
  refine ⟨fun ac w hf hw => ?_⟩
  unfold execOp
  rw [ho]
  simp [hf.ev hx, hf.ev hy, eqGuard, binOp, Op.intDiv, show ¬ b = 0 by omega, Int.tdiv_eq_ediv_of_nonneg ha, wrap_in hr]
theorem rRem {I : WP} {t t' : TypeId} {x y : Operand} {kd : IntKind} {a b : Int} (ho : o.op = .binOp .rem t x y t' := by exact rfl) (hx : ev e x = some (.int kd a) := by exact rfl) (hy : ev e y = some (.int kd b) := by exact rfl) (ha : 0 ≤ a := by omega) (hb : 0 < b := by omega) : ER C n o e I (.int kd (a % b)) := by
  refine ⟨fun ac w hf hw => ?_⟩
  unfold execOp
  rw [ho]
  simp [hf.ev hx, hf.ev hy, eqGuard, binOp, Op.intDiv, show ¬ b = 0 by omega, Int.tmod_eq_emod_of_nonneg ha]
theorem rShlN {I : WP} {a : Nat} {b : Int} {t t' : TypeId} {x y : Operand} {kd : IntKind} (r : Nat) (ho : o.op = .binOp .shl t x y t' := by exact rfl) (hx : ev e x = some (u64 a) := by exact rfl) (hy : ev e y = some (.int kd b) := by exact rfl) (hb : b = r := by omega) (hr : r < 64 := by omega) : ER C n o e I (u64 (a * 2 ^ r % 18446744073709551616)) := by
  subst hb
  refine ⟨fun ac w hf hw => ?_⟩
  unfold execOp
  rw [ho]
  simp only [Sem.run_bind, hf.ev hx, hf.ev hy, u64, eqGuard_int, Result.andThen_ok, binOp, Op.shift, if_neg (show ¬ (r : Int) < 0 by omega)]
  have : min ((r : Int)).toNat IntKind.u64.bits = r := by simp [IntKind.bits]; omega
  simp only [this, Sem.run_pure, Result.andThen_ok]
  congr 3
theorem rIxr {I : WP} {x y : Operand} {kd : IntKind} {b m c t : Nat} {ix : Int} {tl te : TI} {E : TypeId} (ho : o.op = .indexAddr t x y := by exact rfl) (hx : ev e x = some (.slice (some ⟨b, 0, none⟩) m c) := by exact rfl) (hy : ev e y = some (.int kd ix) := by exact rfl) (ht : C.L.ti t = some tl := by exact rfl) (hk : tl.kind = .slice E := by exact rfl) (hE : C.L.ti E = some te := by exact rfl)
    (hix : 0 ≤ ix ∧ ix < m := by exact ⟨by omega, by omega⟩) : ER C n o e I (.pointer (some ⟨b, ix.toNat * te.size, none⟩)) := by
  have h := er_idxv (C := C) (n := n) (e := e) (I := I) ho hx hy ht hk hE rfl hix
  simpa only [ob, oo, Option.getD_some, Nat.zero_add] using h
theorem rLdR {i t T sz m q : Nat} {r : Option (Nat × Nat)} {x : Operand} {ti : TI} {v : Value} {xs : List Value} (j : Nat) (hv : xs[j]? = some v) (ho : o.op = .load t x := by exact rfl) (ha : ev e x = some (.pointer (some ⟨blk r, q, none⟩)) := by exact rfl) (ht : C.L.ti t = some ti := by exact rfl) (hk : ti.kind.agg = false := by exact rfl)
    (hi : hs[i]? = some (rowC r T sz xs m) := by first | exact at0 | exact at1 | exact at2 | exact at3 | exact at4) (hq : q = j := by first | omega | (dsimp only; omega)) : ER C n o e (Held w0 hs) v := by
  subst hq
  exact er_ldr i ho ha ht hk hi hv
theorem rExt {I : WP} {c : Call} {f : Nat} {first capt args argv : List Value} {v : Value} (hx : ∀ w, (callFunc f argv.toArray).run C.P w = .ok (.value v) w) (ho : o.op = .call c := by exact rfl) (hc : callee e c.callee = some (f, first, capt) := by exact rfl) (ha : evs e c.args.toList = some args := by exact rfl) (hargs : first ++ args ++ capt = argv := by exact rfl) : ER C n o e I v := by
  subst hargs
  exact ⟨fun a w hf _ => ext_run hf ho hc ha (hx w)⟩
theorem Ex {c : Call} {d f : Nat} {first capt args argv : List Value} {v : Value} (hx : ∀ w, (callFunc f argv.toArray).run C.P w = .ok (.value v) w) (h : EL C n rest ops Q ((d, v) :: e) H) (hg : want ops e o = some true := by exact rfl) (ho : o.op = .call c := by exact rfl) (hd : o.dst = some d := by exact rfl) (hn : Nat.ble n d = false := by exact rfl) (hc : callee e c.callee = some (f, first, capt) := by exact rfl)
    (ha : evs e c.args.toList = some args := by exact rfl) (hargs : first ++ args ++ capt = argv := by exact rfl) : EL C n (o :: rest) ops Q e H := by
  subst hargs
  exact el_cons hg (eo_ext (fun w _ => hx w) h ho hd hn hc ha)
theorem held1 {p : HP} {i : Nat} (hi : l[i]? = some p) : ∀ w, S w0 l w → Held w0 [p] w := held (.cons i hi .nil)
theorem held2 {p q : HP} {i j : Nat} (hi : l[i]? = some p) (hj : l[j]? = some q) : ∀ w, S w0 l w → Held w0 [p, q] w := held (.cons i hi (.cons j hj .nil))
theorem held3 {p q r : HP} {i j k : Nat} (hi : l[i]? = some p) (hj : l[j]? = some q) (hk : l[k]? = some r) : ∀ w, S w0 l w → Held w0 [p, q, r] w := held (.cons i hi (.cons j hj (.cons k hk .nil)))
theorem tv {I : WP} {fuel : Nat} {listed : List Bool} (i : Nat) {d : Nat} {v : Value} {oi : Oper} (hi : ops[i]? = some oi) (hv : ER C n oi e I v) (h : EH C n I fuel (listed.set i true) ops (.calm Q) ((d, v) :: e) H) (hI : ∀ w, H w → I w := by assumption) (hs : Region.noSelect ops = true := by kernel_rfl) (hfr : Region.free .any ops listed.toArray i = true := by kernel_rfl)
    (hr : (Region.ready .any ops listed.toArray).contains i = true := by kernel_rfl) (hg : want ops e oi = some true := by exact rfl) (hd : oi.dst = some d := by exact rfl) (hn : Nat.ble n d = false := by exact rfl) : EH C n I (fuel + 1) listed ops (.calm Q) e H := eh_load i hI hi hs hfr hr hg hd hn hv h
theorem wv {I : WP} {fuel : Nat} {listed : List Bool} (i : Nat) {oi : Oper} (hi : ops[i]? = some oi) (h : EO C n oi Q e H fun e' H' => (∀ w, H' w → I w) ∧ EH C n I fuel (listed.set i true) ops Q e' H') (hr : Region.ready .any ops listed.toArray = [i] := by kernel_rfl) (hg : want ops e oi = some true := by exact rfl) : EH C n I (fuel + 1) listed ops Q e H := eh_way i hr (hway hi hg h)
theorem w1 {I : WP} {fuel : Nat} {listed : List Bool} (i : Nat) {oi : Oper} (hi : ops[i]? = some oi) {c : Call} {d f : Nat} {first capt args argv : List Value} {V : Value} {H' : WP} (hs : Does C f argv H fun v w => v = V ∧ H' w) (hr : Real C.P f) (hI : ∀ w, H' w → I w) (h : EH C n I fuel (listed.set i true) ops Q ((d, V) :: e) H') (hrd : Region.ready .any ops listed.toArray = [i] := by kernel_rfl) (hg : want ops e oi = some true := by exact rfl)
    (ho : oi.op = .call c := by exact rfl) (hd : oi.dst = some d := by exact rfl) (hn : Nat.ble n d = false := by exact rfl) (hc : callee e c.callee = some (f, first, capt) := by exact rfl) (ha : evs e c.args.toList = some args := by exact rfl) (hargs : first ++ args ++ capt = argv := by exact rfl) : EH C n I (fuel + 1) listed ops Q e H := by
  subst hargs
  exact eh_way i hrd (hway hi hg (eo_call1 ho hd hn hc ha hr hs ⟨hI, h⟩))
theorem wx {I : WP} {fuel : Nat} {listed : List Bool} (i : Nat) {oi : Oper} (hi : ops[i]? = some oi) {c : Call} {d f : Nat} {first capt args argv : List Value} {α : Type} {V : α → Value} {φ : α → Prop} {H' : α → WP} (hs : Does C f argv H fun v w => ∃ x, v = V x ∧ φ x ∧ H' x w) (hr : Real C.P f) (h : ∀ x, φ x → (∀ w, H' x w → I w) ∧ EH C n I fuel (listed.set i true) ops Q ((d, V x) :: e) (H' x)) (hrd : Region.ready .any ops listed.toArray = [i] := by kernel_rfl) (hg : want ops e oi = some true := by exact rfl)
    (ho : oi.op = .call c := by exact rfl) (hd : oi.dst = some d := by exact rfl) (hn : Nat.ble n d = false := by exact rfl) (hc : callee e c.callee = some (f, first, capt) := by exact rfl) (ha : evs e c.args.toList = some args := by exact rfl) (hargs : first ++ args ++ capt = argv := by exact rfl) : EH C n I (fuel + 1) listed ops Q e H := by
  subst hargs
  exact eh_way i hrd (hway hi hg (eo_callx ho hd hn hc ha hr hs h))
theorem does_at {f : FuncId} {argv : List Value} {α : Type} {V : α → Value} {φ : α → Prop} {p : HP} {p' : α → HP} {i : Nat} (hs : ∀ l, Does C f argv (S w0 (p :: l)) fun v w => ∃ x, v = V x ∧ φ x ∧ S w0 (p' x :: l) w) (hi : l[i]? = some p) :
    Does C f argv (S w0 l) fun v w => ∃ x, v = V x ∧ φ x ∧ S w0 (l.set i (p' x)) w :=
  Does.mono (hs (l.eraseIdx i)) (fun _ hw => hw.perm (perm_front hi)) fun _ _ ⟨x, h1, h2, h3⟩ => ⟨x, h1, h2, h3.perm (set_front hi).symm⟩
theorem does_at2 {f : FuncId} {argv : List Value} {α : Type} {V : α → Value} {φ : α → Prop} {p q : HP} {p' q' : α → HP} {i j : Nat} (hs : ∀ l, Does C f argv (S w0 (p :: q :: l)) fun v w => ∃ x, v = V x ∧ φ x ∧ S w0 (p' x :: q' x :: l) w) (hi : l[i]? = some p) (hj : l[j]? = some q) (hij : i ≠ j) :
    Does C f argv (S w0 l) fun v w => ∃ x, v = V x ∧ φ x ∧ S w0 ((l.set i (p' x)).set j (q' x)) w := by
  obtain ⟨R, h1, h2⟩ := perm_two hi hj hij
  refine Does.mono (hs R) (fun _ hw => hw.perm h1) fun _ _ ⟨x, h3, h4, h5⟩ => ⟨x, h3, h4, h5.perm ?_⟩
  have hjs : (l.set i (p' x))[j]? = some q := by rw [List.getElem?_set_ne hij]; exact hj
  have h6 := set_front (q := q' x) hjs
  exact ((h6.trans ((h2 (p' x)).cons _)).trans (List.Perm.swap _ _ _)).symm
theorem Fr2 {c : Call} {d f i j : Nat} {first capt args argv : List Value} {α : Type} {V : α → Value} {φ : α → Prop} {p q : HP} {p' q' : α → HP} (hs : ∀ l, Does C f argv (S w0 (p :: q :: l)) fun v w => ∃ x, v = V x ∧ φ x ∧ S w0 (p' x :: q' x :: l) w) (hr : Real C.P f) (h : ∀ x, φ x → EL C n rest ops Q ((d, V x) :: e) (S w0 ((l.set i (p' x)).set j (q' x))))
    (hg : want ops e o = some true := by exact rfl) (ho : o.op = .call c := by exact rfl) (hd : o.dst = some d := by exact rfl) (hn : Nat.ble n d = false := by exact rfl) (hc : callee e c.callee = some (f, first, capt) := by exact rfl) (ha : evs e c.args.toList = some args := by exact rfl) (hargs : first ++ args ++ capt = argv := by exact rfl) (hi : l[i]? = some p := by first | exact at0 | exact at1 | exact at2 | exact at3 | exact at4 | exact at5 | exact at6 | exact at7 | exact at8 | exact at9 | exact at10 | exact at11 | exact at12 | assumption | exact nx (by assumption) | exact nx (nx (by assumption)) | exact nx (nx (nx (by assumption)))) (hj : l[j]? = some q := by first | exact at0 | exact at1 | exact at2 | exact at3 | exact at4 | exact at5 | exact at6 | exact at7 | exact at8 | exact at9 | exact at10 | exact at11 | exact at12 | assumption | exact nx (by assumption) | exact nx (nx (by assumption)) | exact nx (nx (nx (by assumption)))) (hij : i ≠ j := by omega) : EL C n (o :: rest) ops Q e (S w0 l) :=
  Cx1 (does_at2 hs hi hj hij) hr h hg ho hd hn hc ha hargs
abbrev Giv (C : Cx) (f : FuncId) (argv : List Value) (w0 : World) (F : Hp) {β : Type} (V : β → Value) (φ : Hp → β → Prop) : Prop :=
  ∀ l, Does C f argv (S w0 (frz F :: l)) fun v w => ∃ x : Hp × β, v = V x.2 ∧ (Up F x.1 ∧ φ x.1 x.2) ∧ S w0 (frz x.1 :: l) w
theorem G0 {c : Call} {d f i : Nat} {first capt args argv : List Value} {β : Type} {V : β → Value} {φ : Hp → β → Prop} (hs : Giv C f argv w0 F V φ) (hr : Real C.P f) (h : ∀ G v, Up F G → φ G v → EL C n rest ops Q ((d, V v) :: e) (S w0 (l.set i (frz G))))
    (hg : want ops e o = some true := by exact rfl) (ho : o.op = .call c := by exact rfl) (hd : o.dst = some d := by exact rfl) (hn : Nat.ble n d = false := by exact rfl) (hc : callee e c.callee = some (f, first, capt) := by exact rfl) (ha : evs e c.args.toList = some args := by exact rfl) (hargs : first ++ args ++ capt = argv := by exact rfl) (hi : l[i]? = some (frz F) := by first | exact at0 | exact at1 | exact at2 | exact at3 | exact at4 | exact at5 | exact at6 | exact at7 | exact at8 | exact at9 | exact at10 | exact at11 | exact at12 | assumption | exact nx (by assumption) | exact nx (nx (by assumption)) | exact nx (nx (nx (by assumption)))) : EL C n (o :: rest) ops Q e (S w0 l) :=
  Cx1 (does_at hs hi) hr (fun x hx => h x.1 x.2 hx.1 hx.2) hg ho hd hn hc ha hargs
theorem wg0 {I : WP} {fuel : Nat} {listed : List Bool} (i : Nat) {oi : Oper} (hii : ops[i]? = some oi) {c : Call} {d f j : Nat} {first capt args argv : List Value} {β : Type} {V : β → Value} {φ : Hp → β → Prop} (hs : Giv C f argv w0 F V φ) (hr : Real C.P f) (h : ∀ G v, Up F G → φ G v → (∀ w, S w0 (l.set j (frz G)) w → I w) ∧ EH C n I fuel (listed.set i true) ops Q ((d, V v) :: e) (S w0 (l.set j (frz G))))
    (hrd : Region.ready .any ops listed.toArray = [i] := by kernel_rfl) (hg : want ops e oi = some true := by exact rfl) (ho : oi.op = .call c := by exact rfl) (hd : oi.dst = some d := by exact rfl) (hn : Nat.ble n d = false := by exact rfl) (hc : callee e c.callee = some (f, first, capt) := by exact rfl) (ha : evs e c.args.toList = some args := by exact rfl) (hargs : first ++ args ++ capt = argv := by exact rfl) (hi : l[j]? = some (frz F) := by first | exact at0 | exact at1 | exact at2 | exact at3 | exact at4 | exact at5 | exact at6 | exact at7 | exact at8 | exact at9 | exact at10 | exact at11 | exact at12 | assumption | exact nx (by assumption) | exact nx (nx (by assumption)) | exact nx (nx (nx (by assumption)))) : EH C n I (fuel + 1) listed ops Q e (S w0 l) :=
  wx i hii (does_at hs hi) hr (fun x hx => h x.1 x.2 hx.1 hx.2) hrd hg ho hd hn hc ha hargs
theorem ej_join {α : Type} (φ : α → Prop) (E0 : α → Env) (H0 : α → WP) {x : Code} (h1 : (∀ a, φ a → EQ C n .normal Q (E0 a) (H0 a)) → EJ C n x (.stop Q) e H) (h2 : ∀ a, φ a → EQ C n .normal Q (E0 a) (H0 a)) : EJ C n x Q e H := ⟨(h1 h2).run⟩
theorem ej_join2 {α β : Type} (φ : α → β → Prop) (E0 : α → β → Env) (H0 : α → β → WP) {x : Code} (h1 : (∀ a b, φ a b → EQ C n .normal Q (E0 a b) (H0 a b)) → EJ C n x (.stop Q) e H) (h2 : ∀ a b, φ a b → EQ C n .normal Q (E0 a b) (H0 a b)) : EJ C n x Q e H := ⟨(h1 h2).run⟩
theorem meet {E0 : Env} {H0 : WP} (k : EQ C n .normal Q E0 H0) (he : le E0 e) (hH : ∀ w, H w → H0 w) : EQ C n .normal (.stop Q) e H := ⟨fun a w hf hw => k.run a w (hf.mono he) (hH w hw)⟩
end Go.SE
namespace Go.Proofs.YtpbnjifefoniiaaGreatDoor
open Go Go.SE
def lay : Lay := [
  (1, ⟨.func, 1, 8, .nilFunc⟩),
  (2, ⟨.int .i64, 1, 8, .int .i64 0⟩),
  (3, ⟨.int .i64, 1, 8, .int .i64 0⟩),
  (4, ⟨.bool, 1, 1, .bool false⟩),
  (5, ⟨.int .u8, 1, 1, .int .u8 0⟩),
  (9, ⟨.str, 1, 16, .string ByteArray.empty⟩),
  (21, ⟨.int .i32, 1, 4, .int .i32 0⟩),
  (23, ⟨.int .u64, 1, 8, .int .u64 0⟩),
  (24, ⟨.int .u64, 1, 8, .int .u64 0⟩),
  (25, ⟨.ptr 125, 1, 8, .pointer none⟩),
  (26, ⟨.int .i64, 1, 8, .int .i64 0⟩),
  (29, ⟨.slice 24, 1, 24, .slice none 0 0⟩),
  (31, ⟨.struct [(3, 0), (3, 1), (3, 2), (29, 3)], 4, 48, .agg #[.int .i64 0, .int .i64 0, .int .i64 0, .slice none 0 0]⟩),
  (34, ⟨.slice 3, 1, 24, .slice none 0 0⟩),
  (37, ⟨.slice 23, 1, 24, .slice none 0 0⟩),
  (39, ⟨.struct [(3, 0), (3, 1), (3, 2), (37, 3)], 4, 48, .agg #[.int .i64 0, .int .i64 0, .int .i64 0, .slice none 0 0]⟩),
  (40, ⟨.slice 59, 1, 24, .slice none 0 0⟩),
  (41, ⟨.array 64 3, 64, 512, .agg (List.toArray (List.replicate 64 (Value.int .i64 0)))⟩),
  (43, ⟨.array 64 4, 64, 64, .agg (List.toArray (List.replicate 64 (Value.bool false)))⟩),
  (45, ⟨.struct [(3, 0), (41, 1), (43, 65)], 129, 584, .agg (List.toArray (List.replicate 65 (Value.int .i64 0) ++ List.replicate 64 (Value.bool false)))⟩),
  (46, ⟨.slice 241, 1, 24, .slice none 0 0⟩),
  (48, ⟨.struct [(3, 0), (3, 1), (46, 2)], 3, 40, .agg #[.int .i64 0, .int .i64 0, .slice none 0 0]⟩),
  (49, ⟨.slice 223, 1, 24, .slice none 0 0⟩),
  (50, ⟨.slice 181, 1, 24, .slice none 0 0⟩),
  (51, ⟨.slice 315, 1, 24, .slice none 0 0⟩),
  (52, ⟨.array 64 51, 64, 1536, .agg (List.toArray (List.replicate 64 (Value.slice none 0 0)))⟩),
  (53, ⟨.slice 239, 1, 24, .slice none 0 0⟩),
  (55, ⟨.struct [(3, 0), (3, 1), (3, 2), (45, 3), (48, 132), (49, 135), (50, 136), (52, 137), (41, 201), (53, 265)], 266, 2768, .agg (List.toArray (List.replicate 68 (Value.int .i64 0) ++ List.replicate 64 (Value.bool false) ++ [.int .i64 0, .int .i64 0] ++ List.replicate 67 (Value.slice none 0 0) ++ List.replicate 64 (Value.int .i64 0) ++ [.slice none 0 0]))⟩),
  (59, ⟨.struct [(5, 0), (3, 1), (3, 2), (23, 3)], 4, 32, .agg #[.int .u8 0, .int .i64 0, .int .i64 0, .int .u64 0]⟩),
  (64, ⟨.slice 5, 1, 24, .slice none 0 0⟩),
  (65, ⟨.map 3 68, 1, 8, .map none⟩),
  (68, ⟨.struct [(3, 0), (3, 1), (3, 2), (3, 3), (24, 4), (4, 5), (4, 6), (3, 7), (3, 8), (3, 9), (3, 10)], 11, 80, .agg #[.int .i64 0, .int .i64 0, .int .i64 0, .int .i64 0, .int .u64 0, .bool false, .bool false, .int .i64 0, .int .i64 0, .int .i64 0, .int .i64 0]⟩),
  (71, ⟨.ptr 121, 1, 8, .pointer none⟩),
  (83, ⟨.struct [(3, 0), (3, 1), (3, 2), (3, 3)], 4, 32, .agg #[.int .i64 0, .int .i64 0, .int .i64 0, .int .i64 0]⟩),
  (86, ⟨.array 3 3, 3, 24, .agg #[.int .i64 0, .int .i64 0, .int .i64 0]⟩),
  (88, ⟨.slice 23, 1, 24, .slice none 0 0⟩),
  (90, ⟨.struct [(88, 0), (88, 1)], 2, 48, .agg #[.slice none 0 0, .slice none 0 0]⟩),
  (92, ⟨.ptr 192, 1, 8, .pointer none⟩),
  (95, ⟨.ptr 195, 1, 8, .pointer none⟩),
  (98, ⟨.ptr 198, 1, 8, .pointer none⟩),
  (101, ⟨.map 3 139, 1, 8, .map none⟩),
  (103, ⟨.struct [], 0, 0, .agg #[]⟩),
  (104, ⟨.struct [], 0, 0, .agg #[]⟩),
  (105, ⟨.int .u32, 1, 4, .int .u32 0⟩),
  (107, ⟨.struct [(104, 0), (105, 0)], 1, 4, .agg #[.int .u32 0]⟩),
  (109, ⟨.struct [(21, 0), (105, 1)], 2, 8, .agg #[.int .i32 0, .int .u32 0]⟩),
  (111, ⟨.struct [(103, 0), (109, 0)], 2, 8, .agg #[.int .i32 0, .int .u32 0]⟩),
  (113, ⟨.struct [(103, 0), (107, 0), (111, 1)], 3, 12, .agg #[.int .u32 0, .int .i32 0, .int .u32 0]⟩),
  (114, ⟨.map 3 261, 1, 8, .map none⟩),
  (116, ⟨.struct [(113, 0), (111, 3), (114, 5)], 6, 32, .agg #[.int .u32 0, .int .i32 0, .int .u32 0, .int .i32 0, .int .u32 0, .map none]⟩),
  (117, ⟨.struct [], 0, 0, .agg #[]⟩),
  (119, ⟨.struct [(104, 0), (117, 0), (2, 0)], 1, 8, .agg #[.int .i64 0]⟩),
  (121, ⟨.struct [(116, 0), (116, 6), (116, 12), (116, 18), (119, 24)], 25, 136, .agg #[.int .u32 0, .int .i32 0, .int .u32 0, .int .i32 0, .int .u32 0, .map none, .int .u32 0, .int .i32 0, .int .u32 0, .int .i32 0, .int .u32 0, .map none, .int .u32 0, .int .i32 0, .int .u32 0, .int .i32 0, .int .u32 0, .map none, .int .u32 0, .int .i32 0, .int .u32 0, .int .i32 0, .int .u32 0, .map none, .int .i64 0]⟩),
  (122, ⟨.slice 129, 1, 24, .slice none 0 0⟩),
  (123, ⟨.ptr 138, 1, 8, .pointer none⟩),
  (125, ⟨.struct [(3, 0), (92, 1), (98, 2), (95, 3), (101, 4), (122, 5), (123, 6), (41, 7), (71, 71)], 72, 592, .agg (List.toArray ([.int .i64 0, .pointer none, .pointer none, .pointer none, .map none, .slice none 0 0, .pointer none] ++ List.replicate 64 (Value.int .i64 0) ++ [.pointer none]))⟩),
  (129, ⟨.ptr 204, 1, 8, .pointer none⟩),
  (133, ⟨.func, 1, 8, .nilFunc⟩),
  (134, ⟨.func, 1, 8, .nilFunc⟩),
  (136, ⟨.ptr 286, 1, 8, .pointer none⟩),
  (138, ⟨.struct [(136, 0), (34, 1)], 2, 32, .agg #[.pointer none, .slice none 0 0]⟩),
  (139, ⟨.ptr 143, 1, 8, .pointer none⟩),
  (141, ⟨.struct [(3, 0), (3, 1), (3, 2)], 3, 24, .agg #[.int .i64 0, .int .i64 0, .int .i64 0]⟩),
  (143, ⟨.struct [(3, 0), (3, 1), (3, 2), (24, 3), (4, 4), (4, 5), (3, 6), (141, 7)], 10, 72, .agg #[.int .i64 0, .int .i64 0, .int .i64 0, .int .u64 0, .bool false, .bool false, .int .i64 0, .int .i64 0, .int .i64 0, .int .i64 0]⟩),
  (157, ⟨.map 3 3, 1, 8, .map none⟩),
  (159, ⟨.func, 1, 8, .nilFunc⟩),
  (179, ⟨.slice 83, 1, 24, .slice none 0 0⟩),
  (181, ⟨.struct [(3, 0), (179, 1)], 2, 32, .agg #[.int .i64 0, .slice none 0 0]⟩),
  (192, ⟨.struct [(29, 0), (24, 1)], 2, 32, .agg #[.slice none 0 0, .int .u64 0]⟩),
  (193, ⟨.func, 1, 8, .nilFunc⟩),
  (195, ⟨.struct [(34, 0), (3, 1)], 2, 32, .agg #[.slice none 0 0, .int .i64 0]⟩),
  (196, ⟨.map 3 267, 1, 8, .map none⟩),
  (198, ⟨.struct [(95, 0), (196, 1)], 2, 16, .agg #[.pointer none, .map none]⟩),
  (202, ⟨.map 3 141, 1, 8, .map none⟩),
  (204, ⟨.struct [(3, 0), (202, 1)], 2, 16, .agg #[.int .i64 0, .map none]⟩),
  (206, ⟨.struct [(3, 0), (3, 1), (3, 2), (3, 3), (3, 4), (3, 5), (3, 6)], 7, 56, .agg #[.int .i64 0, .int .i64 0, .int .i64 0, .int .i64 0, .int .i64 0, .int .i64 0, .int .i64 0]⟩),
  (211, ⟨.slice 43, 1, 24, .slice none 0 0⟩),
  (223, ⟨.struct [(3, 0), (3, 1), (3, 2), (43, 3), (4, 67), (4, 68), (3, 69), (3, 70), (3, 71)], 72, 120, .agg (List.toArray ([.int .i64 0, .int .i64 0, .int .i64 0] ++ List.replicate 66 (Value.bool false) ++ [.int .i64 0, .int .i64 0, .int .i64 0]))⟩),
  (239, ⟨.struct [(3, 0), (3, 1), (34, 2), (4, 3)], 4, 48, .agg #[.int .i64 0, .int .i64 0, .slice none 0 0, .bool false]⟩),
  (241, ⟨.struct [(3, 0), (3, 1), (3, 2), (3, 3), (3, 4)], 5, 40, .agg #[.int .i64 0, .int .i64 0, .int .i64 0, .int .i64 0, .int .i64 0]⟩),
  (255, ⟨.ptr 119, 1, 8, .pointer none⟩),
  (258, ⟨.ptr 116, 1, 8, .pointer none⟩),
  (260, ⟨.struct [(119, 0)], 1, 8, .agg #[.int .i64 0]⟩),
  (261, ⟨.ptr 260, 1, 8, .pointer none⟩),
  (267, ⟨.ptr 270, 1, 8, .pointer none⟩),
  (270, ⟨.struct [(3, 0), (267, 1), (3, 2), (3, 3), (3, 4), (3, 5), (3, 6)], 7, 56, .agg #[.int .i64 0, .pointer none, .int .i64 0, .int .i64 0, .int .i64 0, .int .i64 0, .int .i64 0]⟩),
  (272, ⟨.array 64 5, 64, 64, .agg (List.toArray (List.replicate 64 (Value.int .u8 0)))⟩),
  (273, ⟨.int .u64, 1, 8, .int .u64 0⟩),
  (284, ⟨.slice 288, 1, 24, .slice none 0 0⟩),
  (286, ⟨.struct [(284, 0), (3, 1), (34, 2)], 3, 56, .agg #[.slice none 0 0, .int .i64 0, .slice none 0 0]⟩),
  (288, ⟨.struct [(3, 0), (3, 1), (3, 2)], 3, 24, .agg #[.int .i64 0, .int .i64 0, .int .i64 0]⟩),
  (289, ⟨.slice 267, 1, 24, .slice none 0 0⟩),
  (299, ⟨.slice 301, 1, 24, .slice none 0 0⟩),
  (301, ⟨.struct [(3, 0), (3, 1)], 2, 16, .agg #[.int .i64 0, .int .i64 0]⟩),
  (302, ⟨.slice 309, 1, 24, .slice none 0 0⟩),
  (307, ⟨.slice 3, 1, 24, .slice none 0 0⟩),
  (309, ⟨.struct [(307, 0), (307, 1)], 2, 48, .agg #[.slice none 0 0, .slice none 0 0]⟩),
  (315, ⟨.struct [(3, 0), (3, 1)], 2, 16, .agg #[.int .i64 0, .int .i64 0]⟩),
  (327, ⟨.func, 1, 8, .nilFunc⟩),
  (328, ⟨.slice 329, 1, 24, .slice none 0 0⟩),
  (329, ⟨.struct [(3, 0), (3, 1)], 2, 16, .agg #[.int .i64 0, .int .i64 0]⟩),
  (330, ⟨.slice 90, 1, 24, .slice none 0 0⟩),
  (335, ⟨.func, 1, 8, .nilFunc⟩),
  (336, ⟨.func, 1, 8, .nilFunc⟩),
  (349, ⟨.slice 352, 1, 24, .slice none 0 0⟩),
  (352, ⟨.struct [(3, 0), (3, 1), (3, 2), (3, 3)], 4, 32, .agg #[.int .i64 0, .int .i64 0, .int .i64 0, .int .i64 0]⟩),
  (362, ⟨.int .i64, 1, 8, .int .i64 0⟩),
  (370, ⟨.ptr 113, 1, 8, .pointer none⟩),
  (371, ⟨.ptr 111, 1, 8, .pointer none⟩),
  (373, ⟨.ptr 378, 1, 8, .pointer none⟩),
  (376, ⟨.map 3 90, 1, 8, .map none⟩),
  (378, ⟨.struct [(98, 0), (328, 1), (157, 2), (330, 3), (376, 4)], 5, 72, .agg #[.pointer none, .slice none 0 0, .map none, .slice none 0 0, .map none]⟩),
  (379, ⟨.func, 1, 8, .nilFunc⟩),
  (387, ⟨.int .u64, 1, 8, .int .u64 0⟩),
  (391, ⟨.ptr 3, 1, 8, .pointer none⟩),
  (393, ⟨.ptr 107, 1, 8, .pointer none⟩),
  (397, ⟨.ptr 109, 1, 8, .pointer none⟩),
  (401, ⟨.other, 1, 8, .pointer none⟩),
  (409, ⟨.ptr 387, 1, 8, .pointer none⟩),
  (419, ⟨.slice 424, 1, 24, .slice none 0 0⟩),
  (424, ⟨.struct [(3, 0), (3, 1)], 2, 16, .agg #[.int .i64 0, .int .i64 0]⟩),
  (431, ⟨.func, 1, 8, .nilFunc⟩),
  (432, ⟨.func, 1, 8, .nilFunc⟩),
  (434, ⟨.func, 1, 8, .nilFunc⟩),
  (439, ⟨.func, 1, 8, .nilFunc⟩)]
theorem lay_eq : lay.map (fun x => tiOf Tryz.prog x.1) = lay.map fun x => some (x.2.kind, x.2.size, x.2.bytes, x.2.zero) := by kernel_rfl
theorem lay_ok : lay.Ok Tryz.prog := Lay.ok_of _ _ lay_eq
theorem mixed : Tryz.prog.follows .mixedOrders = true := by kernel_rfl
noncomputable def cx : Cx := { P := Tryz.prog, L := lay, ok := lay_ok, mo := mixed }
abbrev T_int : Nat := 3
abbrev T_uint8 : Nat := 5
abbrev T_uint64 : Nat := 23
abbrev T_mask_Set : Nat := 24
abbrev T_P_state_System : Nat := 25
abbrev T_state_Config : Nat := 31
abbrev T_S_int : Nat := 34
abbrev T_ref01_Set : Nat := 43
abbrev T_state_Thread : Nat := 68
abbrev T_nat_Nat : Nat := 88
abbrev T_ratio_Ratio : Nat := 90
abbrev T_tally_Tally : Nat := 121
abbrev T_P_lane_Lanes : Nat := 123
abbrev T_state_System : Nat := 125
abbrev T_P_round_Book : Nat := 129
abbrev T_P_ring_Rings : Nat := 136
abbrev T_lane_Lanes : Nat := 138
abbrev T_round_Entry : Nat := 141
abbrev T_state_record : Nat := 143
abbrev T_topo_Topo : Nat := 192
abbrev T_table_Table : Nat := 195
abbrev T_tree_Forest : Nat := 198
abbrev T_round_Book : Nat := 204
abbrev T_tree_Group : Nat := 206
abbrev T_P_tree_node : Nat := 267
abbrev T_tree_node : Nat := 270
abbrev T_64_uint8 : Nat := 272
abbrev T_ring_Rings : Nat := 286
abbrev T_ring_link : Nat := 288
abbrev T_share_Leaf : Nat := 329
abbrev T_P_share_solver : Nat := 373
abbrev T_share_solver : Nat := 378
abbrev T_S_fill_child : Nat := 419
abbrev T_fill_child : Nat := 424
abbrev F_law18_LifeEven : Nat := 3
abbrev N_law18_LifeEven : Nat := 87
noncomputable abbrev B_law18_LifeEven : Func := Tryz.f3
theorem fn_law18_LifeEven : cx.P.funcs[F_law18_LifeEven]? = some B_law18_LifeEven := Tryz.func3
abbrev F_law18_awake : Nat := 7
abbrev N_law18_awake : Nat := 52
noncomputable abbrev B_law18_awake : Func := Tryz.f7
theorem fn_law18_awake : cx.P.funcs[F_law18_awake]? = some B_law18_awake := Tryz.func7
theorem real_law18_awake : Real cx.P F_law18_awake := ⟨_, Tryz.func7, rfl, rfl⟩
abbrev F_state_New : Nat := 8
abbrev N_state_New : Nat := 94
noncomputable abbrev B_state_New : Func := Tryz.f8
theorem fn_state_New : cx.P.funcs[F_state_New]? = some B_state_New := Tryz.func8
theorem real_state_New : Real cx.P F_state_New := ⟨_, Tryz.func8, rfl, rfl⟩
abbrev F_life_Spawn : Nat := 9
abbrev N_life_Spawn : Nat := 27
noncomputable abbrev B_life_Spawn : Func := Tryz.f9
theorem fn_life_Spawn : cx.P.funcs[F_life_Spawn]? = some B_life_Spawn := Tryz.func9
theorem real_life_Spawn : Real cx.P F_life_Spawn := ⟨_, Tryz.func9, rfl, rfl⟩
abbrev F_state_System_Lane : Nat := 10
abbrev N_state_System_Lane : Nat := 27
noncomputable abbrev B_state_System_Lane : Func := Tryz.f10
theorem fn_state_System_Lane : cx.P.funcs[F_state_System_Lane]? = some B_state_System_Lane := Tryz.func10
theorem real_state_System_Lane : Real cx.P F_state_System_Lane := ⟨_, Tryz.func10, rfl, rfl⟩
abbrev F_state_System_Awake : Nat := 11
abbrev N_state_System_Awake : Nat := 42
noncomputable abbrev B_state_System_Awake : Func := Tryz.f11
theorem fn_state_System_Awake : cx.P.funcs[F_state_System_Awake]? = some B_state_System_Awake := Tryz.func11
theorem real_state_System_Awake : Real cx.P F_state_System_Awake := ⟨_, Tryz.func11, rfl, rfl⟩
abbrev F_state_System_Ids : Nat := 16
abbrev N_state_System_Ids : Nat := 8
noncomputable abbrev B_state_System_Ids : Func := Tryz.f16
theorem fn_state_System_Ids : cx.P.funcs[F_state_System_Ids]? = some B_state_System_Ids := Tryz.func16
theorem real_state_System_Ids : Real cx.P F_state_System_Ids := ⟨_, Tryz.func16, rfl, rfl⟩
abbrev F_state_System_Thread : Nat := 17
abbrev N_state_System_Thread : Nat := 75
noncomputable abbrev B_state_System_Thread : Func := Tryz.f17
theorem fn_state_System_Thread : cx.P.funcs[F_state_System_Thread]? = some B_state_System_Thread := Tryz.func17
theorem real_state_System_Thread : Real cx.P F_state_System_Thread := ⟨_, Tryz.func17, rfl, rfl⟩
abbrev F_state_System_Effective : Nat := 23
abbrev N_state_System_Effective : Nat := 36
noncomputable abbrev B_state_System_Effective : Func := Tryz.f23
theorem fn_state_System_Effective : cx.P.funcs[F_state_System_Effective]? = some B_state_System_Effective := Tryz.func23
theorem real_state_System_Effective : Real cx.P F_state_System_Effective := ⟨_, Tryz.func23, rfl, rfl⟩
abbrev F_state_System_Wake : Nat := 25
abbrev N_state_System_Wake : Nat := 76
noncomputable abbrev B_state_System_Wake : Func := Tryz.f25
theorem fn_state_System_Wake : cx.P.funcs[F_state_System_Wake]? = some B_state_System_Wake := Tryz.func25
theorem real_state_System_Wake : Real cx.P F_state_System_Wake := ⟨_, Tryz.func25, rfl, rfl⟩
abbrev F_mask_Set_First : Nat := 26
abbrev N_mask_Set_First : Nat := 7
noncomputable abbrev B_mask_Set_First : Func := Tryz.f26
theorem fn_mask_Set_First : cx.P.funcs[F_mask_Set_First]? = some B_mask_Set_First := Tryz.func26
theorem real_mask_Set_First : Real cx.P F_mask_Set_First := ⟨_, Tryz.func26, rfl, rfl⟩
abbrev F_slice_Of : Nat := 28
abbrev N_slice_Of : Nat := 32
noncomputable abbrev B_slice_Of : Func := Tryz.f28
theorem fn_slice_Of : cx.P.funcs[F_slice_Of]? = some B_slice_Of := Tryz.func28
theorem real_slice_Of : Real cx.P F_slice_Of := ⟨_, Tryz.func28, rfl, rfl⟩
abbrev F_ratio_Int : Nat := 29
abbrev N_ratio_Int : Nat := 9
noncomputable abbrev B_ratio_Int : Func := Tryz.f29
theorem fn_ratio_Int : cx.P.funcs[F_ratio_Int]? = some B_ratio_Int := Tryz.func29
theorem real_ratio_Int : Real cx.P F_ratio_Int := ⟨_, Tryz.func29, rfl, rfl⟩
abbrev F_topo_New : Nat := 30
abbrev N_topo_New : Nat := 45
noncomputable abbrev B_topo_New : Func := Tryz.f30
theorem fn_topo_New : cx.P.funcs[F_topo_New]? = some B_topo_New := Tryz.func30
theorem real_topo_New : Real cx.P F_topo_New := ⟨_, Tryz.func30, rfl, rfl⟩
abbrev F_table_New : Nat := 31
abbrev N_table_New : Nat := 14
noncomputable abbrev B_table_New : Func := Tryz.f31
theorem fn_table_New : cx.P.funcs[F_table_New]? = some B_table_New := Tryz.func31
theorem real_table_New : Real cx.P F_table_New := ⟨_, Tryz.func31, rfl, rfl⟩
abbrev F_tree_New : Nat := 32
abbrev N_tree_New : Nat := 18
noncomputable abbrev B_tree_New : Func := Tryz.f32
theorem fn_tree_New : cx.P.funcs[F_tree_New]? = some B_tree_New := Tryz.func32
theorem real_tree_New : Real cx.P F_tree_New := ⟨_, Tryz.func32, rfl, rfl⟩
abbrev F_lane_New : Nat := 33
abbrev N_lane_New : Nat := 22
noncomputable abbrev B_lane_New : Func := Tryz.f33
theorem fn_lane_New : cx.P.funcs[F_lane_New]? = some B_lane_New := Tryz.func33
theorem real_lane_New : Real cx.P F_lane_New := ⟨_, Tryz.func33, rfl, rfl⟩
abbrev F_tree_Forest_Root : Nat := 34
abbrev N_tree_Forest_Root : Nat := 8
noncomputable abbrev B_tree_Forest_Root : Func := Tryz.f34
theorem fn_tree_Forest_Root : cx.P.funcs[F_tree_Forest_Root]? = some B_tree_Forest_Root := Tryz.func34
theorem real_tree_Forest_Root : Real cx.P F_tree_Forest_Root := ⟨_, Tryz.func34, rfl, rfl⟩
abbrev F_round_New : Nat := 35
abbrev N_round_New : Nat := 4
noncomputable abbrev B_round_New : Func := Tryz.f35
theorem fn_round_New : cx.P.funcs[F_round_New]? = some B_round_New := Tryz.func35
theorem real_round_New : Real cx.P F_round_New := ⟨_, Tryz.func35, rfl, rfl⟩
abbrev F_state_System_Add : Nat := 36
abbrev N_state_System_Add : Nat := 88
noncomputable abbrev B_state_System_Add : Func := Tryz.f36
theorem fn_state_System_Add : cx.P.funcs[F_state_System_Add]? = some B_state_System_Add := Tryz.func36
theorem real_state_System_Add : Real cx.P F_state_System_Add := ⟨_, Tryz.func36, rfl, rfl⟩
abbrev F_life_Wake : Nat := 37
abbrev N_life_Wake : Nat := 26
noncomputable abbrev B_life_Wake : Func := Tryz.f37
theorem fn_life_Wake : cx.P.funcs[F_life_Wake]? = some B_life_Wake := Tryz.func37
theorem real_life_Wake : Real cx.P F_life_Wake := ⟨_, Tryz.func37, rfl, rfl⟩
abbrev F_ring_Rings_Nodes : Nat := 38
abbrev N_ring_Rings_Nodes : Nat := 6
noncomputable abbrev B_ring_Rings_Nodes : Func := Tryz.f38
theorem fn_ring_Rings_Nodes : cx.P.funcs[F_ring_Rings_Nodes]? = some B_ring_Rings_Nodes := Tryz.func38
theorem real_ring_Rings_Nodes : Real cx.P F_ring_Rings_Nodes := ⟨_, Tryz.func38, rfl, rfl⟩
abbrev F_table_Table_Id : Nat := 39
abbrev N_table_Table_Id : Nat := 23
noncomputable abbrev B_table_Table_Id : Func := Tryz.f39
theorem fn_table_Table_Id : cx.P.funcs[F_table_Table_Id]? = some B_table_Table_Id := Tryz.func39
theorem real_table_Table_Id : Real cx.P F_table_Table_Id := ⟨_, Tryz.func39, rfl, rfl⟩
abbrev F_state_System_of : Nat := 40
abbrev N_state_System_of : Nat := 19
noncomputable abbrev B_state_System_of : Func := Tryz.f40
theorem fn_state_System_of : cx.P.funcs[F_state_System_of]? = some B_state_System_of := Tryz.func40
theorem real_state_System_of : Real cx.P F_state_System_of := ⟨_, Tryz.func40, rfl, rfl⟩
abbrev F_mask_Set_Cores : Nat := 68
abbrev N_mask_Set_Cores : Nat := 4
noncomputable abbrev B_mask_Set_Cores : Func := Tryz.f68
theorem fn_mask_Set_Cores : cx.P.funcs[F_mask_Set_Cores]? = some B_mask_Set_Cores := Tryz.func68
theorem real_mask_Set_Cores : Real cx.P F_mask_Set_Cores := ⟨_, Tryz.func68, rfl, rfl⟩
abbrev F_state_System_Current : Nat := 70
abbrev N_state_System_Current : Nat := 17
noncomputable abbrev B_state_System_Current : Func := Tryz.f70
theorem fn_state_System_Current : cx.P.funcs[F_state_System_Current]? = some B_state_System_Current := Tryz.func70
theorem real_state_System_Current : Real cx.P F_state_System_Current := ⟨_, Tryz.func70, rfl, rfl⟩
abbrev F_table_Table_Ids : Nat := 73
abbrev N_table_Table_Ids : Nat := 13
noncomputable abbrev B_table_Table_Ids : Func := Tryz.f73
theorem fn_table_Table_Ids : cx.P.funcs[F_table_Table_Ids]? = some B_table_Table_Ids := Tryz.func73
theorem real_table_Table_Ids : Real cx.P F_table_Table_Ids := ⟨_, Tryz.func73, rfl, rfl⟩
abbrev F_state_System_book : Nat := 74
abbrev N_state_System_book : Nat := 17
noncomputable abbrev B_state_System_book : Func := Tryz.f74
theorem fn_state_System_book : cx.P.funcs[F_state_System_book]? = some B_state_System_book := Tryz.func74
theorem real_state_System_book : Real cx.P F_state_System_book := ⟨_, Tryz.func74, rfl, rfl⟩
abbrev F_round_Book_Entry : Nat := 75
abbrev N_round_Book_Entry : Nat := 21
noncomputable abbrev B_round_Book_Entry : Func := Tryz.f75
theorem fn_round_Book_Entry : cx.P.funcs[F_round_Book_Entry]? = some B_round_Book_Entry := Tryz.func75
theorem real_round_Book_Entry : Real cx.P F_round_Book_Entry := ⟨_, Tryz.func75, rfl, rfl⟩
abbrev F_topo_Topo_Of : Nat := 78
abbrev N_topo_Topo_Of : Nat := 16
noncomputable abbrev B_topo_Topo_Of : Func := Tryz.f78
theorem fn_topo_Topo_Of : cx.P.funcs[F_topo_Topo_Of]? = some B_topo_Topo_Of := Tryz.func78
abbrev F_state_System_out : Nat := 84
abbrev N_state_System_out : Nat := 33
noncomputable abbrev B_state_System_out : Func := Tryz.f84
theorem fn_state_System_out : cx.P.funcs[F_state_System_out]? = some B_state_System_out := Tryz.func84
theorem real_state_System_out : Real cx.P F_state_System_out := ⟨_, Tryz.func84, rfl, rfl⟩
abbrev F_state_System_in : Nat := 85
abbrev N_state_System_in : Nat := 34
noncomputable abbrev B_state_System_in : Func := Tryz.f85
theorem fn_state_System_in : cx.P.funcs[F_state_System_in]? = some B_state_System_in := Tryz.func85
theorem real_state_System_in : Real cx.P F_state_System_in := ⟨_, Tryz.func85, rfl, rfl⟩
abbrev F_state_System_settled : Nat := 86
abbrev N_state_System_settled : Nat := 39
noncomputable abbrev B_state_System_settled : Func := Tryz.f86
theorem fn_state_System_settled : cx.P.funcs[F_state_System_settled]? = some B_state_System_settled := Tryz.func86
theorem real_state_System_settled : Real cx.P F_state_System_settled := ⟨_, Tryz.func86, rfl, rfl⟩
abbrev F_topo_Topo_Effective : Nat := 87
abbrev N_topo_Topo_Effective : Nat := 31
noncomputable abbrev B_topo_Topo_Effective : Func := Tryz.f87
theorem fn_topo_Topo_Effective : cx.P.funcs[F_topo_Topo_Effective]? = some B_topo_Topo_Effective := Tryz.func87
theorem real_topo_Topo_Effective : Real cx.P F_topo_Topo_Effective := ⟨_, Tryz.func87, rfl, rfl⟩
abbrev F_state_System_find : Nat := 88
abbrev N_state_System_find : Nat := 30
noncomputable abbrev B_state_System_find : Func := Tryz.f88
theorem fn_state_System_find : cx.P.funcs[F_state_System_find]? = some B_state_System_find := Tryz.func88
theorem real_state_System_find : Real cx.P F_state_System_find := ⟨_, Tryz.func88, rfl, rfl⟩
abbrev F_state_System_sliced : Nat := 91
abbrev N_state_System_sliced : Nat := 29
noncomputable abbrev B_state_System_sliced : Func := Tryz.f91
theorem fn_state_System_sliced : cx.P.funcs[F_state_System_sliced]? = some B_state_System_sliced := Tryz.func91
theorem real_state_System_sliced : Real cx.P F_state_System_sliced := ⟨_, Tryz.func91, rfl, rfl⟩
abbrev F_state_System_may : Nat := 92
abbrev N_state_System_may : Nat := 30
noncomputable abbrev B_state_System_may : Func := Tryz.f92
theorem fn_state_System_may : cx.P.funcs[F_state_System_may]? = some B_state_System_may := Tryz.func92
theorem real_state_System_may : Real cx.P F_state_System_may := ⟨_, Tryz.func92, rfl, rfl⟩
abbrev F_tree_Forest_Wake : Nat := 93
abbrev N_tree_Forest_Wake : Nat := 38
noncomputable abbrev B_tree_Forest_Wake : Func := Tryz.f93
theorem fn_tree_Forest_Wake : cx.P.funcs[F_tree_Forest_Wake]? = some B_tree_Forest_Wake := Tryz.func93
theorem real_tree_Forest_Wake : Real cx.P F_tree_Forest_Wake := ⟨_, Tryz.func93, rfl, rfl⟩
abbrev F_round_Book_Enter : Nat := 94
abbrev N_round_Book_Enter : Nat := 59
noncomputable abbrev B_round_Book_Enter : Func := Tryz.f94
theorem fn_round_Book_Enter : cx.P.funcs[F_round_Book_Enter]? = some B_round_Book_Enter := Tryz.func94
theorem real_round_Book_Enter : Real cx.P F_round_Book_Enter := ⟨_, Tryz.func94, rfl, rfl⟩
abbrev F_math_bits_TrailingZeros64 : Nat := 95
abbrev N_math_bits_TrailingZeros64 : Nat := 14
noncomputable abbrev B_math_bits_TrailingZeros64 : Func := Tryz.f95
theorem fn_math_bits_TrailingZeros64 : cx.P.funcs[F_math_bits_TrailingZeros64]? = some B_math_bits_TrailingZeros64 := Tryz.func95
theorem real_math_bits_TrailingZeros64 : Real cx.P F_math_bits_TrailingZeros64 := ⟨_, Tryz.func95, rfl, rfl⟩
abbrev F_slice_right : Nat := 98
abbrev N_slice_right : Nat := 9
noncomputable abbrev B_slice_right : Func := Tryz.f98
theorem fn_slice_right : cx.P.funcs[F_slice_right]? = some B_slice_right := Tryz.func98
theorem real_slice_right : Real cx.P F_slice_right := ⟨_, Tryz.func98, rfl, rfl⟩
abbrev F_ratio_Ratio_Good : Nat := 99
abbrev N_ratio_Ratio_Good : Nat := 27
noncomputable abbrev B_ratio_Ratio_Good : Func := Tryz.f99
theorem fn_ratio_Ratio_Good : cx.P.funcs[F_ratio_Ratio_Good]? = some B_ratio_Ratio_Good := Tryz.func99
theorem real_ratio_Ratio_Good : Real cx.P F_ratio_Ratio_Good := ⟨_, Tryz.func99, rfl, rfl⟩
abbrev F_ratio_Cmp : Nat := 100
abbrev N_ratio_Cmp : Nat := 18
noncomputable abbrev B_ratio_Cmp : Func := Tryz.f100
theorem fn_ratio_Cmp : cx.P.funcs[F_ratio_Cmp]? = some B_ratio_Cmp := Tryz.func100
theorem real_ratio_Cmp : Real cx.P F_ratio_Cmp := ⟨_, Tryz.func100, rfl, rfl⟩
abbrev F_nat_Small : Nat := 101
abbrev N_nat_Small : Nat := 15
noncomputable abbrev B_nat_Small : Func := Tryz.f101
theorem fn_nat_Small : cx.P.funcs[F_nat_Small]? = some B_nat_Small := Tryz.func101
theorem real_nat_Small : Real cx.P F_nat_Small := ⟨_, Tryz.func101, rfl, rfl⟩
abbrev F_ratio_Mul : Nat := 102
abbrev N_ratio_Mul : Nat := 16
noncomputable abbrev B_ratio_Mul : Func := Tryz.f102
theorem fn_ratio_Mul : cx.P.funcs[F_ratio_Mul]? = some B_ratio_Mul := Tryz.func102
theorem real_ratio_Mul : Real cx.P F_ratio_Mul := ⟨_, Tryz.func102, rfl, rfl⟩
abbrev F_ratio_Ratio_Floor : Nat := 103
abbrev N_ratio_Ratio_Floor : Nat := 16
noncomputable abbrev B_ratio_Ratio_Floor : Func := Tryz.f103
theorem fn_ratio_Ratio_Floor : cx.P.funcs[F_ratio_Ratio_Floor]? = some B_ratio_Ratio_Floor := Tryz.func103
theorem real_ratio_Ratio_Floor : Real cx.P F_ratio_Ratio_Floor := ⟨_, Tryz.func103, rfl, rfl⟩
abbrev F_nat_Of : Nat := 104
abbrev N_nat_Of : Nat := 6
noncomputable abbrev B_nat_Of : Func := Tryz.f104
theorem fn_nat_Of : cx.P.funcs[F_nat_Of]? = some B_nat_Of := Tryz.func104
theorem real_nat_Of : Real cx.P F_nat_Of := ⟨_, Tryz.func104, rfl, rfl⟩
abbrev F_ratio_one : Nat := 105
abbrev N_ratio_one : Nat := 2
noncomputable abbrev B_ratio_one : Func := Tryz.f105
theorem fn_ratio_one : cx.P.funcs[F_ratio_one]? = some B_ratio_one := Tryz.func105
theorem real_ratio_one : Real cx.P F_ratio_one := ⟨_, Tryz.func105, rfl, rfl⟩
abbrev F_slices_Clone_mask_Set_mask_Set : Nat := 106
abbrev N_slices_Clone_mask_Set_mask_Set : Nat := 8
noncomputable abbrev B_slices_Clone_mask_Set_mask_Set : Func := Tryz.f106
theorem fn_slices_Clone_mask_Set_mask_Set : cx.P.funcs[F_slices_Clone_mask_Set_mask_Set]? = some B_slices_Clone_mask_Set_mask_Set := Tryz.func106
theorem real_slices_Clone_mask_Set_mask_Set : Real cx.P F_slices_Clone_mask_Set_mask_Set := ⟨_, Tryz.func106, rfl, rfl⟩
abbrev F_mask_Set_Meets : Nat := 107
abbrev N_mask_Set_Meets : Nat := 9
noncomputable abbrev B_mask_Set_Meets : Func := Tryz.f107
theorem fn_mask_Set_Meets : cx.P.funcs[F_mask_Set_Meets]? = some B_mask_Set_Meets := Tryz.func107
theorem real_mask_Set_Meets : Real cx.P F_mask_Set_Meets := ⟨_, Tryz.func107, rfl, rfl⟩
abbrev F_ring_New : Nat := 108
abbrev N_ring_New : Nat := 66
noncomputable abbrev B_ring_New : Func := Tryz.f108
theorem fn_ring_New : cx.P.funcs[F_ring_New]? = some B_ring_New := Tryz.func108
theorem real_ring_New : Real cx.P F_ring_New := ⟨_, Tryz.func108, rfl, rfl⟩
abbrev F_tree_Forest_put : Nat := 109
abbrev N_tree_Forest_put : Nat := 43
noncomputable abbrev B_tree_Forest_put : Func := Tryz.f109
theorem fn_tree_Forest_put : cx.P.funcs[F_tree_Forest_put]? = some B_tree_Forest_put := Tryz.func109
theorem real_tree_Forest_put : Real cx.P F_tree_Forest_put := ⟨_, Tryz.func109, rfl, rfl⟩
abbrev F_tree_Forest_Group : Nat := 110
abbrev N_tree_Forest_Group : Nat := 57
noncomputable abbrev B_tree_Forest_Group : Func := Tryz.f110
theorem fn_tree_Forest_Group : cx.P.funcs[F_tree_Forest_Group]? = some B_tree_Forest_Group := Tryz.func110
theorem real_tree_Forest_Group : Real cx.P F_tree_Forest_Group := ⟨_, Tryz.func110, rfl, rfl⟩
abbrev F_topo_Topo_Check : Nat := 111
abbrev N_topo_Topo_Check : Nat := 24
noncomputable abbrev B_topo_Topo_Check : Func := Tryz.f111
theorem fn_topo_Topo_Check : cx.P.funcs[F_topo_Topo_Check]? = some B_topo_Topo_Check := Tryz.func111
theorem real_topo_Topo_Check : Real cx.P F_topo_Topo_Check := ⟨_, Tryz.func111, rfl, rfl⟩
abbrev F_tree_Forest_Join : Nat := 112
abbrev N_tree_Forest_Join : Nat := 30
noncomputable abbrev B_tree_Forest_Join : Func := Tryz.f112
theorem fn_tree_Forest_Join : cx.P.funcs[F_tree_Forest_Join]? = some B_tree_Forest_Join := Tryz.func112
theorem real_tree_Forest_Join : Real cx.P F_tree_Forest_Join := ⟨_, Tryz.func112, rfl, rfl⟩
abbrev F_table_Table_Add : Nat := 113
abbrev N_table_Table_Add : Nat := 41
noncomputable abbrev B_table_Table_Add : Func := Tryz.f113
theorem fn_table_Table_Add : cx.P.funcs[F_table_Table_Add]? = some B_table_Table_Add := Tryz.func113
theorem real_table_Table_Add : Real cx.P F_table_Table_Add := ⟨_, Tryz.func113, rfl, rfl⟩
abbrev F_place_Best : Nat := 115
abbrev N_place_Best : Nat := 23
noncomputable abbrev B_place_Best : Func := Tryz.f115
theorem fn_place_Best : cx.P.funcs[F_place_Best]? = some B_place_Best := Tryz.func115
theorem real_place_Best : Real cx.P F_place_Best := ⟨_, Tryz.func115, rfl, rfl⟩
abbrev F_ring_Rings_Nodes_1 : Nat := 116
abbrev N_ring_Rings_Nodes_1 : Nat := 17
noncomputable abbrev B_ring_Rings_Nodes_1 : Func := Tryz.f116
theorem fn_ring_Rings_Nodes_1 : cx.P.funcs[F_ring_Rings_Nodes_1]? = some B_ring_Rings_Nodes_1 := Tryz.func116
theorem real_ring_Rings_Nodes_1 : Real cx.P F_ring_Rings_Nodes_1 := ⟨_, Tryz.func116, rfl, rfl⟩
abbrev F_ring_Rings_First : Nat := 117
abbrev N_ring_Rings_First : Nat := 24
noncomputable abbrev B_ring_Rings_First : Func := Tryz.f117
theorem fn_ring_Rings_First : cx.P.funcs[F_ring_Rings_First]? = some B_ring_Rings_First := Tryz.func117
theorem real_ring_Rings_First : Real cx.P F_ring_Rings_First := ⟨_, Tryz.func117, rfl, rfl⟩
abbrev F_ring_Rings_Next : Nat := 118
abbrev N_ring_Rings_Next : Nat := 19
noncomputable abbrev B_ring_Rings_Next : Func := Tryz.f118
theorem fn_ring_Rings_Next : cx.P.funcs[F_ring_Rings_Next]? = some B_ring_Rings_Next := Tryz.func118
theorem real_ring_Rings_Next : Real cx.P F_ring_Rings_Next := ⟨_, Tryz.func118, rfl, rfl⟩
abbrev F_topo_Topo_Online : Nat := 141
abbrev N_topo_Topo_Online : Nat := 21
noncomputable abbrev B_topo_Topo_Online : Func := Tryz.f141
theorem fn_topo_Topo_Online : cx.P.funcs[F_topo_Topo_Online]? = some B_topo_Topo_Online := Tryz.func141
theorem real_topo_Topo_Online : Real cx.P F_topo_Topo_Online := ⟨_, Tryz.func141, rfl, rfl⟩
abbrev F_mask_Set_Has : Nat := 142
abbrev N_mask_Set_Has : Nat := 14
noncomputable abbrev B_mask_Set_Has : Func := Tryz.f142
theorem fn_mask_Set_Has : cx.P.funcs[F_mask_Set_Has]? = some B_mask_Set_Has := Tryz.func142
theorem real_mask_Set_Has : Real cx.P F_mask_Set_Has := ⟨_, Tryz.func142, rfl, rfl⟩
abbrev F_topo_Topo_Cores : Nat := 164
abbrev N_topo_Topo_Cores : Nat := 24
noncomputable abbrev B_topo_Topo_Cores : Func := Tryz.f164
theorem fn_topo_Topo_Cores : cx.P.funcs[F_topo_Topo_Cores]? = some B_topo_Topo_Cores := Tryz.func164
theorem real_topo_Topo_Cores : Real cx.P F_topo_Topo_Cores := ⟨_, Tryz.func164, rfl, rfl⟩
abbrev F_mask_Set_Cores_1 : Nat := 165
abbrev N_mask_Set_Cores_1 : Nat := 16
noncomputable abbrev B_mask_Set_Cores_1 : Func := Tryz.f165
theorem fn_mask_Set_Cores_1 : cx.P.funcs[F_mask_Set_Cores_1]? = some B_mask_Set_Cores_1 := Tryz.func165
theorem real_mask_Set_Cores_1 : Real cx.P F_mask_Set_Cores_1 := ⟨_, Tryz.func165, rfl, rfl⟩
abbrev F_slices_DeleteFunc_int_int : Nat := 167
abbrev N_slices_DeleteFunc_int_int : Nat := 42
noncomputable abbrev B_slices_DeleteFunc_int_int : Func := Tryz.f167
theorem fn_slices_DeleteFunc_int_int : cx.P.funcs[F_slices_DeleteFunc_int_int]? = some B_slices_DeleteFunc_int_int := Tryz.func167
theorem real_slices_DeleteFunc_int_int : Real cx.P F_slices_DeleteFunc_int_int := ⟨_, Tryz.func167, rfl, rfl⟩
abbrev F_slices_Clone_int_int : Nat := 168
abbrev N_slices_Clone_int_int : Nat := 8
noncomputable abbrev B_slices_Clone_int_int : Func := Tryz.f168
theorem fn_slices_Clone_int_int : cx.P.funcs[F_slices_Clone_int_int]? = some B_slices_Clone_int_int := Tryz.func168
theorem real_slices_Clone_int_int : Real cx.P F_slices_Clone_int_int := ⟨_, Tryz.func168, rfl, rfl⟩
abbrev F_table_Table_Ids_1 : Nat := 169
abbrev N_table_Table_Ids_1 : Nat := 5
noncomputable abbrev B_table_Table_Ids_1 : Func := Tryz.f169
theorem fn_table_Table_Ids_1 : cx.P.funcs[F_table_Table_Ids_1]? = some B_table_Table_Ids_1 := Tryz.func169
theorem real_table_Table_Ids_1 : Real cx.P F_table_Table_Ids_1 := ⟨_, Tryz.func169, rfl, rfl⟩
abbrev F_slices_Sort_int_int : Nat := 170
theorem real_slices_Sort_int_int : Real cx.P F_slices_Sort_int_int := ⟨_, Tryz.func170, rfl, rfl⟩
abbrev F_slices_IndexFunc_mask_Set_mask_Set : Nat := 173
abbrev N_slices_IndexFunc_mask_Set_mask_Set : Nat := 19
noncomputable abbrev B_slices_IndexFunc_mask_Set_mask_Set : Func := Tryz.f173
theorem fn_slices_IndexFunc_mask_Set_mask_Set : cx.P.funcs[F_slices_IndexFunc_mask_Set_mask_Set]? = some B_slices_IndexFunc_mask_Set_mask_Set := Tryz.func173
theorem real_slices_IndexFunc_mask_Set_mask_Set : Real cx.P F_slices_IndexFunc_mask_Set_mask_Set := ⟨_, Tryz.func173, rfl, rfl⟩
abbrev F_topo_Topo_Of_1 : Nat := 174
abbrev N_topo_Topo_Of_1 : Nat := 7
noncomputable abbrev B_topo_Topo_Of_1 : Func := Tryz.f174
theorem fn_topo_Topo_Of_1 : cx.P.funcs[F_topo_Topo_Of_1]? = some B_topo_Topo_Of_1 := Tryz.func174
theorem real_topo_Topo_Of_1 : Real cx.P F_topo_Topo_Of_1 := ⟨_, Tryz.func174, rfl, rfl⟩
abbrev F_round_Entry_open : Nat := 177
abbrev N_round_Entry_open : Nat := 6
noncomputable abbrev B_round_Entry_open : Func := Tryz.f177
theorem fn_round_Entry_open : cx.P.funcs[F_round_Entry_open]? = some B_round_Entry_open := Tryz.func177
theorem real_round_Entry_open : Real cx.P F_round_Entry_open := ⟨_, Tryz.func177, rfl, rfl⟩
abbrev F_round_Entry_renewed : Nat := 178
abbrev N_round_Entry_renewed : Nat := 11
noncomputable abbrev B_round_Entry_renewed : Func := Tryz.f178
theorem fn_round_Entry_renewed : cx.P.funcs[F_round_Entry_renewed]? = some B_round_Entry_renewed := Tryz.func178
theorem real_round_Entry_renewed : Real cx.P F_round_Entry_renewed := ⟨_, Tryz.func178, rfl, rfl⟩
abbrev F_ring_Rings_Drop : Nat := 179
abbrev N_ring_Rings_Drop : Nat := 59
noncomputable abbrev B_ring_Rings_Drop : Func := Tryz.f179
theorem fn_ring_Rings_Drop : cx.P.funcs[F_ring_Rings_Drop]? = some B_ring_Rings_Drop := Tryz.func179
theorem real_ring_Rings_Drop : Real cx.P F_ring_Rings_Drop := ⟨_, Tryz.func179, rfl, rfl⟩
abbrev F_lane_Lanes_Put : Nat := 180
abbrev N_lane_Lanes_Put : Nat := 32
noncomputable abbrev B_lane_Lanes_Put : Func := Tryz.f180
theorem fn_lane_Lanes_Put : cx.P.funcs[F_lane_Lanes_Put]? = some B_lane_Lanes_Put := Tryz.func180
theorem real_lane_Lanes_Put : Real cx.P F_lane_Lanes_Put := ⟨_, Tryz.func180, rfl, rfl⟩
abbrev F_round_Book_Settle : Nat := 181
abbrev N_round_Book_Settle : Nat := 51
noncomputable abbrev B_round_Book_Settle : Func := Tryz.f181
theorem fn_round_Book_Settle : cx.P.funcs[F_round_Book_Settle]? = some B_round_Book_Settle := Tryz.func181
theorem real_round_Book_Settle : Real cx.P F_round_Book_Settle := ⟨_, Tryz.func181, rfl, rfl⟩
abbrev F_tree_node_count : Nat := 182
abbrev N_tree_node_count : Nat := 22
noncomputable abbrev B_tree_node_count : Func := Tryz.f182
theorem fn_tree_node_count : cx.P.funcs[F_tree_node_count]? = some B_tree_node_count := Tryz.func182
theorem real_tree_node_count : Real cx.P F_tree_node_count := ⟨_, Tryz.func182, rfl, rfl⟩
abbrev F_state_System_sizes : Nat := 183
abbrev N_state_System_sizes : Nat := 97
noncomputable abbrev B_state_System_sizes : Func := Tryz.f183
theorem fn_state_System_sizes : cx.P.funcs[F_state_System_sizes]? = some B_state_System_sizes := Tryz.func183
theorem real_state_System_sizes : Real cx.P F_state_System_sizes := ⟨_, Tryz.func183, rfl, rfl⟩
abbrev F_round_Book_Resize : Nat := 184
abbrev N_round_Book_Resize : Nat := 36
noncomputable abbrev B_round_Book_Resize : Func := Tryz.f184
theorem fn_round_Book_Resize : cx.P.funcs[F_round_Book_Resize]? = some B_round_Book_Resize := Tryz.func184
theorem real_round_Book_Resize : Real cx.P F_round_Book_Resize := ⟨_, Tryz.func184, rfl, rfl⟩
abbrev F_round_right : Nat := 185
abbrev N_round_right : Nat := 9
noncomputable abbrev B_round_right : Func := Tryz.f185
theorem fn_round_right : cx.P.funcs[F_round_right]? = some B_round_right := Tryz.func185
theorem real_round_right : Real cx.P F_round_right := ⟨_, Tryz.func185, rfl, rfl⟩
abbrev F_round_Entry_in : Nat := 186
abbrev N_round_Entry_in : Nat := 33
noncomputable abbrev B_round_Entry_in : Func := Tryz.f186
theorem fn_round_Entry_in : cx.P.funcs[F_round_Entry_in]? = some B_round_Entry_in := Tryz.func186
theorem real_round_Entry_in : Real cx.P F_round_Entry_in := ⟨_, Tryz.func186, rfl, rfl⟩
abbrev F_nat_Good : Nat := 187
abbrev N_nat_Good : Nat := 15
noncomputable abbrev B_nat_Good : Func := Tryz.f187
theorem fn_nat_Good : cx.P.funcs[F_nat_Good]? = some B_nat_Good := Tryz.func187
theorem real_nat_Good : Real cx.P F_nat_Good := ⟨_, Tryz.func187, rfl, rfl⟩
abbrev F_nat_Cmp : Nat := 188
abbrev N_nat_Cmp : Nat := 33
noncomputable abbrev B_nat_Cmp : Func := Tryz.f188
theorem fn_nat_Cmp : cx.P.funcs[F_nat_Cmp]? = some B_nat_Cmp := Tryz.func188
theorem real_nat_Cmp : Real cx.P F_nat_Cmp := ⟨_, Tryz.func188, rfl, rfl⟩
abbrev F_nat_Gcd : Nat := 189
abbrev N_nat_Gcd : Nat := 24
noncomputable abbrev B_nat_Gcd : Func := Tryz.f189
theorem fn_nat_Gcd : cx.P.funcs[F_nat_Gcd]? = some B_nat_Gcd := Tryz.func189
theorem real_nat_Gcd : Real cx.P F_nat_Gcd := ⟨_, Tryz.func189, rfl, rfl⟩
abbrev F_ratio_crossed : Nat := 190
abbrev N_ratio_crossed : Nat := 22
noncomputable abbrev B_ratio_crossed : Func := Tryz.f190
theorem fn_ratio_crossed : cx.P.funcs[F_ratio_crossed]? = some B_ratio_crossed := Tryz.func190
theorem real_ratio_crossed : Real cx.P F_ratio_crossed := ⟨_, Tryz.func190, rfl, rfl⟩
abbrev F_nat_Nat_at : Nat := 191
abbrev N_nat_Nat_at : Nat := 13
noncomputable abbrev B_nat_Nat_at : Func := Tryz.f191
theorem fn_nat_Nat_at : cx.P.funcs[F_nat_Nat_at]? = some B_nat_Nat_at := Tryz.func191
theorem real_nat_Nat_at : Real cx.P F_nat_Nat_at := ⟨_, Tryz.func191, rfl, rfl⟩
abbrev F_ratio_lowest : Nat := 192
abbrev N_ratio_lowest : Nat := 32
noncomputable abbrev B_ratio_lowest : Func := Tryz.f192
theorem fn_ratio_lowest : cx.P.funcs[F_ratio_lowest]? = some B_ratio_lowest := Tryz.func192
theorem real_ratio_lowest : Real cx.P F_ratio_lowest := ⟨_, Tryz.func192, rfl, rfl⟩
abbrev F_nat_Mul : Nat := 193
abbrev N_nat_Mul : Nat := 80
noncomputable abbrev B_nat_Mul : Func := Tryz.f193
theorem fn_nat_Mul : cx.P.funcs[F_nat_Mul]? = some B_nat_Mul := Tryz.func193
theorem real_nat_Mul : Real cx.P F_nat_Mul := ⟨_, Tryz.func193, rfl, rfl⟩
abbrev F_nat_DivMod : Nat := 194
abbrev N_nat_DivMod : Nat := 51
noncomputable abbrev B_nat_DivMod : Func := Tryz.f194
theorem fn_nat_DivMod : cx.P.funcs[F_nat_DivMod]? = some B_nat_DivMod := Tryz.func194
theorem real_nat_DivMod : Real cx.P F_nat_DivMod := ⟨_, Tryz.func194, rfl, rfl⟩
abbrev F_nat_trim : Nat := 195
abbrev N_nat_trim : Nat := 21
noncomputable abbrev B_nat_trim : Func := Tryz.f195
theorem fn_nat_trim : cx.P.funcs[F_nat_trim]? = some B_nat_trim := Tryz.func195
theorem real_nat_trim : Real cx.P F_nat_trim := ⟨_, Tryz.func195, rfl, rfl⟩
abbrev F_tree_node_path : Nat := 196
abbrev N_tree_node_path : Nat := 15
noncomputable abbrev B_tree_node_path : Func := Tryz.f196
theorem fn_tree_node_path : cx.P.funcs[F_tree_node_path]? = some B_tree_node_path := Tryz.func196
theorem real_tree_node_path : Real cx.P F_tree_node_path := ⟨_, Tryz.func196, rfl, rfl⟩
abbrev F_tree_node_root : Nat := 197
abbrev N_tree_node_root : Nat := 12
noncomputable abbrev B_tree_node_root : Func := Tryz.f197
theorem fn_tree_node_root : cx.P.funcs[F_tree_node_root]? = some B_tree_node_root := Tryz.func197
theorem real_tree_node_root : Real cx.P F_tree_node_root := ⟨_, Tryz.func197, rfl, rfl⟩
abbrev F_tree_node_fan : Nat := 198
abbrev N_tree_node_fan : Nat := 12
noncomputable abbrev B_tree_node_fan : Func := Tryz.f198
theorem fn_tree_node_fan : cx.P.funcs[F_tree_node_fan]? = some B_tree_node_fan := Tryz.func198
theorem real_tree_node_fan : Real cx.P F_tree_node_fan := ⟨_, Tryz.func198, rfl, rfl⟩
abbrev F_slices_Index_int_int : Nat := 199
abbrev N_slices_Index_int_int : Nat := 19
noncomputable abbrev B_slices_Index_int_int : Func := Tryz.f199
theorem fn_slices_Index_int_int : cx.P.funcs[F_slices_Index_int_int]? = some B_slices_Index_int_int := Tryz.func199
theorem real_slices_Index_int_int : Real cx.P F_slices_Index_int_int := ⟨_, Tryz.func199, rfl, rfl⟩
abbrev F_place_Among : Nat := 200
abbrev N_place_Among : Nat := 39
noncomputable abbrev B_place_Among : Func := Tryz.f200
theorem fn_place_Among : cx.P.funcs[F_place_Among]? = some B_place_Among := Tryz.func200
theorem real_place_Among : Real cx.P F_place_Among := ⟨_, Tryz.func200, rfl, rfl⟩
abbrev F_ring_Rings_list : Nat := 201
abbrev N_ring_Rings_list : Nat := 16
noncomputable abbrev B_ring_Rings_list : Func := Tryz.f201
theorem fn_ring_Rings_list : cx.P.funcs[F_ring_Rings_list]? = some B_ring_Rings_list := Tryz.func201
theorem real_ring_Rings_list : Real cx.P F_ring_Rings_list := ⟨_, Tryz.func201, rfl, rfl⟩
abbrev F_ring_Rings_told : Nat := 202
abbrev N_ring_Rings_told : Nat := 12
noncomputable abbrev B_ring_Rings_told : Func := Tryz.f202
theorem fn_ring_Rings_told : cx.P.funcs[F_ring_Rings_told]? = some B_ring_Rings_told := Tryz.func202
theorem real_ring_Rings_told : Real cx.P F_ring_Rings_told := ⟨_, Tryz.func202, rfl, rfl⟩
abbrev F_ring_Rings_List : Nat := 203
abbrev N_ring_Rings_List : Nat := 17
noncomputable abbrev B_ring_Rings_List : Func := Tryz.f203
theorem fn_ring_Rings_List : cx.P.funcs[F_ring_Rings_List]? = some B_ring_Rings_List := Tryz.func203
theorem real_ring_Rings_List : Real cx.P F_ring_Rings_List := ⟨_, Tryz.func203, rfl, rfl⟩
abbrev F_mask_core : Nat := 219
abbrev N_mask_core : Nat := 9
noncomputable abbrev B_mask_core : Func := Tryz.f219
theorem fn_mask_core : cx.P.funcs[F_mask_core]? = some B_mask_core := Tryz.func219
theorem real_mask_core : Real cx.P F_mask_core := ⟨_, Tryz.func219, rfl, rfl⟩
abbrev F_mask_Set_Len : Nat := 222
abbrev N_mask_Set_Len : Nat := 5
noncomputable abbrev B_mask_Set_Len : Func := Tryz.f222
theorem fn_mask_Set_Len : cx.P.funcs[F_mask_Set_Len]? = some B_mask_Set_Len := Tryz.func222
theorem real_mask_Set_Len : Real cx.P F_mask_Set_Len := ⟨_, Tryz.func222, rfl, rfl⟩
abbrev F_slices_IndexFunc_int_int : Nat := 231
abbrev N_slices_IndexFunc_int_int : Nat := 19
noncomputable abbrev B_slices_IndexFunc_int_int : Func := Tryz.f231
theorem fn_slices_IndexFunc_int_int : cx.P.funcs[F_slices_IndexFunc_int_int]? = some B_slices_IndexFunc_int_int := Tryz.func231
theorem real_slices_IndexFunc_int_int : Real cx.P F_slices_IndexFunc_int_int := ⟨_, Tryz.func231, rfl, rfl⟩
abbrev F_ring_Rings_node : Nat := 239
abbrev N_ring_Rings_node : Nat := 15
noncomputable abbrev B_ring_Rings_node : Func := Tryz.f239
theorem fn_ring_Rings_node : cx.P.funcs[F_ring_Rings_node]? = some B_ring_Rings_node := Tryz.func239
theorem real_ring_Rings_node : Real cx.P F_ring_Rings_node := ⟨_, Tryz.func239, rfl, rfl⟩
abbrev F_lane_Lanes_last : Nat := 240
abbrev N_lane_Lanes_last : Nat := 34
noncomputable abbrev B_lane_Lanes_last : Func := Tryz.f240
theorem fn_lane_Lanes_last : cx.P.funcs[F_lane_Lanes_last]? = some B_lane_Lanes_last := Tryz.func240
theorem real_lane_Lanes_last : Real cx.P F_lane_Lanes_last := ⟨_, Tryz.func240, rfl, rfl⟩
abbrev F_lane_Lanes_Put_1 : Nat := 241
abbrev N_lane_Lanes_Put_1 : Nat := 11
noncomputable abbrev B_lane_Lanes_Put_1 : Func := Tryz.f241
theorem fn_lane_Lanes_Put_1 : cx.P.funcs[F_lane_Lanes_Put_1]? = some B_lane_Lanes_Put_1 := Tryz.func241
theorem real_lane_Lanes_Put_1 : Real cx.P F_lane_Lanes_Put_1 := ⟨_, Tryz.func241, rfl, rfl⟩
abbrev F_ring_Rings_Behind : Nat := 242
abbrev N_ring_Rings_Behind : Nat := 39
noncomputable abbrev B_ring_Rings_Behind : Func := Tryz.f242
theorem fn_ring_Rings_Behind : cx.P.funcs[F_ring_Rings_Behind]? = some B_ring_Rings_Behind := Tryz.func242
theorem real_ring_Rings_Behind : Real cx.P F_ring_Rings_Behind := ⟨_, Tryz.func242, rfl, rfl⟩
abbrev F_lane_Lanes_Put_2 : Nat := 243
abbrev N_lane_Lanes_Put_2 : Nat := 11
noncomputable abbrev B_lane_Lanes_Put_2 : Func := Tryz.f243
theorem fn_lane_Lanes_Put_2 : cx.P.funcs[F_lane_Lanes_Put_2]? = some B_lane_Lanes_Put_2 := Tryz.func243
theorem real_lane_Lanes_Put_2 : Real cx.P F_lane_Lanes_Put_2 := ⟨_, Tryz.func243, rfl, rfl⟩
abbrev F_ring_Rings_Lead : Nat := 244
abbrev N_ring_Rings_Lead : Nat := 27
noncomputable abbrev B_ring_Rings_Lead : Func := Tryz.f244
theorem fn_ring_Rings_Lead : cx.P.funcs[F_ring_Rings_Lead]? = some B_ring_Rings_Lead := Tryz.func244
theorem real_ring_Rings_Lead : Real cx.P F_ring_Rings_Lead := ⟨_, Tryz.func244, rfl, rfl⟩
abbrev F_round_Book_stuck : Nat := 245
abbrev N_round_Book_stuck : Nat := 27
noncomputable abbrev B_round_Book_stuck : Func := Tryz.f245
theorem fn_round_Book_stuck : cx.P.funcs[F_round_Book_stuck]? = some B_round_Book_stuck := Tryz.func245
theorem real_round_Book_stuck : Real cx.P F_round_Book_stuck := ⟨_, Tryz.func245, rfl, rfl⟩
abbrev F_share_Rates : Nat := 246
abbrev N_share_Rates : Nat := 27
noncomputable abbrev B_share_Rates : Func := Tryz.f246
theorem fn_share_Rates : cx.P.funcs[F_share_Rates]? = some B_share_Rates := Tryz.func246
theorem real_share_Rates : Real cx.P F_share_Rates := ⟨_, Tryz.func246, rfl, rfl⟩
abbrev F_slice_All : Nat := 247
abbrev N_slice_All : Nat := 35
noncomputable abbrev B_slice_All : Func := Tryz.f247
theorem fn_slice_All : cx.P.funcs[F_slice_All]? = some B_slice_All := Tryz.func247
theorem real_slice_All : Real cx.P F_slice_All := ⟨_, Tryz.func247, rfl, rfl⟩
abbrev F_cmp_Compare_int : Nat := 248
abbrev N_cmp_Compare_int : Nat := 20
noncomputable abbrev B_cmp_Compare_int : Func := Tryz.f248
theorem fn_cmp_Compare_int : cx.P.funcs[F_cmp_Compare_int]? = some B_cmp_Compare_int := Tryz.func248
theorem real_cmp_Compare_int : Real cx.P F_cmp_Compare_int := ⟨_, Tryz.func248, rfl, rfl⟩
abbrev F_slices_Backward_nat_Nat_uint64 : Nat := 249
abbrev N_slices_Backward_nat_Nat_uint64 : Nat := 4
noncomputable abbrev B_slices_Backward_nat_Nat_uint64 : Func := Tryz.f249
theorem fn_slices_Backward_nat_Nat_uint64 : cx.P.funcs[F_slices_Backward_nat_Nat_uint64]? = some B_slices_Backward_nat_Nat_uint64 := Tryz.func249
theorem real_slices_Backward_nat_Nat_uint64 : Real cx.P F_slices_Backward_nat_Nat_uint64 := ⟨_, Tryz.func249, rfl, rfl⟩
abbrev F_cmp_Compare_uint64 : Nat := 250
abbrev N_cmp_Compare_uint64 : Nat := 20
noncomputable abbrev B_cmp_Compare_uint64 : Func := Tryz.f250
theorem fn_cmp_Compare_uint64 : cx.P.funcs[F_cmp_Compare_uint64]? = some B_cmp_Compare_uint64 := Tryz.func250
theorem real_cmp_Compare_uint64 : Real cx.P F_cmp_Compare_uint64 := ⟨_, Tryz.func250, rfl, rfl⟩
abbrev F_slices_Clone_nat_Nat_uint64 : Nat := 251
abbrev N_slices_Clone_nat_Nat_uint64 : Nat := 8
noncomputable abbrev B_slices_Clone_nat_Nat_uint64 : Func := Tryz.f251
theorem fn_slices_Clone_nat_Nat_uint64 : cx.P.funcs[F_slices_Clone_nat_Nat_uint64]? = some B_slices_Clone_nat_Nat_uint64 := Tryz.func251
theorem real_slices_Clone_nat_Nat_uint64 : Real cx.P F_slices_Clone_nat_Nat_uint64 := ⟨_, Tryz.func251, rfl, rfl⟩
abbrev F_math_bits_Mul64 : Nat := 252
abbrev N_math_bits_Mul64 : Nat := 51
noncomputable abbrev B_math_bits_Mul64 : Func := Tryz.f252
theorem fn_math_bits_Mul64 : cx.P.funcs[F_math_bits_Mul64]? = some B_math_bits_Mul64 := Tryz.func252
theorem real_math_bits_Mul64 : Real cx.P F_math_bits_Mul64 := ⟨_, Tryz.func252, rfl, rfl⟩
abbrev F_math_bits_Add64 : Nat := 253
theorem fn_math_bits_Add64 : cx.P.funcs[F_math_bits_Add64]? = some Tryz.f253 := Tryz.func253
abbrev F_nat_Nat_long : Nat := 254
abbrev N_nat_Nat_long : Nat := 18
noncomputable abbrev B_nat_Nat_long : Func := Tryz.f254
theorem fn_nat_Nat_long : cx.P.funcs[F_nat_Nat_long]? = some B_nat_Nat_long := Tryz.func254
theorem real_nat_Nat_long : Real cx.P F_nat_Nat_long := ⟨_, Tryz.func254, rfl, rfl⟩
abbrev F_nat_Nat_shifted : Nat := 255
abbrev N_nat_Nat_shifted : Nat := 44
noncomputable abbrev B_nat_Nat_shifted : Func := Tryz.f255
theorem fn_nat_Nat_shifted : cx.P.funcs[F_nat_Nat_shifted]? = some B_nat_Nat_shifted := Tryz.func255
theorem real_nat_Nat_shifted : Real cx.P F_nat_Nat_shifted := ⟨_, Tryz.func255, rfl, rfl⟩
abbrev F_nat_less : Nat := 256
abbrev N_nat_less : Nat := 34
noncomputable abbrev B_nat_less : Func := Tryz.f256
theorem fn_nat_less : cx.P.funcs[F_nat_less]? = some B_nat_less := Tryz.func256
theorem real_nat_less : Real cx.P F_nat_less := ⟨_, Tryz.func256, rfl, rfl⟩
abbrev F_place_Load : Nat := 257
abbrev N_place_Load : Nat := 30
noncomputable abbrev B_place_Load : Func := Tryz.f257
theorem fn_place_Load : cx.P.funcs[F_place_Load]? = some B_place_Load := Tryz.func257
theorem real_place_Load : Real cx.P F_place_Load := ⟨_, Tryz.func257, rfl, rfl⟩
abbrev F_math_bits_OnesCount64 : Nat := 269
abbrev N_math_bits_OnesCount64 : Nat := 35
noncomputable abbrev B_math_bits_OnesCount64 : Func := Tryz.f269
theorem fn_math_bits_OnesCount64 : cx.P.funcs[F_math_bits_OnesCount64]? = some B_math_bits_OnesCount64 := Tryz.func269
theorem real_math_bits_OnesCount64 : Real cx.P F_math_bits_OnesCount64 := ⟨_, Tryz.func269, rfl, rfl⟩
abbrev F_tree_node_below : Nat := 271
abbrev N_tree_node_below : Nat := 9
noncomputable abbrev B_tree_node_below : Func := Tryz.f271
theorem fn_tree_node_below : cx.P.funcs[F_tree_node_below]? = some B_tree_node_below := Tryz.func271
theorem real_tree_node_below : Real cx.P F_tree_node_below := ⟨_, Tryz.func271, rfl, rfl⟩
abbrev F_math_bits_Len64 : Nat := 283
abbrev N_math_bits_Len64 : Nat := 25
noncomputable abbrev B_math_bits_Len64 : Func := Tryz.f283
theorem fn_math_bits_Len64 : cx.P.funcs[F_math_bits_Len64]? = some B_math_bits_Len64 := Tryz.func283
theorem real_math_bits_Len64 : Real cx.P F_math_bits_Len64 := ⟨_, Tryz.func283, rfl, rfl⟩
abbrev F_ring_Rings_Last : Nat := 288
abbrev N_ring_Rings_Last : Nat := 24
noncomputable abbrev B_ring_Rings_Last : Func := Tryz.f288
theorem fn_ring_Rings_Last : cx.P.funcs[F_ring_Rings_Last]? = some B_ring_Rings_Last := Tryz.func288
theorem real_ring_Rings_Last : Real cx.P F_ring_Rings_Last := ⟨_, Tryz.func288, rfl, rfl⟩
abbrev F_ring_Rings_Prev : Nat := 289
abbrev N_ring_Rings_Prev : Nat := 19
noncomputable abbrev B_ring_Rings_Prev : Func := Tryz.f289
theorem fn_ring_Rings_Prev : cx.P.funcs[F_ring_Rings_Prev]? = some B_ring_Rings_Prev := Tryz.func289
theorem real_ring_Rings_Prev : Real cx.P F_ring_Rings_Prev := ⟨_, Tryz.func289, rfl, rfl⟩
abbrev F_ring_Rings_free : Nat := 290
abbrev N_ring_Rings_free : Nat := 20
noncomputable abbrev B_ring_Rings_free : Func := Tryz.f290
theorem fn_ring_Rings_free : cx.P.funcs[F_ring_Rings_free]? = some B_ring_Rings_free := Tryz.func290
theorem real_ring_Rings_free : Real cx.P F_ring_Rings_free := ⟨_, Tryz.func290, rfl, rfl⟩
abbrev F_ring_Rings_put : Nat := 291
abbrev N_ring_Rings_put : Nat := 59
noncomputable abbrev B_ring_Rings_put : Func := Tryz.f291
theorem fn_ring_Rings_put : cx.P.funcs[F_ring_Rings_put]? = some B_ring_Rings_put := Tryz.func291
theorem real_ring_Rings_put : Real cx.P F_ring_Rings_put := ⟨_, Tryz.func291, rfl, rfl⟩
abbrev F_share_solve : Nat := 292
abbrev N_share_solve : Nat := 89
noncomputable abbrev B_share_solve : Func := Tryz.f292
theorem fn_share_solve : cx.P.funcs[F_share_solve]? = some B_share_solve := Tryz.func292
theorem real_share_solve : Real cx.P F_share_solve := ⟨_, Tryz.func292, rfl, rfl⟩
abbrev F_cmp_isNaN_int : Nat := 293
abbrev N_cmp_isNaN_int : Nat := 6
noncomputable abbrev B_cmp_isNaN_int : Func := Tryz.f293
theorem fn_cmp_isNaN_int : cx.P.funcs[F_cmp_isNaN_int]? = some B_cmp_isNaN_int := Tryz.func293
theorem real_cmp_isNaN_int : Real cx.P F_cmp_isNaN_int := ⟨_, Tryz.func293, rfl, rfl⟩
abbrev F_slices_Backward_nat_Nat_uint64_1 : Nat := 294
abbrev N_slices_Backward_nat_Nat_uint64_1 : Nat := 19
noncomputable abbrev B_slices_Backward_nat_Nat_uint64_1 : Func := Tryz.f294
theorem fn_slices_Backward_nat_Nat_uint64_1 : cx.P.funcs[F_slices_Backward_nat_Nat_uint64_1]? = some B_slices_Backward_nat_Nat_uint64_1 := Tryz.func294
theorem real_slices_Backward_nat_Nat_uint64_1 : Real cx.P F_slices_Backward_nat_Nat_uint64_1 := ⟨_, Tryz.func294, rfl, rfl⟩
abbrev F_cmp_isNaN_uint64 : Nat := 295
abbrev N_cmp_isNaN_uint64 : Nat := 6
noncomputable abbrev B_cmp_isNaN_uint64 : Func := Tryz.f295
theorem fn_cmp_isNaN_uint64 : cx.P.funcs[F_cmp_isNaN_uint64]? = some B_cmp_isNaN_uint64 := Tryz.func295
theorem real_cmp_isNaN_uint64 : Real cx.P F_cmp_isNaN_uint64 := ⟨_, Tryz.func295, rfl, rfl⟩
abbrev F_math_bits_Sub64 : Nat := 296
theorem fn_math_bits_Sub64 : cx.P.funcs[F_math_bits_Sub64]? = some Tryz.f296 := Tryz.func296
abbrev F_place_Load_1 : Nat := 297
abbrev N_place_Load_1 : Nat := 7
noncomputable abbrev B_place_Load_1 : Func := Tryz.f297
theorem fn_place_Load_1 : cx.P.funcs[F_place_Load_1]? = some B_place_Load_1 := Tryz.func297
theorem real_place_Load_1 : Real cx.P F_place_Load_1 := ⟨_, Tryz.func297, rfl, rfl⟩
abbrev F_slices_Contains_tree_node_tree_node : Nat := 303
abbrev N_slices_Contains_tree_node_tree_node : Nat := 9
noncomputable abbrev B_slices_Contains_tree_node_tree_node : Func := Tryz.f303
theorem fn_slices_Contains_tree_node_tree_node : cx.P.funcs[F_slices_Contains_tree_node_tree_node]? = some B_slices_Contains_tree_node_tree_node := Tryz.func303
theorem real_slices_Contains_tree_node_tree_node : Real cx.P F_slices_Contains_tree_node_tree_node := ⟨_, Tryz.func303, rfl, rfl⟩
abbrev F_tree_Forest_Below : Nat := 319
abbrev N_tree_Forest_Below : Nat := 38
noncomputable abbrev B_tree_Forest_Below : Func := Tryz.f319
theorem fn_tree_Forest_Below : cx.P.funcs[F_tree_Forest_Below]? = some B_tree_Forest_Below := Tryz.func319
theorem real_tree_Forest_Below : Real cx.P F_tree_Forest_Below := ⟨_, Tryz.func319, rfl, rfl⟩
abbrev F_share_solver_count : Nat := 320
abbrev N_share_solver_count : Nat := 28
noncomputable abbrev B_share_solver_count : Func := Tryz.f320
theorem fn_share_solver_count : cx.P.funcs[F_share_solver_count]? = some B_share_solver_count := Tryz.func320
theorem real_share_solver_count : Real cx.P F_share_solver_count := ⟨_, Tryz.func320, rfl, rfl⟩
abbrev F_share_solver_share : Nat := 321
abbrev N_share_solver_share : Nat := 136
noncomputable abbrev B_share_solver_share : Func := Tryz.f321
theorem fn_share_solver_share : cx.P.funcs[F_share_solver_share]? = some B_share_solver_share := Tryz.func321
theorem real_share_solver_share : Real cx.P F_share_solver_share := ⟨_, Tryz.func321, rfl, rfl⟩
abbrev F_slices_Index_tree_node_tree_node : Nat := 329
abbrev N_slices_Index_tree_node_tree_node : Nat := 19
noncomputable abbrev B_slices_Index_tree_node_tree_node : Func := Tryz.f329
theorem fn_slices_Index_tree_node_tree_node : cx.P.funcs[F_slices_Index_tree_node_tree_node]? = some B_slices_Index_tree_node_tree_node := Tryz.func329
theorem real_slices_Index_tree_node_tree_node : Real cx.P F_slices_Index_tree_node_tree_node := ⟨_, Tryz.func329, rfl, rfl⟩
abbrev F_share_solver_children : Nat := 340
abbrev N_share_solver_children : Nat := 37
noncomputable abbrev B_share_solver_children : Func := Tryz.f340
theorem fn_share_solver_children : cx.P.funcs[F_share_solver_children]? = some B_share_solver_children := Tryz.func340
theorem real_share_solver_children : Real cx.P F_share_solver_children := ⟨_, Tryz.func340, rfl, rfl⟩
abbrev F_fill_Fill : Nat := 341
abbrev N_fill_Fill : Nat := 41
noncomputable abbrev B_fill_Fill : Func := Tryz.f341
theorem fn_fill_Fill : cx.P.funcs[F_fill_Fill]? = some B_fill_Fill := Tryz.func341
theorem real_fill_Fill : Real cx.P F_fill_Fill := ⟨_, Tryz.func341, rfl, rfl⟩
abbrev F_tree_Forest_Children : Nat := 345
abbrev N_tree_Forest_Children : Nat := 41
noncomputable abbrev B_tree_Forest_Children : Func := Tryz.f345
theorem fn_tree_Forest_Children : cx.P.funcs[F_tree_Forest_Children]? = some B_tree_Forest_Children := Tryz.func345
theorem real_tree_Forest_Children : Real cx.P F_tree_Forest_Children := ⟨_, Tryz.func345, rfl, rfl⟩
abbrev F_share_solver_children_1 : Nat := 346
abbrev N_share_solver_children_1 : Nat := 11
noncomputable abbrev B_share_solver_children_1 : Func := Tryz.f346
theorem fn_share_solver_children_1 : cx.P.funcs[F_share_solver_children_1]? = some B_share_solver_children_1 := Tryz.func346
theorem real_share_solver_children_1 : Real cx.P F_share_solver_children_1 := ⟨_, Tryz.func346, rfl, rfl⟩
abbrev F_fill_children : Nat := 347
abbrev N_fill_children : Nat := 66
noncomputable abbrev B_fill_children : Func := Tryz.f347
theorem fn_fill_children : cx.P.funcs[F_fill_children]? = some B_fill_children := Tryz.func347
theorem real_fill_children : Real cx.P F_fill_children := ⟨_, Tryz.func347, rfl, rfl⟩
abbrev F_fill_level : Nat := 348
abbrev N_fill_level : Nat := 80
noncomputable abbrev B_fill_level : Func := Tryz.f348
theorem fn_fill_level : cx.P.funcs[F_fill_level]? = some B_fill_level := Tryz.func348
theorem real_fill_level : Real cx.P F_fill_level := ⟨_, Tryz.func348, rfl, rfl⟩
abbrev F_fill_child_given : Nat := 349
abbrev N_fill_child_given : Nat := 21
noncomputable abbrev B_fill_child_given : Func := Tryz.f349
theorem fn_fill_child_given : cx.P.funcs[F_fill_child_given]? = some B_fill_child_given := Tryz.func349
theorem real_fill_child_given : Real cx.P F_fill_child_given := ⟨_, Tryz.func349, rfl, rfl⟩
abbrev F_fill_children_1 : Nat := 353
abbrev N_fill_children_1 : Nat := 9
noncomputable abbrev B_fill_children_1 : Func := Tryz.f353
theorem fn_fill_children_1 : cx.P.funcs[F_fill_children_1]? = some B_fill_children_1 := Tryz.func353
theorem real_fill_children_1 : Real cx.P F_fill_children_1 := ⟨_, Tryz.func353, rfl, rfl⟩
abbrev F_fill_children_2 : Nat := 354
abbrev N_fill_children_2 : Nat := 9
noncomputable abbrev B_fill_children_2 : Func := Tryz.f354
theorem fn_fill_children_2 : cx.P.funcs[F_fill_children_2]? = some B_fill_children_2 := Tryz.func354
theorem real_fill_children_2 : Real cx.P F_fill_children_2 := ⟨_, Tryz.func354, rfl, rfl⟩
abbrev F_slices_ContainsFunc_int_int : Nat := 355
abbrev N_slices_ContainsFunc_int_int : Nat := 9
noncomputable abbrev B_slices_ContainsFunc_int_int : Func := Tryz.f355
theorem fn_slices_ContainsFunc_int_int : cx.P.funcs[F_slices_ContainsFunc_int_int]? = some B_slices_ContainsFunc_int_int := Tryz.func355
theorem real_slices_ContainsFunc_int_int : Real cx.P F_slices_ContainsFunc_int_int := ⟨_, Tryz.func355, rfl, rfl⟩
abbrev F_slices_SortedFunc_fill_child : Nat := 356
abbrev N_slices_SortedFunc_fill_child : Nat := 12
noncomputable abbrev B_slices_SortedFunc_fill_child : Func := Tryz.f356
theorem fn_slices_SortedFunc_fill_child : cx.P.funcs[F_slices_SortedFunc_fill_child]? = some B_slices_SortedFunc_fill_child := Tryz.func356
theorem real_slices_SortedFunc_fill_child : Real cx.P F_slices_SortedFunc_fill_child := ⟨_, Tryz.func356, rfl, rfl⟩
abbrev F_slices_Values_fill_child_fill_child : Nat := 357
abbrev N_slices_Values_fill_child_fill_child : Nat := 4
noncomputable abbrev B_slices_Values_fill_child_fill_child : Func := Tryz.f357
theorem fn_slices_Values_fill_child_fill_child : cx.P.funcs[F_slices_Values_fill_child_fill_child]? = some B_slices_Values_fill_child_fill_child := Tryz.func357
theorem real_slices_Values_fill_child_fill_child : Real cx.P F_slices_Values_fill_child_fill_child := ⟨_, Tryz.func357, rfl, rfl⟩
abbrev F_fill_early : Nat := 358
abbrev N_fill_early : Nat := 16
noncomputable abbrev B_fill_early : Func := Tryz.f358
theorem fn_fill_early : cx.P.funcs[F_fill_early]? = some B_fill_early := Tryz.func358
abbrev F_ratio_Div : Nat := 359
abbrev N_ratio_Div : Nat := 19
noncomputable abbrev B_ratio_Div : Func := Tryz.f359
theorem fn_ratio_Div : cx.P.funcs[F_ratio_Div]? = some B_ratio_Div := Tryz.func359
theorem real_ratio_Div : Real cx.P F_ratio_Div := ⟨_, Tryz.func359, rfl, rfl⟩
abbrev F_ratio_Sub : Nat := 360
abbrev N_ratio_Sub : Nat := 31
noncomputable abbrev B_ratio_Sub : Func := Tryz.f360
theorem fn_ratio_Sub : cx.P.funcs[F_ratio_Sub]? = some B_ratio_Sub := Tryz.func360
theorem real_ratio_Sub : Real cx.P F_ratio_Sub := ⟨_, Tryz.func360, rfl, rfl⟩
abbrev F_slices_Collect_fill_child : Nat := 361
abbrev N_slices_Collect_fill_child : Nat := 5
noncomputable abbrev B_slices_Collect_fill_child : Func := Tryz.f361
theorem fn_slices_Collect_fill_child : cx.P.funcs[F_slices_Collect_fill_child]? = some B_slices_Collect_fill_child := Tryz.func361
theorem real_slices_Collect_fill_child : Real cx.P F_slices_Collect_fill_child := ⟨_, Tryz.func361, rfl, rfl⟩
abbrev F_slices_SortFunc_fill_child_fill_child : Nat := 362
theorem real_slices_SortFunc_fill_child_fill_child : Real cx.P F_slices_SortFunc_fill_child_fill_child := ⟨_, Tryz.func362, rfl, rfl⟩
abbrev F_slices_Values_fill_child_fill_child_1 : Nat := 363
abbrev N_slices_Values_fill_child_fill_child_1 : Nat := 16
noncomputable abbrev B_slices_Values_fill_child_fill_child_1 : Func := Tryz.f363
theorem fn_slices_Values_fill_child_fill_child_1 : cx.P.funcs[F_slices_Values_fill_child_fill_child_1]? = some B_slices_Values_fill_child_fill_child_1 := Tryz.func363
theorem real_slices_Values_fill_child_fill_child_1 : Real cx.P F_slices_Values_fill_child_fill_child_1 := ⟨_, Tryz.func363, rfl, rfl⟩
abbrev F_ratio_Of : Nat := 364
abbrev N_ratio_Of : Nat := 13
noncomputable abbrev B_ratio_Of : Func := Tryz.f364
theorem fn_ratio_Of : cx.P.funcs[F_ratio_Of]? = some B_ratio_Of := Tryz.func364
theorem real_ratio_Of : Real cx.P F_ratio_Of := ⟨_, Tryz.func364, rfl, rfl⟩
abbrev F_nat_Sub : Nat := 365
abbrev N_nat_Sub : Nat := 13
noncomputable abbrev B_nat_Sub : Func := Tryz.f365
theorem fn_nat_Sub : cx.P.funcs[F_nat_Sub]? = some B_nat_Sub := Tryz.func365
theorem real_nat_Sub : Real cx.P F_nat_Sub := ⟨_, Tryz.func365, rfl, rfl⟩
abbrev F_slices_AppendSeq_fill_child_fill_child : Nat := 366
abbrev N_slices_AppendSeq_fill_child_fill_child : Nat := 13
noncomputable abbrev B_slices_AppendSeq_fill_child_fill_child : Func := Tryz.f366
theorem fn_slices_AppendSeq_fill_child_fill_child : cx.P.funcs[F_slices_AppendSeq_fill_child_fill_child]? = some B_slices_AppendSeq_fill_child_fill_child := Tryz.func366
theorem real_slices_AppendSeq_fill_child_fill_child : Real cx.P F_slices_AppendSeq_fill_child_fill_child := ⟨_, Tryz.func366, rfl, rfl⟩
end Go.Proofs.YtpbnjifefoniiaaGreatDoor
namespace Go.Proofs.YtpbnjifefoniiaaGreatDoor
open Go Go.SE
def valL : List Nat → Nat
  | [] => 0
  | x :: xs => x + 18446744073709551616 * valL xs
def Lm (xs : List Nat) : Prop := ∀ x ∈ xs, x < 18446744073709551616
def Tr (xs : List Nat) : Prop := xs.getLast? ≠ some 0
def limbs (n : Nat) : List Nat := if h : n = 0 then [] else n % 18446744073709551616 :: limbs (n / 18446744073709551616)
termination_by n
decreasing_by exact Nat.div_lt_self (Nat.pos_of_ne_zero h) (by decide)
theorem limbs_zero : limbs 0 = [] := by rw [limbs, dif_pos rfl]
theorem limbs_pos {n : Nat} (h : n ≠ 0) : limbs n = n % 18446744073709551616 :: limbs (n / 18446744073709551616) := by rw [limbs, dif_neg h]
theorem limbs_nil {n : Nat} : limbs n = [] ↔ n = 0 := by
  constructor
  · intro h
    by_cases h0 : n = 0
    · exact h0
    · rw [limbs_pos h0] at h; cases h
  · rintro rfl; exact limbs_zero
theorem val_limbs (n : Nat) : valL (limbs n) = n := by
  induction n using Nat.strongRecOn with
  | _ n ih =>
    by_cases h0 : n = 0
    · subst h0; rw [limbs_zero]; rfl
    · rw [limbs_pos h0, valL, ih (n / 18446744073709551616) (Nat.div_lt_self (Nat.pos_of_ne_zero h0) (by decide))]
      exact Nat.mod_add_div n 18446744073709551616
theorem limbs_lm (n : Nat) : Lm (limbs n) := by
  induction n using Nat.strongRecOn with
  | _ n ih =>
    by_cases h0 : n = 0
    · subst h0; rw [limbs_zero]; intro x hx; cases hx
    · rw [limbs_pos h0]
      intro x hx
      rcases List.mem_cons.1 hx with rfl | hx
      · exact Nat.mod_lt _ (by decide)
      · exact ih (n / 18446744073709551616) (Nat.div_lt_self (Nat.pos_of_ne_zero h0) (by decide)) x hx
theorem tr_cons {x : Nat} {xs : List Nat} : Tr (x :: xs) ↔ (xs = [] ∧ x ≠ 0) ∨ (xs ≠ [] ∧ Tr xs) := by
  unfold Tr
  cases xs with
  | nil => simp
  | cons y ys => simp [List.getLast?_cons_cons]
theorem limbs_of : ∀ (xs : List Nat), Lm xs → Tr xs → limbs (valL xs) = xs
  | [], _, _ => limbs_zero
  | x :: xs, hl, ht => by
    have hx : x < 18446744073709551616 := hl x (by simp)
    have hl' : Lm xs := fun y hy => hl y (by simp [hy])
    have hne : valL (x :: xs) ≠ 0 := by
      rcases tr_cons.1 ht with ⟨rfl, h⟩ | ⟨h, h2⟩
      · simp only [valL]; omega
      · have ih := limbs_of xs hl' h2
        have : valL xs ≠ 0 := fun e => h (by rw [← ih, e, limbs_zero])
        simp only [valL]; omega
    have h1 : (x + 18446744073709551616 * valL xs) % 18446744073709551616 = x := by rw [Nat.add_mul_mod_self_left, Nat.mod_eq_of_lt hx]
    have h2 : (x + 18446744073709551616 * valL xs) / 18446744073709551616 = valL xs := by rw [Nat.add_mul_div_left _ _ (by decide), Nat.div_eq_of_lt hx, Nat.zero_add]
    rw [limbs_pos hne, valL, h1, h2]
    congr 1
    rcases tr_cons.1 ht with ⟨rfl, _⟩ | ⟨_, h⟩
    · exact limbs_zero
    · exact limbs_of xs hl' h
theorem limbs_tr (n : Nat) : Tr (limbs n) := by
  induction n using Nat.strongRecOn with
  | _ n ih =>
    by_cases h0 : n = 0
    · subst h0; rw [limbs_zero]; simp [Tr]
    · rw [limbs_pos h0, tr_cons]
      by_cases h1 : n / 18446744073709551616 = 0
      · left
        rw [h1]
        exact ⟨limbs_zero, fun e => h0 (by have := Nat.mod_add_div n 18446744073709551616; rw [e, h1] at this; simpa using this.symm)⟩
      · exact .inr ⟨fun e => h1 (limbs_nil.1 e), ih (n / 18446744073709551616) (Nat.div_lt_self (Nat.pos_of_ne_zero h0) (by decide))⟩
theorem val_app : ∀ (xs ys : List Nat), valL (xs ++ ys) = valL xs + 18446744073709551616 ^ xs.length * valL ys
  | [], ys => by simp [valL]
  | x :: xs, ys => by
    simp only [List.cons_append, valL, val_app xs ys, List.length_cons, Nat.pow_succ, Nat.mul_add]
    rw [Nat.add_assoc, ← Nat.mul_assoc, Nat.mul_comm 18446744073709551616 (18446744073709551616 ^ xs.length)]
theorem val_snoc (xs : List Nat) (x : Nat) : valL (xs ++ [x]) = valL xs + 18446744073709551616 ^ xs.length * x := by rw [val_app]; simp [valL]
theorem val_lt : ∀ (xs : List Nat), Lm xs → valL xs < 18446744073709551616 ^ xs.length
  | [], _ => by simp [valL]
  | x :: xs, h => by
    have hx : x < 18446744073709551616 := h x (by simp)
    have ih := val_lt xs fun y hy => h y (by simp [hy])
    simp only [valL, List.length_cons, Nat.pow_succ]
    have h1 : valL xs + 1 ≤ 18446744073709551616 ^ xs.length := ih
    have h2 : 18446744073709551616 * (valL xs + 1) ≤ 18446744073709551616 * 18446744073709551616 ^ xs.length := Nat.mul_le_mul_left _ h1
    rw [Nat.mul_comm (18446744073709551616 ^ xs.length)]
    omega
def trimL (xs : List Nat) : List Nat := limbs (valL xs)
theorem lm_app {xs ys : List Nat} (h1 : Lm xs) (h2 : Lm ys) : Lm (xs ++ ys) := fun x hx => (List.mem_append.1 hx).elim (h1 x) (h2 x)
theorem lm_snoc {xs : List Nat} {x : Nat} (h1 : Lm xs) (h2 : x < 18446744073709551616) : Lm (xs ++ [x]) := lm_app h1 fun y hy => by simp at hy; subst hy; exact h2
def part (a i : Nat) : Nat := valL ((limbs a).take i)
def dig (a i : Nat) : Nat := (limbs a).getD i 0
theorem part_zero (a : Nat) : part a 0 = 0 := rfl
theorem dig_lt (a i : Nat) : dig a i < 18446744073709551616 := by
  unfold dig
  rw [List.getD_eq_getElem?_getD]
  cases h : (limbs a)[i]? with
  | none => decide
  | some x => exact limbs_lm a x (List.mem_of_getElem? h)
theorem part_succ (a i : Nat) : part a (i + 1) = part a i + 18446744073709551616 ^ i * dig a i := by
  unfold part dig
  by_cases h : i < (limbs a).length
  · rw [List.take_succ_eq_append_getElem h, val_snoc, List.length_take, Nat.min_eq_left (Nat.le_of_lt h), List.getD_eq_getElem?_getD, List.getElem?_eq_getElem h]; rfl
  · rw [List.take_of_length_le (by omega), List.take_of_length_le (by omega), List.getD_eq_getElem?_getD, List.getElem?_eq_none (by omega)]; simp
theorem part_all (a i : Nat) (h : (limbs a).length ≤ i) : part a i = a := by rw [part, List.take_of_length_le h, val_limbs]
theorem limbs_len {n k : Nat} (h : n < 18446744073709551616 ^ k) : (limbs n).length ≤ k := by
  induction k generalizing n with
  | zero => simp at h; subst h; rw [limbs_zero]; simp
  | succ k ih =>
    by_cases h0 : n = 0
    · subst h0; rw [limbs_zero]; simp
    · rw [limbs_pos h0, List.length_cons]
      have := ih (n := n / 18446744073709551616) (by rw [Nat.div_lt_iff_lt_mul (by decide), ← Nat.pow_succ]; exact h)
      omega
theorem limbs_ge {n k : Nat} (h : k < (limbs n).length) : 18446744073709551616 ^ k ≤ n := by
  rcases Nat.lt_or_ge n (18446744073709551616 ^ k) with h1 | h1
  · have := limbs_len h1; omega
  · exact h1
theorem limbs_lt (n : Nat) : n < 18446744073709551616 ^ (limbs n).length := by
  have := val_lt _ (limbs_lm n)
  rwa [val_limbs] at this
end Go.Proofs.YtpbnjifefoniiaaGreatDoor
namespace Go.Proofs.YtpbnjifefoniiaaGreatDoor
open Go Go.SE
theorem mul_halves {x y : Nat} (hx : x < 18446744073709551616) (hy : y < 18446744073709551616) :
    (x / 4294967296) * (y / 4294967296) + ((x / 4294967296) * (y % 4294967296) + (x % 4294967296) * (y % 4294967296) / 4294967296) / 4294967296 +
      (((x / 4294967296) * (y % 4294967296) + (x % 4294967296) * (y % 4294967296) / 4294967296) % 4294967296 + (x % 4294967296) * (y / 4294967296)) / 4294967296 = x * y / 18446744073709551616 := by
  have e : x * y = (x / 4294967296) * (y / 4294967296) * 18446744073709551616 + ((x / 4294967296) * (y % 4294967296) + (x % 4294967296) * (y / 4294967296)) * 4294967296 + (x % 4294967296) * (y % 4294967296) := by
    have ex := Nat.div_add_mod x 4294967296
    have ey := Nat.div_add_mod y 4294967296
    generalize x / 4294967296 = x1 at *
    generalize x % 4294967296 = x0 at *
    generalize y / 4294967296 = y1 at *
    generalize y % 4294967296 = y0 at *
    subst ex; subst ey
    grind
  rw [e]
  generalize (x / 4294967296) * (y / 4294967296) = a at *
  generalize (x / 4294967296) * (y % 4294967296) = b at *
  generalize (x % 4294967296) * (y / 4294967296) = c at *
  generalize (x % 4294967296) * (y % 4294967296) = d at *
  omega
theorem half_le {a b : Nat} (ha : a < 4294967296) (hb : b < 4294967296) : a * b ≤ 18446744065119617025 := by
  have h1 : a * b ≤ 4294967295 * 4294967295 := Nat.mul_le_mul (by omega) (by omega)
  omega
def bor (a b : Nat) : Nat → Nat
  | 0 => 0
  | i + 1 => if dig a i < dig b i + bor a b i then 1 else 0
def difD (a b i : Nat) : Nat := (dig a i + 18446744073709551616 + 18446744073709551616 - dig b i - bor a b i) % 18446744073709551616
def difL (a b : Nat) : Nat → List Nat
  | 0 => []
  | i + 1 => difL a b i ++ [difD a b i]
theorem bor_le (a b : Nat) : ∀ i, bor a b i ≤ 1
  | 0 => by simp [bor]
  | i + 1 => by simp only [bor]; split <;> omega
theorem difL_len (a b : Nat) : ∀ i, (difL a b i).length = i
  | 0 => rfl
  | i + 1 => by rw [difL, List.length_append, difL_len a b i]; rfl
theorem difL_lm (a b : Nat) : ∀ i, Lm (difL a b i)
  | 0 => by intro x hx; cases hx
  | i + 1 => lm_snoc (difL_lm a b i) (Nat.mod_lt _ (by decide))
theorem dif_val (a b : Nat) : ∀ i, valL (difL a b i) + part b i = part a i + 18446744073709551616 ^ i * bor a b i
  | 0 => by simp [difL, bor, part_zero, valL]
  | i + 1 => by
    have ih := dif_val a b i
    have h1 := dig_lt a i
    have h2 := dig_lt b i
    have h3 := bor_le a b i
    have h : difD a b i + dig b i + bor a b i = dig a i + 18446744073709551616 * bor a b (i + 1) := by
      simp only [difD, bor]
      split <;> omega
    rw [difL, val_snoc, difL_len, part_succ, part_succ, Nat.pow_succ]
    generalize bor a b (i + 1) = q at *
    generalize difD a b i = m at *
    generalize 18446744073709551616 ^ i = p at *
    generalize bor a b i = c at *
    generalize dig a i = x at *
    generalize dig b i = y at *
    grind
theorem dif_all (a b : Nat) (h : b ≤ a) : trimL (difL a b (limbs a).length) = limbs (a - b) := by
  have hv := dif_val a b (limbs a).length
  have hlen : (limbs b).length ≤ (limbs a).length := limbs_len (Nat.lt_of_le_of_lt h (limbs_lt a))
  rw [part_all a _ (Nat.le_refl _), part_all b _ hlen] at hv
  have hlt := val_lt _ (difL_lm a b (limbs a).length)
  rw [difL_len] at hlt
  have hb := bor_le a b (limbs a).length
  have : bor a b (limbs a).length = 0 := by
    rcases Nat.lt_or_ge (bor a b (limbs a).length) 1 with h1 | h1
    · omega
    · have h2 : bor a b (limbs a).length = 1 := by omega
      rw [h2, Nat.mul_one] at hv
      omega
  rw [this, Nat.mul_zero, Nat.add_zero] at hv
  rw [trimL]; congr 1; omega
end Go.Proofs.YtpbnjifefoniiaaGreatDoor
namespace Go.Proofs.YtpbnjifefoniiaaGreatDoor
open Go Go.SE
theorem val_set : ∀ (xs : List Nat) (j v : Nat) (h : j < xs.length), valL (xs.set j v) + 18446744073709551616 ^ j * xs[j] = valL xs + 18446744073709551616 ^ j * v
  | x :: xs, 0, v, _ => by simp only [List.set_cons_zero, valL, List.getElem_cons_zero, Nat.pow_zero]; omega
  | x :: xs, j + 1, v, h => by
    have ih := val_set xs j v (by simpa using h)
    simp only [List.set_cons_succ, valL, List.getElem_cons_succ, Nat.pow_succ]
    generalize 18446744073709551616 ^ j = p at *
    generalize valL (xs.set j v) = s at *
    generalize xs[j]'(by simpa using h) = y at *
    grind
theorem lm_set {xs : List Nat} {j v : Nat} (h : Lm xs) (hv : v < 18446744073709551616) : Lm (xs.set j v) := fun x hx => by
  rcases List.mem_or_eq_of_mem_set hx with h1 | rfl
  · exact h x h1
  · exact hv
theorem val_zeros : ∀ n : Nat, valL (List.replicate n 0) = 0
  | 0 => rfl
  | n + 1 => by rw [List.replicate_succ, valL, val_zeros n]
theorem lm_zeros (n : Nat) : Lm (List.replicate n 0) := fun x hx => by rw [List.eq_of_mem_replicate hx]; decide
theorem val_dig : ∀ (xs : List Nat) (j : Nat) (h : j < xs.length), Lm xs → xs[j] = valL xs / 18446744073709551616 ^ j % 18446744073709551616
  | x :: xs, 0, _, hl => by
    have hx : x < 18446744073709551616 := hl x (by simp)
    simp only [List.getElem_cons_zero, valL, Nat.pow_zero, Nat.div_one, Nat.add_mul_mod_self_left]
    exact (Nat.mod_eq_of_lt hx).symm
  | x :: xs, j + 1, h, hl => by
    have hx : x < 18446744073709551616 := hl x (by simp)
    have ih := val_dig xs j (by simpa using h) fun y hy => hl y (by simp [hy])
    have e : (x + 18446744073709551616 * valL xs) / 18446744073709551616 = valL xs := by rw [Nat.add_mul_div_left _ _ (by decide), Nat.div_eq_of_lt hx, Nat.zero_add]
    simp only [List.getElem_cons_succ, valL]
    rw [ih, Nat.pow_succ, Nat.mul_comm (18446744073709551616 ^ j), ← Nat.div_div_eq_div_mul, e]
structure Row (a b i k : Nat) (out : List Nat) (c : Nat) : Prop where
  len : out.length = (limbs a).length + (limbs b).length
  lm : Lm out
  val : valL out + 18446744073709551616 ^ (i + k) * c = part a i * b + 18446744073709551616 ^ i * (dig a i * part b k)
  hi : ∀ j (h : j < out.length), i + (limbs b).length ≤ j → out[j] = 0
  cl : c < 18446744073709551616
theorem row_step {a b i k c : Nat} {out : List Nat} (h : Row a b i k out c) (hk : k < (limbs b).length) (hj : i + k < out.length) :
    Row a b i (k + 1) (out.set (i + k) ((out[i + k] + dig a i * dig b k + c) % 18446744073709551616)) ((out[i + k] + dig a i * dig b k + c) / 18446744073709551616) := by
  have hx := dig_lt a i
  have hy := dig_lt b k
  have ho : out[i + k] < 18446744073709551616 := h.lm _ (List.getElem_mem hj)
  have hc := h.cl
  have hv := h.val
  have hp : dig a i * dig b k ≤ (18446744073709551616 - 1) * (18446744073709551616 - 1) := Nat.mul_le_mul (by omega) (by omega)
  have hlt : (out[i + k] + dig a i * dig b k + c) / 18446744073709551616 < 18446744073709551616 := by
    rw [Nat.div_lt_iff_lt_mul (by decide)]; omega
  refine ⟨by simpa using h.len, lm_set h.lm (Nat.mod_lt _ (by decide)), ?_, fun j hj2 hge => ?_, hlt⟩
  · have hs := val_set out (i + k) ((out[i + k] + dig a i * dig b k + c) % 18446744073709551616) hj
    have hm := Nat.div_add_mod (out[i + k] + dig a i * dig b k + c) 18446744073709551616
    rw [part_succ]
    generalize (out[i + k] + dig a i * dig b k + c) / 18446744073709551616 = q at *
    generalize (out[i + k] + dig a i * dig b k + c) % 18446744073709551616 = m at *
    generalize valL (out.set (i + k) m) = s at *
    generalize out[i + k] = z at *
    have e1 : 18446744073709551616 ^ (i + (k + 1)) = 18446744073709551616 ^ i * 18446744073709551616 ^ k * 18446744073709551616 := by rw [← Nat.add_assoc, Nat.pow_succ, Nat.pow_add]
    have e2 : 18446744073709551616 ^ (i + k) = 18446744073709551616 ^ i * 18446744073709551616 ^ k := Nat.pow_add _ _ _
    rw [e1]
    rw [e2] at hs hv
    generalize 18446744073709551616 ^ i = p at *
    generalize 18446744073709551616 ^ k = r at *
    generalize dig a i = x at *
    generalize dig b k = y at *
    generalize part a i = u at *
    generalize part b k = t at *
    grind
  · have hj3 : j < out.length := by simpa using hj2
    rw [List.getElem_set_ne (by omega)]
    exact h.hi j hj3 hge
theorem row_end {a b i c : Nat} {out : List Nat} (h : Row a b i (limbs b).length out c) (hj : i + (limbs b).length < out.length) : Row a b (i + 1) 0 (out.set (i + (limbs b).length) c) 0 := by
  refine ⟨by simpa using h.len, lm_set h.lm h.cl, ?_, fun j hj2 hge => ?_, by decide⟩
  · have hs := val_set out (i + (limbs b).length) c hj
    rw [h.hi _ hj (Nat.le_refl _)] at hs
    have hv := h.val
    rw [part_all b _ (Nat.le_refl _)] at hv
    rw [part_succ, part_zero]
    rw [Nat.mul_zero, Nat.add_zero] at hs
    rw [Nat.mul_zero, Nat.mul_zero, Nat.mul_zero, Nat.add_zero, Nat.add_zero, hs, hv, Nat.add_mul, Nat.mul_assoc]
  · have hj3 : j < out.length := by simpa using hj2
    rw [List.getElem_set_ne (by omega)]
    exact h.hi j hj3 (by omega)
theorem row_zero (a b : Nat) : Row a b 0 0 (List.replicate ((limbs a).length + (limbs b).length) 0) 0 :=
  ⟨by simp, lm_zeros _, by rw [val_zeros, part_zero, part_zero]; simp, fun j h _ => by simp, by decide⟩
theorem row_all {a b : Nat} {out : List Nat} (h : Row a b (limbs a).length 0 out 0) : trimL out = limbs (a * b) := by
  have hv := h.val
  rw [part_all a _ (Nat.le_refl _), part_zero, Nat.mul_zero, Nat.mul_zero, Nat.mul_zero, Nat.add_zero, Nat.add_zero] at hv
  rw [trimL, hv]
theorem shl_or {x r c : Nat} (hx : x < 18446744073709551616) (hr : r < 64) (hc : c < 2 ^ r) :
    (x * 2 ^ r % 18446744073709551616 ||| c) + 18446744073709551616 * (x / 2 ^ (64 - r)) = x * 2 ^ r + c ∧ x / 2 ^ (64 - r) < 2 ^ r ∧ (x * 2 ^ r % 18446744073709551616 ||| c) < 18446744073709551616 := by
  have e : 18446744073709551616 = 2 ^ (64 - r) * 2 ^ r := by rw [← Nat.pow_add, Nat.sub_add_cancel (by omega)]
  have h1 : x * 2 ^ r % 18446744073709551616 = 2 ^ r * (x % 2 ^ (64 - r)) := by rw [e, Nat.mul_mod_mul_right, Nat.mul_comm]
  have h2 : (2 ^ r * (x % 2 ^ (64 - r)) ||| c) = 2 ^ r * (x % 2 ^ (64 - r)) + c := (Nat.two_pow_add_eq_or_of_lt hc _).symm
  have h3 := Nat.div_add_mod x (2 ^ (64 - r))
  have hp : 0 < 2 ^ (64 - r) := Nat.two_pow_pos _
  have h4 := Nat.mod_lt x hp
  have h5 : x / 2 ^ (64 - r) < 2 ^ r := by
    rw [Nat.div_lt_iff_lt_mul hp, Nat.mul_comm, ← e]; exact hx
  rw [h1, h2]
  refine ⟨?_, h5, ?_⟩
  · rw [e]
    generalize 2 ^ (64 - r) = p at *
    generalize x / p = q at *
    generalize x % p = m at *
    generalize 2 ^ r = s at *
    grind
  · rw [e]
    generalize 2 ^ (64 - r) = p at *
    generalize 2 ^ r = s at *
    generalize x % p = m at *
    have h6 : s * (m + 1) ≤ s * p := Nat.mul_le_mul_left s h4
    rw [Nat.mul_comm p s]
    rw [Nat.mul_add, Nat.mul_one] at h6
    omega
def shC (a r : Nat) : Nat → Nat
  | 0 => 0
  | i + 1 => dig a i / 2 ^ (64 - r)
def shL (a s r : Nat) : Nat → List Nat
  | 0 => List.replicate s 0
  | i + 1 => shL a s r i ++ [dig a i * 2 ^ r % 18446744073709551616 ||| shC a r i]
theorem shC_lt {a r : Nat} (hr : r < 64) : ∀ i, shC a r i < 2 ^ r
  | 0 => Nat.two_pow_pos _
  | i + 1 => (shl_or (dig_lt a i) hr (Nat.two_pow_pos r)).2.1
theorem shL_len (a s r : Nat) : ∀ i, (shL a s r i).length = s + i
  | 0 => by simp [shL]
  | i + 1 => by rw [shL, List.length_append, shL_len a s r i]; rfl
theorem shL_lm {a r : Nat} (s : Nat) (hr : r < 64) : ∀ i, Lm (shL a s r i)
  | 0 => lm_zeros _
  | i + 1 => lm_snoc (shL_lm s hr i) (shl_or (dig_lt a i) hr (shC_lt hr i)).2.2
theorem sh_val {a s r : Nat} (hr : r < 64) : ∀ i, valL (shL a s r i) + 18446744073709551616 ^ (s + i) * shC a r i = 18446744073709551616 ^ s * 2 ^ r * part a i
  | 0 => by simp [shL, shC, part_zero, val_zeros]
  | i + 1 => by
    have ih := sh_val (a := a) (s := s) hr i
    have h := (shl_or (dig_lt a i) hr (shC_lt (a := a) hr i)).1
    rw [shL, val_snoc, shL_len, part_succ, shC, ← Nat.add_assoc, Nat.pow_succ]
    have e : 18446744073709551616 ^ (s + i) = 18446744073709551616 ^ s * 18446744073709551616 ^ i := Nat.pow_add _ _ _
    rw [e] at ih ⊢
    generalize (dig a i * 2 ^ r % 18446744073709551616 ||| shC a r i) = m at *
    generalize dig a i / 2 ^ (64 - r) = q at *
    generalize valL (shL a s r i) = v at *
    generalize shC a r i = c at *
    generalize 18446744073709551616 ^ s = p at *
    generalize 18446744073709551616 ^ i = t at *
    generalize 2 ^ r = g at *
    generalize dig a i = x at *
    generalize part a i = u at *
    grind
theorem sh_all (a n : Nat) : trimL (shL a (n / 64) (n % 64) (limbs a).length ++ [shC a (n % 64) (limbs a).length]) = limbs (a * 2 ^ n) := by
  have hr : n % 64 < 64 := Nat.mod_lt _ (by decide)
  rw [trimL, val_snoc, shL_len, sh_val hr, part_all a _ (Nat.le_refl _)]
  congr 1
  have e : 18446744073709551616 ^ (n / 64) * 2 ^ (n % 64) = 2 ^ n := by
    have h1 : 18446744073709551616 = 2 ^ 64 := rfl
    rw [h1, ← Nat.pow_mul, ← Nat.pow_add, Nat.div_add_mod]
  rw [e, Nat.mul_comm]
def blen (n : Nat) : Nat := if n = 0 then 0 else Nat.log2 n + 1
theorem blen_lt (n : Nat) : n < 2 ^ blen n := by
  unfold blen
  split
  · rename_i h; subst h; decide
  · exact Nat.lt_log2_self
theorem blen_ge {n : Nat} (h : n ≠ 0) : 2 ^ (blen n - 1) ≤ n := by
  rw [blen, if_neg h, Nat.add_sub_cancel]; exact Nat.log2_self_le h
theorem blen_eq {n k : Nat} (h1 : 2 ^ k ≤ n) (h2 : n < 2 ^ (k + 1)) : blen n = k + 1 := by
  have h0 : n ≠ 0 := by have := Nat.two_pow_pos k; omega
  rw [blen, if_neg h0, (Nat.log2_eq_iff h0).2 ⟨h1, h2⟩]
theorem blen_pos {n : Nat} (h : n ≠ 0) : 1 ≤ blen n := by rw [blen, if_neg h]; omega
theorem blen_limbs {n m : Nat} (h : (limbs n).length = m + 1) : blen n = 64 * m + blen (dig n m) := by
  have hv : part n (m + 1) = n := part_all n _ (by omega)
  rw [part_succ] at hv
  have hlt : part n m < 18446744073709551616 ^ m := by
    have := val_lt ((limbs n).take m) fun x hx => limbs_lm n x (List.mem_of_mem_take hx)
    rw [List.length_take, Nat.min_eq_left (by omega)] at this
    exact this
  have hd : dig n m ≠ 0 := by
    have ht := limbs_tr n
    unfold Tr at ht
    rw [List.getLast?_eq_getElem?, h, Nat.add_sub_cancel] at ht
    intro e
    unfold dig at e
    rw [List.getD_eq_getElem?_getD, List.getElem?_eq_getElem (by omega)] at e
    rw [List.getElem?_eq_getElem (by omega)] at ht
    exact ht (by simpa using e)
  have hb1 := blen_ge hd
  have hb2 := blen_lt (dig n m)
  have hb3 := blen_pos hd
  obtain ⟨k, hk⟩ : ∃ k, blen (dig n m) = k + 1 := ⟨blen (dig n m) - 1, by omega⟩
  rw [hk] at hb1 hb2 ⊢
  rw [Nat.add_sub_cancel] at hb1
  have e : 18446744073709551616 ^ m = 2 ^ (64 * m) := by rw [Nat.pow_mul]
  rw [e] at hv hlt
  refine blen_eq (k := 64 * m + k) ?_ ?_
  · rw [Nat.pow_add]
    have := Nat.mul_le_mul_left (2 ^ (64 * m)) hb1
    omega
  · rw [Nat.add_assoc, Nat.pow_add]
    have := Nat.mul_le_mul_left (2 ^ (64 * m)) (show dig n m + 1 ≤ 2 ^ (k + 1) from hb2)
    rw [Nat.mul_add, Nat.mul_one] at this
    omega
structure Dv (a b : Nat) (j : Nat) (q left : Nat) : Prop where
  sum : q * b + left = a
  lt : left < b * 2 ^ j
  mul : 2 ^ j ∣ q
theorem dv_begin {a b : Nat} (hb : b ≠ 0) (h : blen b ≤ blen a) : Dv a b (blen a - blen b + 1) 0 a := by
  refine ⟨by simp, ?_, Nat.dvd_zero _⟩
  have h1 := blen_lt a
  have h2 := blen_ge hb
  have h3 := blen_pos hb
  have e : 2 ^ blen a = 2 ^ (blen b - 1) * 2 ^ (blen a - blen b + 1) := by rw [← Nat.pow_add]; congr 1; omega
  rw [e] at h1
  exact Nat.lt_of_lt_of_le h1 (Nat.mul_le_mul_right _ h2)
theorem dv_none {a b : Nat} (h : blen a < blen b) : a / b = 0 ∧ a % b = a := by
  have hb : b ≠ 0 := by rintro rfl; simp [blen] at h
  have h1 := blen_lt a
  have h2 := blen_ge hb
  have h3 : 2 ^ blen a ≤ 2 ^ (blen b - 1) := Nat.pow_le_pow_right (by decide) (by omega)
  have hlt : a < b := by omega
  exact ⟨Nat.div_eq_of_lt hlt, Nat.mod_eq_of_lt hlt⟩
theorem dv_step {a b j q left : Nat} (h : Dv a b (j + 1) q left) :
    if b * 2 ^ j ≤ left then Dv a b j (q + 2 ^ j) (left - b * 2 ^ j) else Dv a b j q left := by
  obtain ⟨h1, h2, m, h3⟩ := h
  rw [Nat.pow_succ] at h2 h3
  split
  · rename_i hle
    refine ⟨?_, ?_, ⟨m * 2 + 1, ?_⟩⟩
    · rw [Nat.add_mul, Nat.mul_comm (2 ^ j) b]; omega
    · rw [← Nat.mul_assoc] at h2; omega
    · rw [h3]; generalize 2 ^ j = p; grind
  · rename_i hle
    exact ⟨h1, by omega, ⟨m * 2, by rw [h3]; generalize 2 ^ j = p; grind⟩⟩
theorem dv_end {a b q left : Nat} (h : Dv a b 0 q left) : q = a / b ∧ left = a % b := by
  obtain ⟨h1, h2, _⟩ := h
  rw [Nat.pow_zero, Nat.mul_one] at h2
  have h3 := (Nat.div_mod_unique (a := a) (b := b) (d := q) (c := left) (by omega)).2 ⟨by rw [Nat.mul_comm b q]; omega, h2⟩
  exact ⟨h3.1.symm, h3.2.symm⟩
theorem bit_set {out : List Nat} {j : Nat} (hl : Lm out) (hj : j / 64 < out.length) (hd : 2 ^ (j + 1) ∣ valL out) :
    valL (out.set (j / 64) (out[j / 64] ||| 2 ^ (j % 64))) = valL out + 2 ^ j ∧ (out[j / 64] ||| 2 ^ (j % 64)) < 18446744073709551616 := by
  have hr : j % 64 < 64 := Nat.mod_lt _ (by decide)
  obtain ⟨m, hm⟩ := hd
  have hjs : 64 * (j / 64) + j % 64 = j := Nat.div_add_mod j 64
  have hdig := val_dig out (j / 64) hj hl
  have e1 : 18446744073709551616 ^ (j / 64) = 2 ^ (64 * (j / 64)) := by rw [Nat.pow_mul]
  have e2 : 2 ^ (j + 1) = 2 ^ (64 * (j / 64)) * 2 ^ (j % 64 + 1) := by rw [← Nat.pow_add]; congr 1; omega
  have e3 : valL out / 18446744073709551616 ^ (j / 64) = 2 ^ (j % 64 + 1) * m := by
    rw [hm, e1, e2, Nat.mul_assoc, Nat.mul_div_cancel_left _ (Nat.two_pow_pos _)]
  have e4 : 18446744073709551616 = 2 ^ (j % 64 + 1) * 2 ^ (63 - j % 64) := by rw [← Nat.pow_add, show j % 64 + 1 + (63 - j % 64) = 64 by omega]
  have e5 : out[j / 64] = 2 ^ (j % 64 + 1) * (m % 2 ^ (63 - j % 64)) := by
    rw [hdig, e3]
    conv => lhs; rw [e4]
    rw [Nat.mul_mod_mul_left]
  have hlt : 2 ^ (j % 64) < 2 ^ (j % 64 + 1) := Nat.pow_lt_pow_right (by decide) (by omega)
  have e6 : (out[j / 64] ||| 2 ^ (j % 64)) = out[j / 64] + 2 ^ (j % 64) := by
    rw [e5]; exact (Nat.two_pow_add_eq_or_of_lt hlt _).symm
  have hs := val_set out (j / 64) (out[j / 64] + 2 ^ (j % 64)) hj
  rw [e6]
  refine ⟨?_, ?_⟩
  · have e7 : 18446744073709551616 ^ (j / 64) * 2 ^ (j % 64) = 2 ^ j := by rw [e1, ← Nat.pow_add, hjs]
    rw [Nat.mul_add, e7] at hs
    omega
  · rw [← e6]
    have h1 : out[j / 64] < 2 ^ 64 := hl _ (List.getElem_mem hj)
    have h2 : 2 ^ (j % 64) < 2 ^ 64 := Nat.pow_lt_pow_right (by decide) hr
    exact Nat.or_lt_two_pow h1 h2
def cmpN (a b : Nat) : Int := if a < b then -1 else if b < a then 1 else 0
theorem len_lt {a b : Nat} (h : (limbs a).length < (limbs b).length) : a < b := Nat.lt_of_lt_of_le (limbs_lt a) (limbs_ge h)
theorem dig_cmp {a b i : Nat} (hlen : (limbs a).length = (limbs b).length) (hup : ∀ j, i < j → dig a j = dig b j) (h : dig a i < dig b i) : a < b := by
  have key : ∀ n, i + 1 ≤ n → part a n < part b n := by
    intro n hn
    induction n with
    | zero => omega
    | succ n ih =>
      rw [part_succ, part_succ]
      by_cases hi : i + 1 ≤ n
      · have := ih hi
        rw [hup n (by omega)]; omega
      · obtain rfl : n = i := by omega
        have h1 : part a n < 18446744073709551616 ^ n := by
          have := val_lt ((limbs a).take n) fun x hx => limbs_lm a x (List.mem_of_mem_take hx)
          refine Nat.lt_of_lt_of_le this (Nat.pow_le_pow_right (by decide) (by rw [List.length_take]; omega))
        have h2 := Nat.mul_le_mul_left (18446744073709551616 ^ n) (show dig a n + 1 ≤ dig b n from h)
        rw [Nat.mul_add, Nat.mul_one] at h2
        omega
  have h1 := key ((limbs a).length + i + 1) (by omega)
  rwa [part_all a _ (by omega), part_all b _ (by omega)] at h1
theorem dig_eq {a b : Nat} (h : ∀ j, dig a j = dig b j) : a = b := by
  have key : ∀ n, part a n = part b n := by
    intro n
    induction n with
    | zero => rfl
    | succ n ih => rw [part_succ, part_succ, ih, h]
  have h1 := key ((limbs a).length + (limbs b).length)
  rwa [part_all a _ (by omega), part_all b _ (by omega)] at h1
end Go.Proofs.YtpbnjifefoniiaaGreatDoor
namespace Go.Proofs.YtpbnjifefoniiaaGreatDoor
open Go Go.SE
abbrev ptr (b : Nat) : Value := .pointer (some ⟨b, 0, none⟩)
abbrev int (i : Int) : Value := .int .i64 i
abbrev u64s (l : List Nat) : List Value := l.map u64
structure Lim (w0 : World) (F : Hp) (v : Value) (xs : List Nat) : Prop where
  is : ∃ a c, v = .slice a xs.length c ∧ Fv w0 F 1 a (u64s xs) xs.length c
abbrev NatV (w0 : World) (F : Hp) (v : Value) (a : Nat) : Prop := Lim w0 F v (limbs a)
theorem Lim.up {w0 : World} {F G : Hp} {v : Value} {xs : List Nat} (h : Lim w0 F v xs) (hu : Up F G) : Lim w0 G v xs :=
  let ⟨a, c, h1, h2⟩ := h.is
  ⟨a, c, h1, h2.up hu⟩
theorem u64s_get {l : List Nat} {k m : Nat} (h : l[k]? = some m) : (u64s l)[k]? = some (u64 m) := by simp [h]
theorem nil_lim (w0 : World) (F : Hp) : Lim w0 F (.slice none 0 0) [] := ⟨none, 0, rfl, rfl, fun _ _ => ⟨⟨Nat.le_refl _, by decide⟩, fun j u h => by simp at h⟩⟩
variable {w0 : World} {l : List HP} {i : Nat} {F : Hp}
theorem trim_any (xs : List Nat) (v : Value) (hl : Lm xs) (hi : l[i]? = some (frz F)) (hv : Lim w0 F v xs) : Does cx F_nat_trim [v] (S w0 l) fun u w => NatV w0 F u (valL xs) ∧ S w0 l w := by
  obtain ⟨a, c, rfl, hV⟩ := hv.is
  have fin : ∀ (k : Nat) (a' : Option Addr) (c' : Nat), k ≤ xs.length → valL (xs.take k) = valL xs → Tr (xs.take k) → Fv w0 F 1 a' (u64s (xs.take k)) k c' → NatV w0 F (.slice a' k c') (valL xs) := fun k a' c' hk h1 h2 h3 => by
    have e : limbs (valL xs) = xs.take k := by rw [← h1]; exact limbs_of _ (fun x hx => hl x (List.mem_of_mem_take hx)) h2
    have e2 : (xs.take k).length = k := by simp; omega
    exact ⟨a', c', by rw [e, e2], by rw [e, e2]; exact h3⟩
  refine fn_enter (n := N_nat_trim) fn_nat_trim rfl rfl rfl ?_
  refine ej_know (fv_len hV hi) fun hlen => ?_
  refine wk ?_
  refine ej_loop3 (fun k a' c' => k ≤ xs.length ∧ valL (xs.take k) = valL xs ∧ Fv w0 F 1 a' (u64s (xs.take k)) k c') (fun k a' c' => [(0, .slice a' k c'), (2, .slice none 0 0)]) (fun _ _ _ => S w0 l) (fun k _ _ => k) xs.length a c ⟨Nat.le_refl _, by rw [List.take_length], by rw [List.take_length]; exact hV⟩ (le_of _ _ rfl) (fun w hw => hw) ?_
  rintro k a' c' ⟨hk, hv, hV'⟩
  refine wk ?_
  refine el_gdec rfl rfl (fun h => ?_) (fun h => ?_)
  · have h : (k : Int) > 0 := h
    have hlt : k - 1 < xs.length := by omega
    have hx : (xs.take k)[k - 1]? = some xs[k - 1] := by rw [List.getElem?_take, if_pos (by omega)]; simp [hlt]
    have hsn : xs.take k = xs.take (k - 1) ++ [xs[k - 1]] := by
      have := List.take_succ_eq_append_getElem hlt
      rw [show k - 1 + 1 = k by omega] at this; exact this
    generalize xs[k - 1] = x at *
    refine wk ?_
    refine Ixf hV' ?_
    refine Ldf (k - 1) hV' (u64s_get hx) ?_
    refine wk ?_
    refine ej_dec rfl (fun h0 => ?_) (fun h0 => ?_)
    · have h0 : x = 0 := by omega
      refine wk ?_
      refine Slf 0 (k - 1) hV' ?_
      refine wk ?_
      refine eq_back3 (k - 1) (subA a' 0 c' 1) c' ⟨by omega, ?_, ?_⟩ (by omega) (le_of _ _ rfl) fun w hw => hw
      · show valL (xs.take (k - 1)) = valL xs
        rw [← hv, hsn, h0, val_snoc]; omega
      · have := hV'.sub (lo := 0) (hi := k - 1) (by omega) (by omega)
        have e : subX (u64s (xs.take k)) 0 (k - 1) 1 = u64s (xs.take (k - 1)) := by
          simp [subX, u64s, ← List.map_take, List.take_take, Nat.min_eq_left (show k - 1 ≤ k by omega)]
        rw [e] at this; exact this
    · have h0 : x ≠ 0 := fun e => h0 (by omega)
      refine wk ?_
      refine eq_rett rfl fun w hw => ⟨fin k a' c' hk hv ?_ hV', hw⟩
      rw [hsn, Tr, List.getLast?_concat]
      simpa using h0
  · have h : ¬ (k : Int) > 0 := h
    obtain rfl : k = 0 := by omega
    refine wk ?_
    refine eq_rett rfl fun w hw => ⟨fin 0 a' c' (Nat.zero_le _) hv (by simp [Tr]) hV', hw⟩
theorem get_set {i : Nat} {F : Hp} (G : Hp) (hi : l[i]? = some (frz F)) : (l.set i (frz G))[i]? = some (frz G) := by simp [(List.getElem?_eq_some_iff.1 hi).1]
theorem lm_one {x : Nat} (hx : x < 18446744073709551616) : Lm [x] := fun y hy => by simp at hy; subst hy; exact hx
theorem Of_any (x : Nat) (hx : x < 18446744073709551616) (hi : l[i]? = some (frz F)) : Gives cx F_nat_Of [u64 x] w0 l i F fun G v => NatV w0 G v x := by
  refine fn_enter (n := N_nat_Of) fn_nat_Of rfl rfl rfl ?_
  refine wk ?_
  refine ec (oBuildS fun b => ?_)
  refine el_frz 0 (i := i + 1) (fun G hu hf => ?_) rfl (by simpa using hi) (by omega)
  have hL : Lim w0 G (.slice (some ⟨b, 0, none⟩) 1 1) [x] := ⟨some ⟨b, 0, none⟩, 1, rfl, froze_cells hf rfl (by rw [maxLen_eq]; simp)⟩
  refine el_imp (H' := S w0 (l.set i (frz G))) (fun w hw => hw) ?_
  refine Cl (trim_any [x] _ (lm_one hx) (get_set G hi) hL) real_nat_trim (fun u hu' => ?_)
  refine wk ?_
  refine eq_rett rfl fun w hw => ⟨(G, _), rfl, ⟨hu, ?_⟩, hw⟩
  have : valL [x] = x := by simp [valL]
  rw [this] at hu'
  exact hu'
end Go.Proofs.YtpbnjifefoniiaaGreatDoor
namespace Go.Proofs.YtpbnjifefoniiaaGreatDoor
open Go Go.SE
variable {w0 : World} {l : List HP} {i : Nat} {F : Hp}
theorem at_any (xs : List Nat) (v : Value) (ix : Int) (h0 : 0 ≤ ix) (hi : l[i]? = some (frz F)) (hv : Lim w0 F v xs) : Does cx F_nat_Nat_at [v, int ix] (S w0 l) fun u w => u = u64 (xs.getD ix.toNat 0) ∧ S w0 l w := by
  obtain ⟨a, c, rfl, hV⟩ := hv.is
  refine fn_enter (n := N_nat_Nat_at) fn_nat_Nat_at rfl rfl rfl ?_
  refine wk ?_
  refine ej_dec rfl (fun h => ?_) (fun h => ?_)
  · refine wk ?_
    refine eq_rett rfl fun w hw => ⟨?_, hw⟩
    have : xs.length ≤ ix.toNat := by omega
    simp [pack, List.getD_eq_getElem?_getD, List.getElem?_eq_none this]
  · have hlt : ix.toNat < xs.length := by omega
    have hx : xs[ix.toNat]? = some xs[ix.toNat] := by simp [hlt]
    refine wk ?_
    refine Ixf hV ?_
    refine Ldf ix.toNat hV (u64s_get hx) ?_
    refine wk ?_
    refine eq_rett rfl fun w hw => ⟨?_, hw⟩
    simp [pack, List.getD_eq_getElem?_getD, hx]
theorem len8 {s : ByteArray} (hs : (List.range 256).map (fun i => s[i]?) = (List.range 256).map (fun i => some (UInt8.ofNat (blen i)))) (i : Nat) (h : i < 256) : s[i]? = some (UInt8.ofNat (blen i)) := by
  have h1 := congrArg (fun l => l[i]?) hs
  simpa [h] using h1
theorem blen_shift {x k : Nat} (h : 2 ^ k ≤ x) : blen x = k + blen (x / 2 ^ k) := by
  have h1 : x / 2 ^ k ≠ 0 := by
    have := Nat.div_pos h (Nat.two_pow_pos k); omega
  have h2 := blen_ge h1
  have h3 := blen_lt (x / 2 ^ k)
  have h4 := blen_pos h1
  rw [show k + blen (x / 2 ^ k) = (k + blen (x / 2 ^ k) - 1) + 1 by omega]
  refine blen_eq ?_ ?_
  · rw [show k + blen (x / 2 ^ k) - 1 = k + (blen (x / 2 ^ k) - 1) by omega, Nat.pow_add, Nat.mul_comm]
    exact (Nat.le_div_iff_mul_le (Nat.two_pow_pos k)).1 h2
  · rw [show k + blen (x / 2 ^ k) - 1 + 1 = blen (x / 2 ^ k) + k by omega, Nat.pow_add]
    exact (Nat.div_lt_iff_lt_mul (Nat.two_pow_pos k)).1 h3
theorem blen_le {x k : Nat} (h : x < 2 ^ k) : blen x ≤ k := by
  by_cases h0 : x = 0
  · subst h0; simp [blen]
  · have h1 := blen_ge h0
    have h2 : 2 ^ (blen x - 1) < 2 ^ k := Nat.lt_of_le_of_lt h1 h
    have := (Nat.pow_lt_pow_iff_right (a := 2) (by omega)).1 h2
    omega
theorem Len64_any (x : Nat) (hx : x < 18446744073709551616) (H : WP) : Does cx F_math_bits_Len64 [u64 x] H fun v w => v = int (blen x) ∧ H w := by
  refine fn_enter (n := N_math_bits_Len64) fn_math_bits_Len64 rfl rfl rfl ?_
  refine wk ?_
  refine ej_join2 (fun y m : Nat => y < 4294967296 ∧ m + blen y = blen x ∧ m ≤ 32) (fun y m => [(0, u64 y), (2, int m)]) (fun _ _ => H) (fun k => ej_dec rfl (fun h => ?_) (fun h => ?_)) ?_
  · have h : 4294967296 ≤ x := by omega
    refine wk ?_
    refine ShrK 32 ?_
    refine wk ?_
    refine meet (k (x / 2 ^ 32) (32) ⟨?_, (blen_shift (k := 32) h).symm, by omega⟩) (le_of _ _ rfl) fun w hw => hw
    show x / 2 ^ 32 < 4294967296
    omega
  · refine wk ?_
    exact meet (k (x) (0) ⟨by omega, by omega, by omega⟩) (le_of _ _ rfl) fun w hw => hw
  rintro y m ⟨h1, h2, h3⟩
  refine wk ?_
  refine ej_join2 (fun y m : Nat => y < 65536 ∧ m + blen y = blen x ∧ m ≤ 48) (fun y m => [(0, u64 y), (2, int m)]) (fun _ _ => H) (fun k => ej_dec rfl (fun h => ?_) (fun h => ?_)) ?_
  · have h : 65536 ≤ y := by omega
    refine wk ?_
    refine ShrK 16 ?_
    refine wk ?_
    refine meet (k (y / 2 ^ 16) (m + 16) ⟨?_, ?_, ?_⟩) (le_of _ _ rfl) fun w hw => hw
    · omega
    · have := blen_shift (k := 16) (x := y) h; omega
    · omega
  · refine wk ?_
    exact meet (k (y) (m) ⟨by omega, h2, by omega⟩) (le_of _ _ rfl) fun w hw => hw
  clear h1 h2 h3
  rintro y m ⟨h1, h2, h3⟩
  refine wk ?_
  refine ej_join2 (fun y m : Nat => y < 256 ∧ m + blen y = blen x ∧ m ≤ 56) (fun y m => [(0, u64 y), (2, int m)]) (fun _ _ => H) (fun k => ej_dec rfl (fun h => ?_) (fun h => ?_)) ?_
  · have h : 256 ≤ y := by omega
    refine wk ?_
    refine ShrK 8 ?_
    refine wk ?_
    refine meet (k (y / 2 ^ 8) (m + 8) ⟨?_, ?_, ?_⟩) (le_of _ _ rfl) fun w hw => hw
    · omega
    · have := blen_shift (k := 8) (x := y) h; omega
    · omega
  · refine wk ?_
    exact meet (k (y) (m) ⟨by omega, h2, by omega⟩) (le_of _ _ rfl) fun w hw => hw
  clear h1 h2 h3
  rintro y m ⟨h1, h2, h3⟩
  refine wk ?_
  have hb := blen_le (k := 8) (x := y) (by simpa using h1)
  have hbb : (UInt8.ofNat (blen y)).toNat = blen y := by
    simp only [UInt8.toNat_ofNat']; omega
  refine ec (eo_strix rfl rfl rfl rfl rfl rfl rfl (by omega) (len8 (by kernel_rfl) (y : Int).toNat (by omega)) ?_)
  refine el_val 22 (u := .int .u8 (blen y)) rfl (by rw [Int.toNat_natCast, hbb]) ?_
  refine wk ?_
  refine eq_rett rfl fun w hw => ⟨?_, hw⟩
  show int ((m : Int) + (blen y : Int)) = int (blen x)
  rw [← h2]; rfl
theorem long_any (n : Nat) (v : Value) (hn : (limbs n).length ≤ 100000) (hi : l[i]? = some (frz F)) (hv : NatV w0 F v n) : Does cx F_nat_Nat_long [v] (S w0 l) fun u w => u = int (blen n) ∧ S w0 l w := by
  obtain ⟨a, c, rfl, hV⟩ := hv.is
  refine fn_enter (n := N_nat_Nat_long) fn_nat_Nat_long rfl rfl rfl ?_
  refine wk ?_
  refine ej_dec rfl (fun h => ?_) (fun h => ?_)
  · refine wk ?_
    refine eq_rett rfl fun w hw => ⟨?_, hw⟩
    have h0 : limbs n = [] := List.eq_nil_of_length_eq_zero (by omega)
    rw [limbs_nil.1 h0]; rfl
  · obtain ⟨m, hm⟩ : ∃ m, (limbs n).length = m + 1 := ⟨(limbs n).length - 1, by omega⟩
    have hx : (limbs n)[m]? = some (dig n m) := by
      rw [dig, List.getD_eq_getElem?_getD, List.getElem?_eq_getElem (by omega)]; rfl
    refine wk ?_
    refine Ixf hV ?_
    refine Ldf m hV (u64s_get hx) ?_
    refine C1 (Len64_any _ (dig_lt n m) _) real_math_bits_Len64 ?_
    have hb := blen_le (k := 64) (x := dig n m) (by simpa using dig_lt n m)
    refine wk ?_
    refine eq_rett rfl fun w hw => ⟨?_, hw⟩
    show int (64 * (((limbs n).length : Int) - 1) + (blen (dig n m) : Int)) = _
    rw [blen_limbs hm, hm]
    congr 1
    omega
end Go.Proofs.YtpbnjifefoniiaaGreatDoor
namespace Go.Proofs.YtpbnjifefoniiaaGreatDoor
open Go Go.SE
variable {w0 : World} {l : List HP} {i : Nat} {F : Hp}
theorem ext_add64 : Ext cx.P F_math_bits_Add64 add64Entry := ⟨_, fn_math_bits_Add64, by kernel_rfl, by kernel_rfl, by kernel_rfl, by kernel_rfl⟩
theorem ext_sub64 : Ext cx.P F_math_bits_Sub64 sub64Entry := ⟨_, fn_math_bits_Sub64, by kernel_rfl, by kernel_rfl, by kernel_rfl, by kernel_rfl⟩
theorem zeros_row (m : Nat) : rowZ m [.int .u64 0] = u64s (List.replicate m 0) := by
  induction m with
  | zero => rfl
  | succ m ih => rw [rowZ, ih, List.replicate_succ']; simp
theorem dig_get {a k : Nat} (h : k < (limbs a).length) : (limbs a)[k]? = some (dig a k) := by
  rw [dig, List.getD_eq_getElem?_getD, List.getElem?_eq_getElem h]; rfl
theorem u64s_set (xs : List Nat) (k v : Nat) : (u64s xs).set k (u64 v) = u64s (xs.set k v) := by simp [u64s, List.map_set]
theorem set_grow {α : Type} (xs : List α) (m : Nat) (z v : α) (h : 0 < m) : (xs ++ List.replicate m z).set xs.length v = (xs ++ [v]) ++ List.replicate (m - 1) z := by
  obtain ⟨m, rfl⟩ : ∃ k, m = k + 1 := ⟨m - 1, by omega⟩
  simp [List.replicate_succ]
theorem u64s_one (xs : List Nat) : (u64s xs).all SE.one = true := by simp [u64s, SE.one]
theorem lim_row {r : Option (Nat × Nat)} {T m : Nat} {xs : List Nat} {G : Hp} (h : Froze (rowC r T 1 (u64s xs) m) G) (hl : xs.length = m) : Lim w0 G (sv r m) xs := by
  subst hl
  exact ⟨_, _, rfl, fv_row h (by simp)⟩
theorem less_any (a b : Nat) (v u : Value) (hab : b ≤ a) (hm : (limbs a).length ≤ 100000) (hi : l[i]? = some (frz F)) (hv : NatV w0 F v a) (hu : NatV w0 F u b) : Gives cx F_nat_less [v, u] w0 l i F fun G v => NatV w0 G v (a - b) := by
  obtain ⟨aa, ca, rfl, hA⟩ := hv.is
  have hu' := hu
  obtain ⟨ab, cb, rfl, hB⟩ := hu.is
  refine fn_enter (n := N_nat_less) fn_nat_less rfl rfl rfl ?_
  refine wk ?_
  refine Mk fun bo => ?_
  refine wk ?_
  refine ej_loopP (fun k : Nat => k ≤ (limbs a).length) (fun k => [(0, .slice aa (limbs a).length ca), (1, .slice ab (limbs b).length cb), (5, sv (some (bo, (limbs a).length)) (limbs a).length), (6, u64 (bor a b k)), (12, int (limbs a).length), (13, int k)])
    (fun k => S w0 (rowC (some (bo, (limbs a).length)) T_uint64 1 (u64s (difL a b k ++ List.replicate ((limbs a).length - k) 0)) (limbs a).length :: l)) (fun k => (limbs a).length - k) 0 (Nat.zero_le _) (le_of _ _ rfl) (fun w hw => by
      rw [show u64s (difL a b 0 ++ List.replicate ((limbs a).length - 0) 0) = rowZ (limbs a).length [.int .u64 0] by rw [zeros_row]; simp [difL]]
      exact hw) ?_
  intro k hk
  refine wk ?_
  refine ej_dec rfl (fun h => ?_) (fun h => ?_)
  · have h : k < (limbs a).length := by omega
    have hbl := bor_le a b k
    refine wk ?_
    have hI := held1 (w0 := w0) (l := rowC (some (bo, (limbs a).length)) T_uint64 1 (u64s (difL a b k ++ List.replicate ((limbs a).length - k) 0)) (limbs a).length :: l) (i := i + 1) (p := frz F) (by simpa using hi)
    refine ej_held [frz F] ?_
    refine tk 0 ?_
    refine tk 1 ?_
    refine tk 2 ?_
    refine tk 3 ?_
    refine tk 6 ?_
    refine tk 7 ?_
    refine tk 9 ?_
    refine tv 4 rfl (rIxf hA) ?_
    refine tv 5 rfl (rLdf k hA (u64s_get (dig_get h))) ?_
    refine w1 8 rfl (at_any (l := _ :: l) (i := i + 1) (limbs b) _ k (by omega) (by simpa using hi) hu') real_nat_Nat_at hI ?_
    refine tv 10 rfl (rExt (sub64_run ext_sub64 hbl)) ?_
    refine eh_val 27 (u := .tuple #[u64 (difD a b k), u64 (bor a b (k + 1))]) rfl (by
      have h1 := dig_lt b k
      have h2 := dig_lt a k
      have e : (limbs b).getD (k : Int).toNat 0 = dig b k := by rw [Int.toNat_natCast]; rfl
      rw [e, difD, bor]
      have e2 : (dig a k + 18446744073709551616 - dig b k - bor a b k) % 18446744073709551616 = (dig a k + 18446744073709551616 + 18446744073709551616 - dig b k - bor a b k) % 18446744073709551616 := by omega
      rw [e2]) ?_
    refine tk 11 ?_
    refine tk 12 ?_
    refine tk 13 ?_
    refine wv 14 rfl (oIdxr 0 ⟨hI, ?_⟩)
    refine wv 15 rfl (oStr 0 (hl := by simp [difL_len]; omega) ⟨held1 (i := i + 1) (by simpa using hi), ?_⟩)
    have hI := held1 (w0 := w0) (l := rowC (some (bo, (limbs a).length)) T_uint64 1 ((u64s (difL a b k ++ List.replicate ((limbs a).length - k) 0)).set ((k : Int).toNat * 1) (u64 (difD a b k))) (limbs a).length :: l) (i := i + 1) (p := frz F) (by simpa using hi)
    refine tk 16 ?_
    refine wd ?_
    refine wk ?_
    refine eq_backP (k + 1) (by omega) (by omega) (le_of _ _ rfl) fun w hw => ?_
    have e : u64s (difL a b (k + 1) ++ List.replicate ((limbs a).length - (k + 1)) 0) = (u64s (difL a b k ++ List.replicate ((limbs a).length - k) 0)).set ((k : Int).toNat * 1) (u64 (difD a b k)) := by
      rw [Int.toNat_natCast, Nat.mul_one, u64s_set]
      have h1 := set_grow (difL a b k) ((limbs a).length - k) 0 (difD a b k) (by omega)
      rw [difL_len] at h1
      rw [h1, difL, show (limbs a).length - k - 1 = (limbs a).length - (k + 1) by omega]
    rw [e]; exact hw
  · obtain rfl : k = (limbs a).length := by omega
    refine wk ?_
    refine el_frz 0 (i := i + 1) (fun G hu hf => ?_) rfl (by simpa using hi) (by omega)
    refine el_imp (H' := S w0 (l.set i (frz G))) (fun w hw => hw) ?_
    rw [Nat.sub_self, List.replicate_zero, List.append_nil] at hf
    have hL := lim_row (w0 := w0) hf (difL_len a b _)
    refine Cl (trim_any _ _ (difL_lm a b _) (get_set G hi) hL) real_nat_trim (fun u hu' => ?_)
    refine wk ?_
    refine eq_rett rfl fun w hw => ⟨(G, _), rfl, ⟨hu, ?_⟩, hw⟩
    have e := dif_all a b hab
    have e2 : valL (difL a b (limbs a).length) = a - b := by
      have := congrArg valL e
      rwa [trimL, val_limbs, val_limbs] at this
    rw [e2] at hu'
    exact hu'
theorem Clone_any (a : Nat) (v : Value) (hm : (limbs a).length ≤ 100000) (hi : l[i]? = some (frz F)) (hv : NatV w0 F v a) : Gives cx F_slices_Clone_nat_Nat_uint64 [v] w0 l i F fun G v => NatV w0 G v a := by
  obtain ⟨aa, ca, rfl, hA⟩ := hv.is
  refine fn_enter (n := N_slices_Clone_nat_Nat_uint64) fn_slices_Clone_nat_Nat_uint64 rfl rfl rfl ?_
  refine ej_nonnil hA hi fun hnn => ?_
  refine wk ?_
  refine ec (oSnil ?_)
  refine wk ?_
  refine ej_cond rfl (fun h => ?_) (fun h => ?_)
  · have h0 : limbs a = [] := by simpa using hnn h
    refine wk ?_
    refine eq_rett rfl fun w hw => ⟨(F, _), rfl, ⟨Up.rfl, ?_⟩, by rw [set_frz hi]; exact hw⟩
    show Lim w0 F _ (limbs a)
    rw [h0]; exact nil_lim w0 F
  · refine wk ?_
    refine Emp fun b => ?_
    refine wk ?_
    refine ApV hA (u64s_one _) fun r' => ?_
    refine el_frz 0 (i := i + 1) (fun G hu hf => ?_) rfl (by simpa using hi) (by omega)
    refine wk ?_
    refine eq_rett rfl fun w hw => ⟨(G, _), rfl, ⟨hu, ?_⟩, hw⟩
    have := lim_row (w0 := w0) (xs := limbs a) hf (by simp)
    exact this
end Go.Proofs.YtpbnjifefoniiaaGreatDoor
namespace Go.Proofs.YtpbnjifefoniiaaGreatDoor
open Go Go.SE
variable {w0 : World} {l : List HP} {i : Nat} {F : Hp}
theorem isNaN64_any (x : Nat) (H : WP) : Does cx F_cmp_isNaN_uint64 [u64 x] H fun v w => v = .bool false ∧ H w := by
  refine fn_enter (n := N_cmp_isNaN_uint64) fn_cmp_isNaN_uint64 rfl rfl rfl ?_
  refine wk ?_
  refine eq_rett rfl fun w hw => ⟨by simp [pack], hw⟩
theorem isNaN_any (x : Int) (H : WP) : Does cx F_cmp_isNaN_int [int x] H fun v w => v = .bool false ∧ H w := by
  refine fn_enter (n := N_cmp_isNaN_int) fn_cmp_isNaN_int rfl rfl rfl ?_
  refine wk ?_
  refine eq_rett rfl fun w hw => ⟨by simp [pack], hw⟩
def cmpI (x y : Int) : Int := if x < y then -1 else if y < x then 1 else 0
theorem Compare_any (x y : Int) (H : WP) : Does cx F_cmp_Compare_int [int x, int y] H fun v w => v = int (cmpI x y) ∧ H w := by
  refine fn_enter (n := N_cmp_Compare_int) fn_cmp_Compare_int rfl rfl rfl ?_
  refine wk ?_
  refine C1 (isNaN_any x H) real_cmp_isNaN_int ?_
  refine wk ?_
  refine C1 (isNaN_any y H) real_cmp_isNaN_int ?_
  refine wk ?_
  refine ej_dec rfl (fun h => ?_) (fun h => ?_)
  · refine wk ?_
    refine eq_rett rfl fun w hw => ⟨?_, hw⟩
    simp only [cmpI, if_pos h]; rfl
  · refine wk ?_
    refine ej_dec rfl (fun h2 => ?_) (fun h2 => ?_)
    · refine wk ?_
      refine eq_rett rfl fun w hw => ⟨?_, hw⟩
      have h2 : y < x := h2
      simp only [cmpI, if_neg h, if_pos h2]; rfl
    · refine wk ?_
      refine eq_rett rfl fun w hw => ⟨?_, hw⟩
      have h2 : ¬ y < x := h2
      simp only [cmpI, if_neg h, if_neg h2]; rfl
theorem Compare64_any (x y : Nat) (H : WP) : Does cx F_cmp_Compare_uint64 [u64 x, u64 y] H fun v w => v = int (cmpI x y) ∧ H w := by
  refine fn_enter (n := N_cmp_Compare_uint64) fn_cmp_Compare_uint64 rfl rfl rfl ?_
  refine wk ?_
  refine C1 (isNaN64_any x H) real_cmp_isNaN_uint64 ?_
  refine wk ?_
  refine C1 (isNaN64_any y H) real_cmp_isNaN_uint64 ?_
  refine wk ?_
  refine ej_dec rfl (fun h => ?_) (fun h => ?_)
  · refine wk ?_
    refine eq_rett rfl fun w hw => ⟨?_, hw⟩
    simp only [cmpI, if_pos h]; rfl
  · refine wk ?_
    refine ej_dec rfl (fun h2 => ?_) (fun h2 => ?_)
    · refine wk ?_
      refine eq_rett rfl fun w hw => ⟨?_, hw⟩
      have h2 : (y : Int) < x := h2
      simp only [cmpI, if_neg h, if_pos h2]; rfl
    · refine wk ?_
      refine eq_rett rfl fun w hw => ⟨?_, hw⟩
      have h2 : ¬ (y : Int) < x := h2
      simp only [cmpI, if_neg h, if_neg h2]; rfl
theorem Backward_any (v : Value) : Does cx F_slices_Backward_nat_Nat_uint64 [v] (S w0 l) fun u w => ∃ b : Nat, u = .func (.func F_slices_Backward_nat_Nat_uint64_1) #[] #[ptr b] ∧ True ∧ S w0 (cells b T_nat_Nat v.cells.toList :: l) w := by
  refine fn_enter (n := N_slices_Backward_nat_Nat_uint64) fn_slices_Backward_nat_Nat_uint64 rfl rfl rfl ?_
  refine wk ?_
  refine ec (oBox fun b => ?_)
  refine wk ?_
  exact eq_rett rfl fun w hw => ⟨b, rfl, trivial, hw⟩
theorem backward_iter {xs : List Nat} {a : Option Addr} {c : Nat} (hV : Fv w0 F 1 a (u64s xs) xs.length c) (hn : xs.length ≤ 100000) {σ : Type} {L : σ → List HP} {I Ix : List Nat → σ → Prop} (y : Value) (b : Nat) (s0 : σ) (kb ji : Nat) (hb : ∀ s, (L s)[kb]? = some (cells b T_nat_Nat [.slice a xs.length c])) (hf : ∀ s, ∃ G, (L s)[ji]? = some (frz G) ∧ Up F G) (h0 : I [] s0)
    (hy : ∀ pre (k : Nat) s fr, k + pre.length + 1 = xs.length → I pre s → Yld cx y [int k, u64 (xs.getD k 0)] (S w0 (fr ++ L s)) fun t w => ∃ s', (if t then I (pre ++ [k]) s' else Ix (pre ++ [k]) s') ∧ S w0 (fr ++ L s') w) :
    Does cx F_slices_Backward_nat_Nat_uint64_1 [y, ptr b] (S w0 (L s0)) fun _ w => ∃ s', ((∃ pre, pre.length = xs.length ∧ I pre s') ∨ ∃ pre, Ix pre s') ∧ S w0 (L s') w := by
  refine fn_enter (n := N_slices_Backward_nat_Nat_uint64_1) fn_slices_Backward_nat_Nat_uint64_1 rfl rfl rfl ?_
  have hbs := hb s0
  refine wk ?_
  refine Ld (hi := hbs) ?_
  refine wk ?_
  refine ej_loop2 (fun (pre : List Nat) (s : σ) => pre.length ≤ xs.length ∧ I pre s) (fun pre _ => [(0, y), (1, ptr b), (3, int ((xs.length : Int) - 1 - pre.length))]) (fun _ s => S w0 (L s)) (fun pre _ => xs.length - pre.length) [] s0 ⟨Nat.zero_le _, h0⟩ ?_ (fun w hw => hw) ?_
  · exact le_cons rfl (le_cons rfl (le_cons (by show some (int ((xs.length : Int) - 1)) = some (int ((xs.length : Int) - 1 - ((([] : List Nat).length : Nat) : Int))); simp) (le_nil _)))
  rintro pre s ⟨hlen, hI⟩
  refine wk ?_
  refine ej_dec rfl (fun h => ?_) (fun h => ?_)
  · obtain ⟨k, hk⟩ : ∃ k : Nat, (k : Int) = (xs.length : Int) - 1 - pre.length := ⟨xs.length - 1 - pre.length, by omega⟩
    have hbs := hb s
    obtain ⟨G, hfs, hu⟩ := hf s
    have hx : xs[k]? = some (xs.getD k 0) := by rw [List.getD_eq_getElem?_getD, List.getElem?_eq_getElem (by omega)]; rfl
    refine wk ?_
    refine Ld (hi := hbs) ?_
    refine wk ?_
    refine Ixf (View.up hV hu) (hi := hfs) ?_
    refine Ldf k (View.up hV hu) (u64s_get hx) (hi := hfs) ?_
    refine ec (eo_yield (hy pre k s [] (by omega) hI) rfl rfl rfl rfl ?_ rfl rfl fun t => ?_)
    · show some [int ((xs.length : Int) - 1 - pre.length), _] = _
      rw [hk]
    refine wk ?_
    refine ej_ex (fun w hw => hw) fun s' => ej_pre (fun w hw => hw) fun hs' => ?_
    cases t with
    | true =>
      refine wk ?_
      refine eq_back2 (pre ++ [k]) s' ⟨by simp; omega, by simpa using hs'⟩ (by simp; omega) ?_ fun w hw => hw
      refine le_cons rfl (le_cons rfl (le_cons ?_ (le_nil _)))
      show some (int ((xs.length : Int) - 1 - pre.length - 1)) = _
      rw [List.length_append]
      congr 2
      simp; omega
    | false =>
      refine wk ?_
      exact eq_rett rfl fun w hw => ⟨s', .inr ⟨_, by simpa using hs'⟩, hw⟩
  · refine wk ?_
    exact eq_end [] rvs_nil fun w hw => ⟨s, .inl ⟨pre, by omega, hI⟩, hw⟩
theorem top_cmp {a b k : Nat} (hlen : (limbs a).length = (limbs b).length) (_hk : k < (limbs a).length) (hup : ∀ j, k < j → j < (limbs a).length → dig a j = dig b j) (hne : dig a k ≠ dig b k) : cmpI (dig a k) (dig b k) = cmpN a b := by
  have hup' : ∀ j, k < j → dig a j = dig b j := fun j hj => by
    rcases Nat.lt_or_ge j (limbs a).length with h | h
    · exact hup j hj h
    · rw [dig, dig, List.getD_eq_getElem?_getD, List.getD_eq_getElem?_getD, List.getElem?_eq_none h, List.getElem?_eq_none (by omega)]
  rcases Nat.lt_or_ge (dig a k) (dig b k) with h | h
  · have h1 := dig_cmp hlen hup' h
    rw [cmpI, if_pos (by omega), cmpN, if_pos h1]
  · have h2 : dig b k < dig a k := by omega
    have h1 := dig_cmp hlen.symm (fun j hj => (hup' j hj).symm) h2
    rw [cmpI, if_neg (by omega), if_pos (by omega), cmpN, if_neg (by omega), if_pos h1]
theorem len_cmp {a b : Nat} (h : (limbs a).length ≠ (limbs b).length) : cmpI (limbs a).length (limbs b).length = cmpN a b := by
  rcases Nat.lt_or_ge (limbs a).length (limbs b).length with h1 | h1
  · have := len_lt h1
    rw [cmpI, if_pos (by omega), cmpN, if_pos this]
  · have := len_lt (a := b) (b := a) (by omega)
    rw [cmpI, if_neg (by omega), if_pos (by omega), cmpN, if_neg (by omega), if_pos this]
set_option maxHeartbeats 1600000 in
theorem Cmp_any (a b : Nat) (v u : Value) (hm : (limbs a).length ≤ 100000) (hi : l[i]? = some (frz F)) (hv : NatV w0 F v a) (hu : NatV w0 F u b) : Does cx F_nat_Cmp [v, u] (S w0 l) fun x w => x = int (cmpN a b) ∧ S w0 l w := by
  obtain ⟨aa, ca, rfl, hA⟩ := hv.is
  obtain ⟨ab, cb, rfl, hB⟩ := hu.is
  refine fn_enter (n := N_nat_Cmp) fn_nat_Cmp rfl rfl rfl ?_
  refine ej_know (fv_len hB hi) fun hbl => ?_
  refine wk ?_
  refine ec (oBox fun b3 => ?_)
  refine ec (oAlloc fun b4 => ?_)
  refine wk ?_
  refine ej_dec rfl (fun h => ?_) (fun h => ?_)
  · refine wk ?_
    refine C1 (Compare_any _ _ _) real_cmp_Compare_int ?_
    refine wk ?_
    refine eq_ret [int (cmpN a b)] (rvs_cell1 0 rfl rfl rfl rfl (by rw [← len_cmp (fun e => h (by rw [e]))]; rfl) rvs_nil) fun w hw => ⟨rfl, hw.drop 2⟩
  · have hlen : (limbs a).length = (limbs b).length := by
      have : ((limbs a).length : Int) = (limbs b).length := Decidable.not_not.1 h
      omega
    refine wk ?_
    refine Cx1 (Backward_any _) real_slices_Backward_nat_Nat_uint64 fun b1 _ => ?_
    refine wk ?_
    refine ej_rangeFunc (α := Nat) (σ := Int) (fun k : Nat => [int k, u64 ((limbs a).getD k 0)]) (fun pre r => r = 0 ∧ ∀ j, (limbs a).length ≤ j + pre.length → j < (limbs a).length → dig a j = dig b j) (fun c pre r => c = .ret ∧ r = cmpN a b) (fun pre => pre.length = (limbs a).length) (fun pre k => k + pre.length + 1 = (limbs a).length)
      (fun r => cells b1 T_nat_Nat [.slice aa (limbs a).length ca] :: cells b4 T_int [int r] :: cells b3 T_nat_Nat [.slice ab (limbs b).length cb] :: l) 0 (fun k => [(3, ptr b3), (4, ptr b4), (5, int k), (6, u64 ((limbs a).getD k 0))]) rfl real_slices_Backward_nat_Nat_uint64_1 rfl rfl (fun _ => rfl) (by decide) ?_ ?_ ?_ ?_ ?_
    · intro y a' b' M hM hy
      refine Does.mono (backward_iter hA hm (L := M) (I := fun pre s => s.2 = none ∧ s.1 = 0 ∧ ∀ j, (limbs a).length ≤ j + pre.length → j < (limbs a).length → dig a j = dig b j) (Ix := fun pre s => ∃ c, s.2 = some c ∧ c = .ret ∧ s.1 = cmpN a b) y b1 (0, none) 2 (i + 5) (fun s => by rw [hM]; rfl) (fun s => ⟨F, by rw [hM]; exact hi, Up.rfl⟩) ⟨rfl, rfl, fun j h1 h2 => by simp at h1; omega⟩ ?_) (fun _ h => h) ?_
      · rintro pre k ⟨s1, s2⟩ fr hk ⟨rfl, hI⟩
        exact hy pre k s1 fr hk hI
      · rintro v w ⟨s', hs, hw⟩
        refine ⟨s', ?_, hw⟩
        rcases hs with ⟨pre, h1, h2, h3⟩ | ⟨pre, c, h1, h2⟩
        · exact .inl ⟨h2, pre, h1, h3⟩
        · exact .inr ⟨c, pre, h1, h2⟩
    · intro m k H
      refine wk ?_
      exact eq_mid (le_of _ _ rfl) fun w h => h
    · rintro m pre k r fr hk ⟨rfl, hup⟩
      refine ej_imp' (fun w hw => hw.perm List.perm_append_comm) ?_
      have hi3 : (l ++ fr)[i]? = some (frz F) := by rw [List.getElem?_append_left (List.getElem?_eq_some_iff.1 hi).1]; exact hi
      have hg : (limbs a).getD k 0 = dig a k := rfl
      refine wk ?_
      refine Ixf hB ?_
      refine Ldf k hB (u64s_get (dig_get (by omega))) ?_
      refine wk ?_
      refine ej_dec rfl (fun h => ?_) (fun h => ?_)
      · refine wk ?_
        refine Ixf hB ?_
        refine Ldf k hB (u64s_get (dig_get (by omega))) ?_
        refine C1 (Compare64_any _ _ _) real_cmp_Compare_uint64 ?_
        refine wk ?_
        refine eq_any fun a3 w hw => ⟨cmpN a b, ⟨rfl, rfl⟩, ?_⟩
        have hne : dig a k ≠ dig b k := fun e => h (by rw [hg, e])
        have e := top_cmp hlen (k := k) (by omega) (fun j h1 h2 => hup j (by omega) h2) hne
        rw [hg] at hw
        have hw : S w0 (cells b1 T_nat_Nat [.slice aa (limbs a).length ca] :: cells b4 T_int [int (cmpI (dig a k) (dig b k))] :: cells b3 T_nat_Nat [.slice ab (limbs b).length cb] :: (l ++ fr)) w := hw
        rw [e] at hw
        exact S.perm (l := (cells b1 T_nat_Nat [.slice aa (limbs a).length ca] :: cells b4 T_int [int (cmpN a b)] :: cells b3 T_nat_Nat [.slice ab (limbs b).length cb] :: l) ++ fr) hw List.perm_append_comm
      · refine wk ?_
        refine eq_any fun a3 w hw => ⟨0, ⟨rfl, fun j h1 h2 => ?_⟩, ?_⟩
        · have h0 : dig a k = dig b k := by
            have : ((dig a k : Nat) : Int) = dig b k := Decidable.not_not.1 h
            omega
          rcases Nat.lt_or_ge k j with h3 | h3
          · exact hup j (by omega) h2
          · have : j = k := by simp at h1; omega
            rw [this]; exact h0
        · exact S.perm (l := (cells b1 T_nat_Nat [.slice aa (limbs a).length ca] :: cells b4 T_int [int 0] :: cells b3 T_nat_Nat [.slice ab (limbs b).length cb] :: l) ++ fr) hw List.perm_append_comm
    · rintro D pre r hfin ⟨rfl, hup⟩
      have hab : a = b := dig_eq fun j => by
        rcases Nat.lt_or_ge j (limbs a).length with h | h
        · exact hup j (by omega) h
        · rw [dig, dig, List.getD_eq_getElem?_getD, List.getD_eq_getElem?_getD, List.getElem?_eq_none h, List.getElem?_eq_none (by omega)]
      refine wk ?_
      refine eq_mark 0 rfl rfl ?_
      refine eq_ret [int (cmpN a b)] (rvs_cell1 1 rfl rfl rfl rfl (by rw [show cmpN a b = 0 by rw [hab]; simp [cmpN]]; rfl) rvs_nil) fun w hw => ⟨rfl, hw.drop 3⟩
    · rintro D c pre r ⟨rfl, rfl⟩
      refine wk ?_
      refine eq_mark 0 rfl rfl ?_
      refine eq_ret [int (cmpN a b)] (rvs_cell1 1 rfl rfl rfl rfl rfl rvs_nil) fun w hw => ⟨rfl, hw.drop 3⟩
end Go.Proofs.YtpbnjifefoniiaaGreatDoor
namespace Go.Proofs.YtpbnjifefoniiaaGreatDoor
open Go Go.SE
variable {w0 : World} {l : List HP} {i : Nat} {F : Hp}
theorem mul64_pure {x y : Nat} (hx : x < 18446744073709551616) (hy : y < 18446744073709551616) :
    (((x / 2 ^ 32) * (y / 2 ^ 32) % 18446744073709551616 + ((x / 2 ^ 32) * (y % 4294967296) % 18446744073709551616 + (x % 4294967296) * (y % 4294967296) % 18446744073709551616 / 2 ^ 32) % 18446744073709551616 / 2 ^ 32) % 18446744073709551616 +
      ((((x / 2 ^ 32) * (y % 4294967296) % 18446744073709551616 + (x % 4294967296) * (y % 4294967296) % 18446744073709551616 / 2 ^ 32) % 18446744073709551616) % 4294967296 + (x % 4294967296) * (y / 2 ^ 32) % 18446744073709551616) % 18446744073709551616 / 2 ^ 32) % 18446744073709551616 = x * y / 18446744073709551616 := by
  have hx1 : x / 4294967296 < 4294967296 := by omega
  have hy1 : y / 4294967296 < 4294967296 := by omega
  have hx0 : x % 4294967296 < 4294967296 := Nat.mod_lt _ (by decide)
  have hy0 : y % 4294967296 < 4294967296 := Nat.mod_lt _ (by decide)
  have e := mul_halves hx hy
  have h1 := half_le hx1 hy1
  have h2 := half_le hx1 hy0
  have h3 := half_le hx0 hy0
  have h4 := half_le hx0 hy1
  rw [show (2 : Nat) ^ 32 = 4294967296 by rfl, ← e]
  have hlt : x * y / 18446744073709551616 < 18446744073709551616 := by
    refine Nat.div_lt_of_lt_mul ?_
    exact Nat.mul_lt_mul'' hx hy
  rw [← e] at hlt
  generalize (x / 4294967296) * (y / 4294967296) = A at *
  generalize (x / 4294967296) * (y % 4294967296) = B at *
  generalize (x % 4294967296) * (y % 4294967296) = D at *
  generalize (x % 4294967296) * (y / 4294967296) = E at *
  omega
theorem Mul64_any (x y : Nat) (hx : x < 18446744073709551616) (hy : y < 18446744073709551616) (H : WP) : Does cx F_math_bits_Mul64 [u64 x, u64 y] H fun v w => v = .tuple #[u64 (x * y / 18446744073709551616), u64 (x * y % 18446744073709551616)] ∧ H w := by
  refine fn_enter (n := N_math_bits_Mul64) fn_math_bits_Mul64 rfl rfl rfl ?_
  refine wk ?_
  refine And32 hx ?_
  refine wk ?_
  refine ShrK 32 ?_
  refine wk ?_
  refine And32 hy ?_
  refine wk ?_
  refine ShrK 32 ?_
  refine wk ?_
  refine MulN ?_
  refine wk ?_
  refine MulN ?_
  refine wk ?_
  refine ShrK 32 ?_
  refine AddN ?_
  refine wk ?_
  refine And32 (Nat.mod_lt _ (by decide)) ?_
  refine wk ?_
  refine ShrK 32 ?_
  refine wk ?_
  refine MulN ?_
  refine AddN ?_
  refine wk ?_
  refine MulN ?_
  refine wk ?_
  refine AddN ?_
  refine wk ?_
  refine ShrK 32 ?_
  refine AddN ?_
  refine wk ?_
  refine MulN ?_
  refine wk ?_
  refine eq_rett rfl fun w hw => ⟨?_, hw⟩
  show Value.tuple #[u64 _, u64 _] = _
  rw [mul64_pure hx hy]
set_option maxHeartbeats 1600000 in
theorem Mul_any (a b : Nat) (v u : Value) (hm : (limbs a).length ≤ 100000) (hm' : (limbs b).length ≤ 100000) (hi : l[i]? = some (frz F)) (hv : NatV w0 F v a) (hu : NatV w0 F u b) : Gives cx F_nat_Mul [v, u] w0 l i F fun G v => NatV w0 G v (a * b) := by
  obtain ⟨aa, ca, rfl, hA⟩ := hv.is
  obtain ⟨ab, cb, rfl, hB⟩ := hu.is
  refine fn_enter (n := N_nat_Mul) fn_nat_Mul rfl rfl rfl ?_
  refine wk ?_
  refine Mk (m := (limbs a).length + (limbs b).length) fun bo => ?_
  refine wk ?_
  have hz : ∀ m, u64s (List.replicate m 0) = rowZ m [.int .u64 0] := fun m => (zeros_row m).symm
  refine ej_loop2 (fun k out => k ≤ (limbs a).length ∧ Row a b k 0 out 0) (fun k _ => [(0, .slice aa (limbs a).length ca), (1, .slice ab (limbs b).length cb), (5, sv (some (bo, (limbs a).length + (limbs b).length)) ((limbs a).length + (limbs b).length)), (20, .slice aa (limbs a).length ca), (21, int (limbs a).length), (22, int k)])
    (fun _ out => S w0 (rowC (some (bo, (limbs a).length + (limbs b).length)) T_uint64 1 (u64s out) ((limbs a).length + (limbs b).length) :: l)) (fun k _ => (limbs a).length - k) 0 (List.replicate ((limbs a).length + (limbs b).length) 0) ⟨Nat.zero_le _, row_zero a b⟩ (le_of _ _ rfl) (fun w hw => by rw [hz]; exact hw) ?_
  rintro k out ⟨hk, hR⟩
  have hol := hR.len
  refine wk ?_
  refine ej_dec rfl (fun h => ?_) (fun h => ?_)
  · have h : k < (limbs a).length := by omega
    refine wk ?_
    refine Ixf hA ?_
    refine Ldf k hA (u64s_get (dig_get h)) ?_
    refine wk ?_
    refine ej_loop3 (fun q out' c => q ≤ (limbs b).length ∧ Row a b k q out' c) (fun q _ c => [(0, .slice aa (limbs a).length ca), (1, .slice ab (limbs b).length cb), (5, sv (some (bo, (limbs a).length + (limbs b).length)) ((limbs a).length + (limbs b).length)), (6, int k), (7, u64 (dig a k)), (8, u64 c), (20, .slice aa (limbs a).length ca), (21, int (limbs a).length), (22, int k), (27, .slice ab (limbs b).length cb), (28, int (limbs b).length), (29, int q)])
      (fun _ out' _ => S w0 (rowC (some (bo, (limbs a).length + (limbs b).length)) T_uint64 1 (u64s out') ((limbs a).length + (limbs b).length) :: l)) (fun q _ _ => (limbs b).length - q) 0 out 0 ⟨Nat.zero_le _, hR⟩ (le_of _ _ rfl) (fun w hw => hw) ?_
    rintro q out' c ⟨hq, hR'⟩
    have hol' := hR'.len
    refine wk ?_
    refine ej_dec rfl (fun h2 => ?_) (fun h2 => ?_)
    · have h2 : q < (limbs b).length := by omega
      have hst := row_step hR' h2 (by omega)
      have hx : out'[k + q]? = some (out'[k + q]'(by omega)) := by simp [show k + q < out'.length by omega]
      have hoq : out'[k + q]'(by omega) < 18446744073709551616 := hR'.lm _ (List.getElem_mem _)
      have hc := hR'.cl
      have hda := dig_lt a k
      have hdb := dig_lt b q
      generalize out'[k + q]'(by omega) = o at *
      refine wk ?_
      refine Ixf hB ?_
      refine Ldf q hB (u64s_get (dig_get h2)) ?_
      refine wk ?_
      refine C1 (Mul64_any _ _ hda hdb _) real_math_bits_Mul64 ?_
      refine wk ?_
      refine Ixr ?_
      refine Ldr (k + q) (u64s_get hx) ?_
      refine Ex (add64_run ext_add64 (c := 0) (by omega)) ?_
      refine wk ?_
      refine AddN ?_
      refine wk ?_
      refine Ex (add64_run ext_add64 (c := 0) (by omega)) ?_
      refine wk ?_
      refine AddN ?_
      have hP : dig a k * dig b q ≤ 340282366920938463426481119284349108225 := by
        have := Nat.mul_le_mul (Nat.le_of_lt_succ hda) (Nat.le_of_lt_succ hdb)
        omega
      refine el_val 67 (u := u64 ((o + dig a k * dig b q + c) / 18446744073709551616)) rfl (by
        generalize dig a k * dig b q = P at *
        have e : ((P / 18446744073709551616 + (P % 18446744073709551616 + o + 0) / 18446744073709551616) % 18446744073709551616 + ((P % 18446744073709551616 + o + 0) % 18446744073709551616 + c + 0) / 18446744073709551616) % 18446744073709551616 = (o + P + c) / 18446744073709551616 := by omega
        rw [e]) ?_
      refine el_val 64 (u := u64 ((o + dig a k * dig b q + c) % 18446744073709551616)) rfl (by
        generalize dig a k * dig b q = P at *
        have e : ((P % 18446744073709551616 + o + 0) % 18446744073709551616 + c + 0) % 18446744073709551616 = (o + P + c) % 18446744073709551616 := by omega
        rw [e]) ?_
      refine Ixr ?_
      refine Str (k + q) ?_
      refine wk ?_
      refine eq_back3 (q + 1) _ _ ⟨by omega, hst⟩ (by omega) (le_of _ _ rfl) fun w hw => ?_
      rw [← u64s_set]; exact hw
    · obtain rfl : q = (limbs b).length := by omega
      have hen := row_end hR' (by omega)
      refine wk ?_
      refine Ixr ?_
      refine Str (k + (limbs b).length) ?_
      refine wk ?_
      refine eq_back2 (k + 1) _ ⟨by omega, hen⟩ (by omega) (le_of _ _ rfl) fun w hw => ?_
      rw [← u64s_set]; exact hw
  · obtain rfl : k = (limbs a).length := by omega
    refine wk ?_
    refine el_frz 0 (i := i + 1) (fun G hu hf => ?_) rfl (by simpa using hi) (by omega)
    refine el_imp (H' := S w0 (l.set i (frz G))) (fun w hw => hw) ?_
    have hL := lim_row (w0 := w0) hf (by omega)
    refine Cl (trim_any _ _ hR.lm (get_set G hi) hL) real_nat_trim (fun u hu' => ?_)
    refine wk ?_
    refine eq_rett rfl fun w hw => ⟨(G, _), rfl, ⟨hu, ?_⟩, hw⟩
    have e := row_all hR
    have e2 : valL out = a * b := by
      have := congrArg valL e
      rwa [trimL, val_limbs, val_limbs] at this
    rw [e2] at hu'
    exact hu'
set_option maxHeartbeats 1600000 in
theorem shifted_any (a n : Nat) (v : Value) (hm : (limbs a).length ≤ 100000) (hn : n ≤ 6400000) (hi : l[i]? = some (frz F)) (hv : NatV w0 F v a) : Gives cx F_nat_Nat_shifted [v, int n] w0 l i F fun G v => NatV w0 G v (a * 2 ^ n) := by
  obtain ⟨aa, ca, rfl, hA⟩ := hv.is
  refine fn_enter (n := N_nat_Nat_shifted) fn_nat_Nat_shifted rfl rfl rfl ?_
  refine wk ?_
  refine ec (oQuo ?_)
  refine wk ?_
  refine ec (oQuo ?_)
  refine wk ?_
  refine Mk2 (n / 64) (n / 64 + (limbs a).length + 1) fun bo => ?_
  refine wk ?_
  have hr : n % 64 < 64 := Nat.mod_lt _ (by decide)
  have hz : ∀ m, u64s (List.replicate m 0) = rowZ m [.int .u64 0] := fun m => (zeros_row m).symm
  refine ej_loop2 (fun k (r : Option (Nat × Nat)) => k ≤ (limbs a).length) (fun k r => [(0, .slice aa (limbs a).length ca), (1, int n), (5, sv r (n / 64 + k)), (6, u64 (shC a (n % 64) k)), (18, .slice aa (limbs a).length ca), (19, int (limbs a).length), (20, int k)])
    (fun k r => S w0 (rowC r T_uint64 1 (u64s (shL a (n / 64) (n % 64) k)) (n / 64 + k) :: l)) (fun k _ => (limbs a).length - k) 0 (some (bo, n / 64 + (limbs a).length + 1)) (Nat.zero_le _) (le_of _ _ rfl) (fun w hw => by rw [shL, hz]; exact hw) ?_
  rintro k r hk
  refine wk ?_
  refine ej_dec rfl (fun h => ?_) (fun h => ?_)
  · have h : k < (limbs a).length := by omega
    have hda := dig_lt a k
    have hcl := shC_lt (a := a) hr k
    have hor := shl_or hda hr hcl
    refine wk ?_
    refine Ixf hA ?_
    refine Ldf k hA (u64s_get (dig_get h)) ?_
    refine wk ?_
    refine ec (oRem ?_)
    refine ShlN (n % 64) ?_
    refine wk ?_
    refine ec (oBits (ha := Nat.mod_lt _ (by decide)) (hb := Nat.lt_of_lt_of_le hcl (Nat.le_trans (Nat.pow_le_pow_right (by omega) (Nat.le_of_lt hr)) (by decide))) ?_)
    refine App (fun r' b => ?_) (hc := by exact rfl)
    refine wk ?_
    refine ec (oRem ?_)
    refine wk ?_
    refine ShrN (64 - n % 64) hda ?_
    refine wk ?_
    refine eq_back2 (k + 1) r' (by omega) (by omega) (le_of _ _ rfl) fun w hw => ?_
    have e : u64s (shL a (n / 64) (n % 64) (k + 1)) = u64s (shL a (n / 64) (n % 64) k) ++ [u64 (dig a k * 2 ^ (n % 64) % 18446744073709551616 ||| shC a (n % 64) k)] := by rw [shL]; simp [u64s]
    rw [e]; exact hw
  · obtain rfl : k = (limbs a).length := by omega
    refine wk ?_
    refine App (fun r' b => ?_) (hc := by exact rfl)
    refine el_frz 0 (i := i + 1) (fun G hu hf => ?_) rfl (by simpa using hi) (by omega)
    refine el_imp (H' := S w0 (l.set i (frz G))) (fun w hw => hw) ?_
    have e : u64s (shL a (n / 64) (n % 64) (limbs a).length) ++ [u64 (shC a (n % 64) (limbs a).length)] = u64s (shL a (n / 64) (n % 64) (limbs a).length ++ [shC a (n % 64) (limbs a).length]) := by simp [u64s]
    have hlm : Lm (shL a (n / 64) (n % 64) (limbs a).length ++ [shC a (n % 64) (limbs a).length]) := lm_snoc (shL_lm _ hr _) (Nat.lt_of_lt_of_le (shC_lt hr _) (Nat.le_trans (Nat.pow_le_pow_right (by omega) (Nat.le_of_lt hr)) (by decide)))
    rw [show (rowC r' T_uint64 _ _ _ : HP) = rowC r' T_uint64 1 (u64s (shL a (n / 64) (n % 64) (limbs a).length ++ [shC a (n % 64) (limbs a).length])) (n / 64 + (limbs a).length + 1) by rw [← e]; rfl] at hf
    have hL := lim_row (w0 := w0) hf (by simp [shL_len])
    refine Cl (trim_any _ _ hlm (get_set G hi) hL) real_nat_trim (fun u hu' => ?_)
    refine wk ?_
    refine eq_rett rfl fun w hw => ⟨(G, _), rfl, ⟨hu, ?_⟩, hw⟩
    have e := sh_all a n
    have e2 : valL (shL a (n / 64) (n % 64) (limbs a).length ++ [shC a (n % 64) (limbs a).length]) = a * 2 ^ n := by
      have := congrArg valL e
      rwa [trimL, val_limbs, val_limbs] at this
    rw [e2] at hu'
    exact hu'
end Go.Proofs.YtpbnjifefoniiaaGreatDoor
namespace Go.Proofs.YtpbnjifefoniiaaGreatDoor
open Go Go.SE
variable {w0 : World} {l : List HP} {i : Nat} {F : Hp}
theorem blen_limbs_le (a : Nat) : blen a ≤ 64 * (limbs a).length := by
  refine blen_le ?_
  have h := limbs_lt a
  rwa [show 18446744073709551616 = 2 ^ 64 by rfl, ← Nat.pow_mul] at h
theorem len_mono {a b : Nat} (h : a ≤ b) : (limbs a).length ≤ (limbs b).length := by
  rcases Nat.lt_or_ge (limbs b).length (limbs a).length with h1 | h1
  · have := len_lt h1; omega
  · exact h1
theorem cmp_ge (a b : Nat) : (0 ≤ cmpN a b) ↔ b ≤ a := by
  unfold cmpN
  split
  · omega
  · split <;> omega
set_option maxHeartbeats 3200000 in
theorem DivMod_any (a b : Nat) (v u : Value) (hm : (limbs a).length ≤ 90000) (hb : b ≠ 0) (hm' : (limbs b).length ≤ 90000) (hi : l[i]? = some (frz F)) (hv : NatV w0 F v a) (hu : NatV w0 F u b) :
    Does cx F_nat_DivMod [v, u] (S w0 l) fun r w => ∃ x : Hp × Value × Value, r = .tuple #[x.2.1, x.2.2, int 0] ∧ (Up F x.1 ∧ NatV w0 x.1 x.2.1 (a / b) ∧ NatV w0 x.1 x.2.2 (a % b)) ∧ S w0 (l.set i (frz x.1)) w := by
  have hv0 := hv
  have hu0 := hu
  obtain ⟨aa, ca, rfl, hA⟩ := hv.is
  obtain ⟨ab, cb, rfl, hB⟩ := hu.is
  have hbl : (limbs b).length ≠ 0 := fun e => hb (limbs_nil.1 (List.eq_nil_of_length_eq_zero e))
  have hba := blen_limbs_le a
  have hbb := blen_limbs_le b
  refine fn_enter (n := N_nat_DivMod) fn_nat_DivMod rfl rfl rfl ?_
  refine wk ?_
  refine ej_dec rfl (fun h => by omega) (fun _ => ?_)
  refine wk ?_
  refine Gv (Clone_any a _ (by omega) hi hv0) real_slices_Clone_nat_Nat_uint64 fun G0 vl hu1 hvl => ?_
  have hi1 := get_set G0 hi
  refine wk ?_
  refine Mk fun bo => ?_
  have hi2 : (rowC (some (bo, (limbs a).length)) T_uint64 1 (rowZ (limbs a).length [.int .u64 0]) (limbs a).length :: l.set i (frz G0))[i + 1]? = some (frz G0) := hi1
  refine wk ?_
  refine C1 (long_any a _ (by omega) hi2 (hv0.up hu1)) real_nat_Nat_long ?_
  refine wk ?_
  refine C1 (long_any b _ (by omega) hi2 (hu0.up hu1)) real_nat_Nat_long ?_
  refine wk ?_
  have hz : ∀ m, u64s (List.replicate m 0) = rowZ m [.int .u64 0] := fun m => (zeros_row m).symm
  refine ej_loop4 (fun (n : Int) (out : List Nat) (left : Nat) (p : Hp × Value) => (n ≤ 5760000 ∧ -5760000 ≤ n ∧ out.length = (limbs a).length ∧ Lm out) ∧ (Up F p.1 ∧ NatV w0 p.1 p.2 left) ∧ ((n < 0 ∧ valL out = a / b ∧ left = a % b) ∨ (0 ≤ n ∧ n + blen b ≤ blen a ∧ Dv a b (n.toNat + 1) (valL out) left)))
    (fun n out left p => [(0, .slice aa (limbs a).length ca), (1, .slice ab (limbs b).length cb), (7, p.2), (8, sv (some (bo, (limbs a).length)) (limbs a).length), (9, int n)])
    (fun n out left p => S w0 (rowC (some (bo, (limbs a).length)) T_uint64 1 (u64s out) (limbs a).length :: l.set i (frz p.1))) (fun n _ _ _ => (n + 1).toNat) ((blen a : Int) - blen b) (List.replicate (limbs a).length 0) a (G0, vl) ⟨⟨by omega, by omega, by simp, lm_zeros _⟩, ⟨hu1, hvl⟩, ?_⟩ (le_of _ _ rfl) (fun w hw => by rw [hz]; exact hw) ?_
  · rcases Nat.lt_or_ge (blen a) (blen b) with h | h
    · obtain ⟨h1, h2⟩ := dv_none h
      exact .inl ⟨by omega, by rw [val_zeros, h1], h2.symm⟩
    · refine .inr ⟨by omega, by omega, ?_⟩
      have := dv_begin hb h
      rw [val_zeros, show ((blen a : Int) - blen b).toNat = blen a - blen b by omega]
      exact this
  rintro n out left ⟨G, vl'⟩ ⟨⟨hn1, hn2, hol, hlm⟩, ⟨huG, hvl'⟩, hcase⟩
  replace huG : Up F G := huG
  replace hvl' : NatV w0 G vl' left := hvl'
  have hi3 := get_set G hi
  refine wk ?_
  refine ej_dec rfl (fun h => ?_) (fun h => ?_)
  · have h : 0 ≤ n := h
    obtain ⟨j, rfl⟩ := Int.eq_ofNat_of_zero_le h
    obtain ⟨hle, hD⟩ : (j : Int) + blen b ≤ blen a ∧ Dv a b (j + 1) (valL out) left := by
      rcases hcase with ⟨h1, _⟩ | ⟨_, h2, h3⟩
      · omega
      · exact ⟨h2, by simpa using h3⟩
    have hbp := blen_pos hb
    have hleft : left ≤ a := by have := hD.sum; omega
    have hll := len_mono hleft
    refine wk ?_
    refine Gv (shifted_any (l := _ :: l.set i (frz G)) (i := i + 1) b j _ (by omega) (by omega) hi3 (hu0.up huG)) real_nat_Nat_shifted fun G1 vx hu2 hvx => ?_
    refine el_imp (H' := S w0 (rowC (some (bo, (limbs a).length)) T_uint64 1 (u64s out) (limbs a).length :: l.set i (frz G1))) (fun w hw => by simpa using hw) ?_
    have hi4 := get_set G1 hi
    refine wk ?_
    refine C1 (Cmp_any (l := _ :: l.set i (frz G1)) (i := i + 1) left (b * 2 ^ j) _ _ (by omega) hi4 (hvl'.up hu2) hvx) real_nat_Cmp ?_
    have hst := dv_step hD
    have hjl : j / 64 < out.length := by omega
    have hbs := bit_set hlm hjl hD.mul
    have hx : out[j / 64]? = some out[j / 64] := by simp [hjl]
    have hol' : out[j / 64] < 18446744073709551616 := hlm _ (List.getElem_mem _)
    have next : ∀ (q left' : Nat), Dv a b j q left' → (((j : Int) - 1 < 0 ∧ q = a / b ∧ left' = a % b) ∨ (0 ≤ (j : Int) - 1 ∧ (j : Int) - 1 + blen b ≤ blen a ∧ Dv a b (((j : Int) - 1).toNat + 1) q left')) := fun q left' hD' => by
      rcases Nat.eq_zero_or_pos j with rfl | hpos
      · obtain ⟨h1, h2⟩ := dv_end hD'
        exact .inl ⟨by omega, h1, h2⟩
      · exact .inr ⟨by omega, by omega, by rw [show ((j : Int) - 1).toNat + 1 = j by omega]; exact hD'⟩
    generalize out[j / 64] = o at *
    refine wk ?_
    refine ej_dec rfl (fun h1 => ?_) (fun h1 => ?_)
    · have h1 : b * 2 ^ j ≤ left := (cmp_ge _ _).1 h1
      rw [if_pos h1] at hst
      refine wk ?_
      refine Gv (less_any (l := _ :: l.set i (frz G1)) (i := i + 1) left (b * 2 ^ j) _ _ h1 (by omega) hi4 (hvl'.up hu2) hvx) real_nat_less fun G2 vd hu3 hvd => ?_
      refine el_imp (H' := S w0 (rowC (some (bo, (limbs a).length)) T_uint64 1 (u64s out) (limbs a).length :: l.set i (frz G2))) (fun w hw => by simpa using hw) ?_
      refine wk ?_
      have hI : ∀ l' : List HP, ∀ w, S w0 l' w → Held w0 [] w := fun _ => held .nil
      refine ej_held [] ?_
      have hI1 := hI (rowC (some (bo, (limbs a).length)) T_uint64 1 (u64s out) (limbs a).length :: l.set i (frz G2))
      refine tk 0 ?_
      refine tk 1 ?_
      refine tk 5 ?_
      refine tv 2 rfl rQuo ?_
      refine tv 3 rfl rIxr ?_
      refine tv 6 rfl rRem ?_
      refine tv 7 rfl (rShlN (j % 64)) ?_
      refine wv 4 rfl (eo_ldr (r := some (bo, (limbs a).length)) (xs := u64s out) (v := u64 o) 0 rfl rfl rfl rfl rfl rfl rfl (by rw [show ((j : Int) / 64).toNat * 1 = j / 64 by omega]; exact u64s_get hx) ⟨hI1, ?_⟩)
      refine tv 8 rfl (rBits (hb := Nat.mod_lt _ (by decide))) ?_
      refine tv 9 rfl rIxr ?_
      refine wv 10 rfl (eo_str (r := some (bo, (limbs a).length)) 0 rfl rfl rfl rfl rfl rfl rfl rfl rfl (by simp; omega) ⟨hI _, ?_⟩)
      refine wd ?_
      refine wk ?_
      refine eq_back4 ((j : Int) - 1) (out.set (j / 64) (o ||| 2 ^ (j % 64))) (left - b * 2 ^ j) (G2, vd) ⟨⟨by omega, by omega, by simpa using hol, lm_set hlm hbs.2⟩, ⟨(huG.trans hu2).trans hu3, hvd⟩, ?_⟩ (by omega) (le_of _ _ rfl) fun w hw => ?_
      · rw [hbs.1]; exact next _ _ hst
      · have e1 : (1 * 2 ^ (j % 64)) % 18446744073709551616 = 2 ^ (j % 64) := by
          rw [Nat.one_mul]
          exact Nat.mod_eq_of_lt (Nat.pow_lt_pow_right (by decide) (show j % 64 < 64 from Nat.mod_lt _ (by decide)))
        have e : u64s (out.set (j / 64) (o ||| 2 ^ (j % 64))) = (u64s out).set (((j : Int) / 64).toNat * 1) (u64 (o ||| 1 * 2 ^ (j % 64) % 18446744073709551616)) := by
          rw [e1, show ((j : Int) / 64).toNat * 1 = j / 64 by omega, u64s_set]
        rw [e]; exact hw
    · have h1 : ¬ b * 2 ^ j ≤ left := fun e => h1 ((cmp_ge _ _).2 e)
      rw [if_neg h1] at hst
      refine wk ?_
      refine eq_back4 ((j : Int) - 1) out left (G1, vl') ⟨⟨by omega, by omega, hol, hlm⟩, ⟨huG.trans hu2, hvl'.up hu2⟩, next _ _ hst⟩ (by omega) (le_of _ _ rfl) fun w hw => hw
  · have h : ¬ 0 ≤ n := h
    obtain ⟨h1, h2⟩ : valL out = a / b ∧ left = a % b := by
      rcases hcase with ⟨_, h1, h2⟩ | ⟨h0, _⟩
      · exact ⟨h1, h2⟩
      · omega
    refine wk ?_
    refine el_frz 0 (i := i + 1) (fun G2 hu hf => ?_) rfl hi3 (by omega)
    refine el_imp (H' := S w0 (l.set i (frz G2))) (fun w hw => by simpa using hw) ?_
    have hL := lim_row (w0 := w0) hf hol
    refine Cl (trim_any _ _ hlm (get_set G2 hi) hL) real_nat_trim (fun u hu' => ?_)
    refine wk ?_
    refine eq_rett rfl fun w hw => ⟨(G2, _, _), rfl, ⟨huG.trans hu, ?_, ?_⟩, hw⟩
    · rw [h1] at hu'; exact hu'
    · rw [← h2]; exact hvl'.up hu
end Go.Proofs.YtpbnjifefoniiaaGreatDoor
namespace Go.Proofs.YtpbnjifefoniiaaGreatDoor
open Go Go.SE
variable {w0 : World} {l : List HP} {F : Hp}
theorem nOf (x : Nat) (hx : x < 18446744073709551616) : Giv cx F_nat_Of [u64 x] w0 F (fun v : Value => v) fun G v => NatV w0 G v x := fun l => Of_any (l := frz F :: l) (i := 0) x hx rfl
theorem nClone (a : Nat) (v : Value) (hm : (limbs a).length ≤ 100000) (hv : NatV w0 F v a) : Giv cx F_slices_Clone_nat_Nat_uint64 [v] w0 F (fun v : Value => v) fun G v => NatV w0 G v a := fun l => Clone_any (l := frz F :: l) (i := 0) a v hm rfl hv
theorem nMul (a b : Nat) (v u : Value) (hv : NatV w0 F v a) (hu : NatV w0 F u b) (hm : (limbs a).length ≤ 100000) (hm' : (limbs b).length ≤ 100000) : Giv cx F_nat_Mul [v, u] w0 F (fun v : Value => v) fun G v => NatV w0 G v (a * b) := fun l => Mul_any (l := frz F :: l) (i := 0) a b v u hm hm' rfl hv hu
theorem nLess (a b : Nat) (v u : Value) (hv : NatV w0 F v a) (hu : NatV w0 F u b) (hab : b ≤ a) (hm : (limbs a).length ≤ 100000) : Giv cx F_nat_less [v, u] w0 F (fun v : Value => v) fun G v => NatV w0 G v (a - b) := fun l => less_any (l := frz F :: l) (i := 0) a b v u hab hm rfl hv hu
theorem nDivMod (a b : Nat) (v u : Value) (hv : NatV w0 F v a) (hu : NatV w0 F u b) (hb : b ≠ 0) (hm : (limbs a).length ≤ 90000) (hm' : (limbs b).length ≤ 90000) : Giv cx F_nat_DivMod [v, u] w0 F (fun v : Value × Value => .tuple #[v.1, v.2, int 0]) fun G v => NatV w0 G v.1 (a / b) ∧ NatV w0 G v.2 (a % b) := fun l => DivMod_any (l := frz F :: l) (i := 0) a b v u hm hb hm' rfl hv hu
theorem nGcd (a b : Nat) (v u : Value) (hv : NatV w0 F v a) (hu : NatV w0 F u b) (hm : (limbs a).length ≤ 90000) (hm' : (limbs b).length ≤ 90000) : Giv cx F_nat_Gcd [v, u] w0 F (fun v : Value => v) fun G v => NatV w0 G v (Nat.gcd a b) := by
  intro l
  refine fn_enter (n := N_nat_Gcd) fn_nat_Gcd rfl rfl rfl ?_
  refine wk ?_
  refine G0 (nClone a v (by omega) hv) real_slices_Clone_nat_Nat_uint64 fun G va hu1 hva => ?_
  refine wk ?_
  refine ej_loop3 (fun (x y : Nat) (p : Hp × Value × Value) => (Nat.gcd x y = Nat.gcd a b ∧ (limbs x).length ≤ 90000 ∧ (limbs y).length ≤ 90000) ∧ Up F p.1 ∧ NatV w0 p.1 p.2.1 x ∧ NatV w0 p.1 p.2.2 y) (fun _ _ p => [(0, p.2.1), (1, p.2.2)]) (fun _ _ p => S w0 (frz p.1 :: l)) (fun _ y _ => y) a b (G, va, u) ⟨⟨rfl, hm, hm'⟩, hu1, hva, hu.up hu1⟩ (le_of _ _ rfl) (fun w hw => hw) ?_
  rintro x y ⟨G1, vx, vy⟩ ⟨⟨hg, hx, hy⟩, hu2, hvx, hvy⟩
  replace hu2 : Up F G1 := hu2
  replace hvx : NatV w0 G1 vx x := hvx
  replace hvy : NatV w0 G1 vy y := hvy
  obtain ⟨ay, cy, rfl, hY⟩ := hvy.is
  refine wk ?_
  refine ej_dec rfl (fun h => ?_) (fun h => ?_)
  · have hy0 : y ≠ 0 := by
      rintro rfl
      rw [limbs_zero] at h
      exact absurd h (by decide)
    refine wk ?_
    refine G0 (nDivMod x y _ _ hvx hvy hy0 hx hy) real_nat_DivMod fun G2 q hu3 hq => ?_
    refine wk ?_
    refine G0 (nClone y _ (by omega) (hvy.up hu3)) real_slices_Clone_nat_Nat_uint64 fun G3 vb hu4 hvb => ?_
    refine wk ?_
    have hlt := Nat.mod_lt x (Nat.pos_of_ne_zero hy0)
    refine eq_back3 y (x % y) (G3, vb, q.2) ⟨⟨?_, hy, Nat.le_trans (len_mono (Nat.le_of_lt hlt)) hy⟩, ((hu2.trans hu3).trans hu4), hvb, hq.2.up hu4⟩ hlt (le_of _ _ rfl) fun w hw => hw
    rw [← hg, Nat.gcd_comm x y, Nat.gcd_rec y x, Nat.gcd_comm]
  · have hy0 : y = 0 := limbs_nil.1 (List.eq_nil_of_length_eq_zero (by omega))
    subst hy0
    refine wk ?_
    refine eq_rett rfl fun w hw => ⟨(G1, _), rfl, ⟨hu2, ?_⟩, hw⟩
    rw [← hg, Nat.gcd_zero_right]; exact hvx
theorem Good_any (a : Nat) (v : Value) (hm : (limbs a).length ≤ 100000) {i : Nat} (hi : l[i]? = some (frz F)) (hv : NatV w0 F v a) : Does cx F_nat_Good [v] (S w0 l) fun u w => u = .bool true ∧ S w0 l w := by
  obtain ⟨aa, ca, rfl, hA⟩ := hv.is
  refine fn_enter (n := N_nat_Good) fn_nat_Good rfl rfl rfl ?_
  refine wk ?_
  refine el_gdec rfl rfl (fun h => ?_) (fun h => ?_)
  · refine wk ?_
    exact eq_rett rfl fun w hw => ⟨rfl, hw⟩
  · obtain ⟨m, hm⟩ : ∃ m, (limbs a).length = m + 1 := ⟨(limbs a).length - 1, by omega⟩
    have ht := limbs_tr a
    have hd : dig a m ≠ 0 := fun e => ht (by
      rw [List.getLast?_eq_getElem?, hm, Nat.add_sub_cancel, dig_get (by omega), e])
    refine wk ?_
    refine Ixf hA ?_
    refine Ldf m hA (u64s_get (dig_get (by omega))) ?_
    refine wk ?_
    refine eq_rett rfl fun w hw => ⟨?_, hw⟩
    show Value.bool (decide ¬ ((dig a m : Nat) : Int) = 0) = _
    rw [decide_eq_true (by omega)]
theorem Small_any (a : Nat) (v : Value) (ha : a ≤ 4611686018427387904) {i : Nat} (hi : l[i]? = some (frz F)) (hv : NatV w0 F v a) : Does cx F_nat_Small [v] (S w0 l) fun u w => u = .tuple #[int a, .bool true] ∧ S w0 l w := by
  have hv0 := hv
  obtain ⟨aa, ca, rfl, hA⟩ := hv.is
  have hl : (limbs a).length ≤ 1 := limbs_len (by simp; omega)
  have hd : (limbs a).getD 0 0 = a := by
    by_cases h0 : a = 0
    · subst h0; rw [limbs_zero]; rfl
    · rw [limbs_pos h0]; simp; omega
  refine fn_enter (n := N_nat_Small) fn_nat_Small rfl rfl rfl ?_
  refine wk ?_
  refine el_gdec rfl rfl (fun h => by omega) (fun h => ?_)
  refine wk ?_
  refine C1 (at_any (limbs a) _ 0 (by omega) hi hv0) real_nat_Nat_at ?_
  refine el_val 9 (u := u64 a) rfl (by rw [show (0 : Int).toNat = 0 by rfl, hd]) ?_
  refine wk ?_
  refine ej_dec rfl (fun h => by omega) (fun _ => ?_)
  refine wk ?_
  refine C1 (at_any (limbs a) _ 0 (by omega) hi hv0) real_nat_Nat_at ?_
  refine el_val 13 (u := u64 a) rfl (by rw [show (0 : Int).toNat = 0 by rfl, hd]) ?_
  refine wk ?_
  exact eq_rett rfl fun w hw => ⟨rfl, hw⟩
theorem nSub (a b : Nat) (v u : Value) (hv : NatV w0 F v a) (hu : NatV w0 F u b) (hab : b ≤ a) (hm : (limbs a).length ≤ 100000) : Giv cx F_nat_Sub [v, u] w0 F (fun v : Value => .tuple #[v, int 0]) fun G v => NatV w0 G v (a - b) := by
  intro l
  refine fn_enter (n := N_nat_Sub) fn_nat_Sub rfl rfl rfl ?_
  refine wk ?_
  refine C1 (Cmp_any (l := frz F :: l) (i := 0) a b _ _ hm rfl hv hu) real_nat_Cmp ?_
  refine wk ?_
  refine ej_dec rfl (fun h => ?_) (fun _ => ?_)
  · have h : cmpN a b < 0 := h
    have := (cmp_ge a b).2 hab
    omega
  refine wk ?_
  refine G0 (nLess a b v u hv hu hab hm) real_nat_less fun G vd hu1 hvd => ?_
  refine wk ?_
  exact eq_rett rfl fun w hw => ⟨(G, vd), rfl, ⟨hu1, hvd⟩, hw⟩
end Go.Proofs.YtpbnjifefoniiaaGreatDoor
namespace Go.Proofs.YtpbnjifefoniiaaGreatDoor
open Go Go.SE
def rn (r : Rat) : Nat := r.num.toNat
theorem num_nonneg {r : Rat} (h : 0 ≤ r) : 0 ≤ r.num := Rat.num_nonneg.2 h
theorem rn_cast {r : Rat} (h : 0 ≤ r) : (rn r : Int) = r.num := Int.toNat_of_nonneg (num_nonneg h)
theorem mk_rn {r : Rat} (h : 0 ≤ r) : mkRat (rn r : Int) r.den = r := by rw [rn_cast h]; exact Rat.mkRat_self r
theorem mk_num {a b : Nat} (hb : b ≠ 0) : rn (mkRat (a : Int) b) = a / Nat.gcd a b := by
  rw [rn, Rat.num_mkRat, if_neg hb, Int.natAbs_natCast, Nat.gcd_comm b a]
  rfl
theorem mk_den {a b : Nat} (hb : b ≠ 0) : (mkRat (a : Int) b).den = b / Nat.gcd a b := by
  rw [Rat.den_mkRat, if_neg hb, Int.natAbs_natCast, Nat.gcd_comm b a]
theorem mk_nonneg (a b : Nat) : 0 ≤ mkRat (a : Int) b := by
  rw [← Rat.num_nonneg, Rat.num_mkRat]
  split
  · exact Int.le_refl _
  · exact Int.ediv_nonneg (Int.natCast_nonneg a) (Int.natCast_nonneg _)
theorem mul_mk {r s : Rat} (hr : 0 ≤ r) (hs : 0 ≤ s) : mkRat ((rn r * rn s : Nat) : Int) (r.den * s.den) = r * s := by
  conv => rhs; rw [← mk_rn hr, ← mk_rn hs]
  rw [Rat.mkRat_mul_mkRat]
  simp
theorem lt_cross {r s : Rat} (hr : 0 ≤ r) (hs : 0 ≤ s) : r < s ↔ rn r * s.den < rn s * r.den := by
  rw [Rat.lt_iff, ← rn_cast hr, ← rn_cast hs]
  exact_mod_cast Iff.rfl
def cmpR (r s : Rat) : Int := if r < s then -1 else if s < r then 1 else 0
theorem cmp_cross {r s : Rat} (hr : 0 ≤ r) (hs : 0 ≤ s) : cmpN (rn r * s.den) (rn s * r.den) = cmpR r s := by
  unfold cmpN cmpR
  simp only [lt_cross hr hs, lt_cross hs hr]
theorem sub_mk {r s : Rat} (hr : 0 ≤ r) (hs : 0 ≤ s) (h : s ≤ r) : mkRat ((rn r * s.den - rn s * r.den : Nat) : Int) (r.den * s.den) = r - s := by
  have h1 : rn s * r.den ≤ rn r * s.den := by
    rcases Nat.lt_or_ge (rn r * s.den) (rn s * r.den) with h2 | h2
    · have := (lt_cross hr hs).2 h2
      exact absurd h (Rat.not_le.2 this)
    · exact h2
  have h0 : 0 ≤ r - s := by grind
  have key : r - s + s = r := by grind
  have e : mkRat ((rn r * s.den - rn s * r.den : Nat) : Int) (r.den * s.den) + s = r := by
    conv => lhs; rhs; rw [← mk_rn hs]
    rw [Rat.mkRat_add_mkRat _ _ (Nat.mul_ne_zero r.den_nz s.den_nz) s.den_nz]
    have e2 : ((rn r * s.den - rn s * r.den : Nat) : Int) * (s.den : Int) + (rn s : Int) * ((r.den * s.den : Nat) : Int) = (rn r : Int) * ((s.den * s.den : Nat) : Int) := by
      rw [Int.ofNat_sub h1]
      push_cast
      grind
    rw [e2, Nat.mul_assoc, Rat.mkRat_mul_right (Nat.mul_ne_zero s.den_nz s.den_nz)]
    exact mk_rn hr
  grind
theorem pos_rn {s : Rat} (hs : 0 < s) : rn s ≠ 0 := by
  have h0 : 0 ≤ s := by grind
  intro e
  have := rn_cast h0
  rw [e] at this
  have h1 : s = 0 := Rat.num_eq_zero.1 this.symm
  rw [h1] at hs
  exact absurd hs (by decide)
theorem div_mk {r s : Rat} (hr : 0 ≤ r) (hs : 0 < s) : mkRat ((rn r * s.den : Nat) : Int) (r.den * rn s) = r / s := by
  have h0 : 0 ≤ s := by grind
  have hne : s ≠ 0 := by grind
  have e : mkRat ((rn r * s.den : Nat) : Int) (r.den * rn s) * s = r := by
    conv => lhs; rhs; rw [← mk_rn h0]
    rw [Rat.mkRat_mul_mkRat]
    have e1 : ((rn r * s.den : Nat) : Int) * (rn s : Int) = (rn r : Int) * ((s.den * rn s : Nat) : Int) := by push_cast; grind
    have e2 : r.den * rn s * s.den = r.den * (s.den * rn s) := by grind
    rw [e1, e2, Rat.mkRat_mul_right (Nat.mul_ne_zero s.den_nz (pos_rn hs))]
    exact mk_rn hr
  rw [Rat.div_def]
  have := Rat.mul_inv_cancel s hne
  calc _ = mkRat ((rn r * s.den : Nat) : Int) (r.den * rn s) * (s * s⁻¹) := by rw [this, Rat.mul_one]
    _ = _ := by rw [← Rat.mul_assoc, e]
theorem int_mk (n : Nat) : rn (n : Rat) = n ∧ ((n : Rat)).den = 1 := by
  constructor
  · rw [rn]; rfl
  · rfl
theorem nat_nonneg (n : Nat) : (0 : Rat) ≤ n := by exact_mod_cast Nat.zero_le n
theorem floor_lt {r : Rat} (hr : 0 ≤ r) (n : Nat) : ((n : Rat) ≤ r ↔ n ≤ rn r / r.den) := by
  rw [Nat.le_div_iff_mul_le r.den_pos]
  have h := lt_cross hr (nat_nonneg n)
  rw [(int_mk n).1, (int_mk n).2, Nat.mul_one] at h
  constructor
  · intro h1
    rcases Nat.lt_or_ge (rn r) (n * r.den) with h2 | h2
    · exact absurd h1 (Rat.not_le.2 (h.2 h2))
    · exact h2
  · intro h1
    rw [← Rat.not_lt]
    intro h2
    have := h.1 h2
    omega
end Go.Proofs.YtpbnjifefoniiaaGreatDoor
