/- The law ScriptBytes. -/
import Derived.Test.YthmmibjhhifmeaaSq
namespace Go.Proofs.Ythmmibjhhifmeaa
open Go Go.SE

variable {w0 : World} {l : List HP} {i : Nat} {r : Option (Nat × Nat)}

theorem guard_C : cx.P.eqGuardType cx.P.depth T_code_Command = false := by kernel_rfl
theorem plain_C : plainStruct cx.P T_code_Command = true := by kernel_rfl
theorem same_C (c : Cmd) : Same cx 10000 T_code_Command (.agg c.prog.toArray) (.agg c.prog.toArray) true := by
  have e : true = (decide ((c.op : Int) = c.op) && (decide (c.a = c.a) && (decide (c.b = c.b) && (decide ((c.m : Int) = c.m) && true)))) := by simp
  rw [e]
  exact same_struct (C := cx) (d := 9999) (fs := [(26, 0), (3, 1), (3, 2), (28, 3)]) rfl rfl plain_C (.cons rfl rfl (same_int rfl rfl) (.cons rfl rfl (same_int rfl rfl) (.cons rfl rfl (same_int rfl rfl) (.cons rfl rfl (same_int rfl rfl) .nil))))
def cmdOf (x : Raw) : Cmd := ⟨x.op.toNat, x.a, x.b, x.m⟩
theorem cmds_of {xs : List Raw} (h : ∀ x ∈ xs, x.byte) (hm : ∀ x ∈ xs, x.m < 18446744073709551616) : rows Raw.cells xs = rows Cmd.doc (xs.map cmdOf) ∧ ∀ c ∈ xs.map cmdOf, c.Ok := by
  refine ⟨?_, fun c hc => ?_⟩
  · rw [rows, rows, List.map_map]
    congr 1
    refine List.map_congr_left fun x hx => ?_
    have := (h x hx).1
    show [int x.op, int x.a, int x.b, u64 x.m] = [int (x.op.toNat : Nat), int x.a, int x.b, u64 x.m]
    rw [Int.toNat_of_nonneg this]
  · obtain ⟨x, hx, rfl⟩ := List.mem_map.1 hc
    have h1 := h x hx
    exact ⟨by show x.op.toNat < 256; have := h1.1; have := h1.2; omega, hm x hx⟩
def allGood (cs : List Cmd) : Prop := ∀ c ∈ cs, c.good
instance (cs : List Cmd) : Decidable (allGood cs) := inferInstanceAs (Decidable (∀ c ∈ cs, c.good))
theorem allGood_snoc (cs : List Cmd) (x : Cmd) : decide (allGood (cs ++ [x])) = (decide (allGood cs) && decide x.good) := by
  have : allGood (cs ++ [x]) ↔ allGood cs ∧ x.good := ⟨fun h => ⟨fun c hc => h c (List.mem_append_left _ hc), h x (by simp)⟩, fun h c hc => (List.mem_append.1 hc).elim (h.1 c) (fun e => by rw [List.mem_singleton.1 e]; exact h.2)⟩
  rw [decide_eq_decide.2 this, Bool.decide_and]
theorem encs_lt (cs : List Cmd) (h : ∀ c ∈ cs, c.Ok) : ∀ b ∈ encs cs, b < 256 := by
  intro b hb
  obtain ⟨l, hl, hb⟩ := List.mem_flatten.1 hb
  obtain ⟨c, hc, rfl⟩ := List.mem_map.1 hl
  exact enc_lt c (h c hc).op b hb
theorem _root_.Go.SE.S.row_some {w : World} {i : Nat} {r : Option (Nat × Nat)} {T sz n : Nat} {xs : List Value} (h : S w0 l w) (hi : l[i]? = some (rowC r T sz xs n)) (hn : 0 < n) : ∃ q, r = some q := by
  cases r with
  | none => obtain ⟨_, rfl⟩ := h.row_nil hi; omega
  | some q => exact ⟨q, rfl⟩
theorem doc4 (c : Cmd) : c.doc.length = 4 := rfl

set_option maxHeartbeats 3200000 in
theorem ScriptBytes_any {W : World} {a : Option Addr} {c : Nat} (xs : List Raw) (hm : ∀ x ∈ xs, x.m < 18446744073709551616) (hA : Sl W 4 a (rows Raw.cells xs) xs.length) (hc : xs.length ≤ c ∧ c ≤ maxLen) :
    Does cx F_law24_ScriptBytes [.slice a xs.length c] (S W [old W]) fun v w => v = .bool true ∧ S W [old W] w := by
  refine fn_enter (n := N_law24_ScriptBytes) fn_law24_ScriptBytes rfl rfl rfl ?_
  (repeat (first | refine el_pure rfl rfl rfl rfl ?_ | refine ej_seq ?_ | refine ej_region ?_ | refine el_nil ?_ | refine eq_seq ?_ | refine eq_calm ?_ | refine ej_true rfl ?_ | refine ej_false rfl ?_ | refine el_skip rfl rfl rfl ?_ | refine ej_ret ?_ | refine ej_skip ?_ | refine ej_exit ?_ | refine ej_block ?_ | refine eq_seq_ret ?_ | refine eq_seq_exit ?_ | refine eq_block ?_ | refine eq_block_exit ?_ | refine eq_block_ret ?_ | refine eq_block_exit_ne rfl ?_ | refine eq_back_ret ?_ | refine eq_back_exit ?_))
  refine el_cons rfl (eo_call1 rfl rfl rfl rfl rfl real_law24_awake awake_any ?_)
  (repeat (first | refine el_pure rfl rfl rfl rfl ?_ | refine ej_seq ?_ | refine ej_region ?_ | refine el_nil ?_ | refine eq_seq ?_ | refine eq_calm ?_ | refine ej_true rfl ?_ | refine ej_false rfl ?_ | refine el_skip rfl rfl rfl ?_ | refine ej_ret ?_ | refine ej_skip ?_ | refine ej_exit ?_ | refine ej_block ?_ | refine eq_seq_ret ?_ | refine eq_seq_exit ?_ | refine eq_block ?_ | refine eq_block_exit ?_ | refine eq_block_ret ?_ | refine eq_block_exit_ne rfl ?_ | refine eq_back_ret ?_ | refine eq_back_exit ?_ | refine el_cons rfl (eo_lenv rfl rfl rfl rfl rfl rfl ?_) | refine el_cons rfl (eo_arith rfl rfl rfl rfl rfl rfl ⟨by omega, by omega⟩ ?_)))
  refine el_cons rfl (eo_call1 rfl rfl rfl rfl rfl real_law23_Few (Few_any (i := 0) xs (by omega) hA rfl) ?_)
  by_cases hf : fewOk xs
  · rw [decide_eq_true hf]
    obtain ⟨hbyte, h60⟩ := hf
    obtain ⟨hrows, hOk⟩ := cmds_of hbyte hm
    have hlen : (xs.map cmdOf).length = xs.length := by simp
    rw [hrows, ← hlen] at hA
    rw [← hlen] at h60
    rw [← hlen]
    generalize xs.map cmdOf = cs at *
    clear hbyte hm hrows hlen
    (repeat (first | refine el_pure rfl rfl rfl rfl ?_ | refine ej_seq ?_ | refine ej_region ?_ | refine el_nil ?_ | refine eq_seq ?_ | refine eq_calm ?_ | refine ej_true rfl ?_ | refine ej_false rfl ?_ | refine el_skip rfl rfl rfl ?_ | refine ej_ret ?_ | refine ej_skip ?_ | refine ej_exit ?_ | refine ej_block ?_ | refine eq_seq_ret ?_ | refine eq_seq_exit ?_ | refine eq_block ?_ | refine eq_block_exit ?_ | refine eq_block_ret ?_ | refine eq_block_exit_ne rfl ?_ | refine eq_back_ret ?_ | refine eq_back_exit ?_ | refine el_cons rfl (eo_lenv rfl rfl rfl rfl rfl rfl ?_) | refine el_cons rfl (eo_arith rfl rfl rfl rfl rfl rfl ⟨by omega, by omega⟩ ?_)))
    refine ej_imp' (H' := S W [rowC none T_code_Command 4 [] 0, rowC none T_uint8 1 [] 0, old W]) (fun w hw => hw.row_new.row_new) ?_
    refine ej_loopP (α := Nat × Option (Nat × Nat) × Option (Nat × Nat) × Bool × List Nat) (fun x => x.1 ≤ cs.length ∧ x.2.2.2.1 = decide (allGood (cs.take x.1)) ∧ (x.2.2.2.1 = true → x.2.2.2.2 = encs (cs.take x.1)) ∧ x.2.2.2.2.length ≤ 17 * x.1)
      (fun x => [(0, .slice a cs.length c), (3, sv x.2.1 x.1), (4, sv x.2.2.1 x.2.2.2.2.length), (5, .bool x.2.2.2.1), (21, .slice a cs.length c), (22, int cs.length), (23, int x.1)])
      (fun x => S W [rowC x.2.1 T_code_Command 4 (rows Cmd.prog (cs.take x.1)) x.1, rowC x.2.2.1 T_uint8 1 (u8s x.2.2.2.2) x.2.2.2.2.length, old W]) (fun x => cs.length - x.1) (0, none, none, true, [])
      ⟨Nat.zero_le _, rfl, fun _ => rfl, by simp⟩ (le_of _ _ rfl) (fun w hw => hw) ?_
    rintro ⟨k, r3, r4, g, wb⟩ ⟨hk, hg, hwb, hwl⟩
    have hk : k ≤ cs.length := hk
    have hg : g = decide (allGood (cs.take k)) := hg
    have hwb : g = true → wb = encs (cs.take k) := hwb
    have hwl : wb.length ≤ 17 * k := hwl
    (repeat (first | refine el_pure rfl rfl rfl rfl ?_ | refine ej_seq ?_ | refine ej_region ?_ | refine el_nil ?_ | refine eq_seq ?_ | refine eq_calm ?_ | refine ej_true rfl ?_ | refine ej_false rfl ?_ | refine el_skip rfl rfl rfl ?_ | refine ej_ret ?_ | refine ej_skip ?_ | refine ej_exit ?_ | refine ej_block ?_ | refine eq_seq_ret ?_ | refine eq_seq_exit ?_ | refine eq_block ?_ | refine eq_block_exit ?_ | refine eq_block_ret ?_ | refine eq_block_exit_ne rfl ?_ | refine eq_back_ret ?_ | refine eq_back_exit ?_))
    refine ej_dec rfl (fun hlt => ?_) (fun hlt => ?_)
    · have hlt : (k : Int) < cs.length := hlt
      have hlt' : k < cs.length := by omega
      have hx : cs[k]? = some cs[k] := by simp [hlt']
      have hmem := List.getElem_mem hlt'
      generalize cs[k] = x at *
      have hget : ∀ j, j < 4 → (rows Cmd.doc cs)[k * 4 + j]? = x.doc[j]? := fun j hj => rows_get Cmd.doc 4 doc4 cs k j x hx hj
      have hsn : cs.take (k + 1) = cs.take k ++ [x] := take_snoc hx
      have hxOk := hOk x hmem
      have hxo := hxOk.op
      have hs17 := size_le x.op
      have hel := enc_length x
      have hrw : rows Cmd.prog (cs.take (k + 1)) = rows Cmd.prog (cs.take k) ++ x.prog := by rw [hsn, rows_snoc]
      have hgn : decide (allGood (cs.take (k + 1))) = (g && decide x.good) := by
        rw [hg, hsn, allGood_snoc]
      (repeat (first | refine el_pure rfl rfl rfl rfl ?_ | refine ej_seq ?_ | refine ej_region ?_ | refine el_nil ?_ | refine eq_seq ?_ | refine eq_calm ?_ | refine ej_true rfl ?_ | refine ej_false rfl ?_ | refine el_skip rfl rfl rfl ?_ | refine ej_ret ?_ | refine ej_skip ?_ | refine ej_exit ?_ | refine ej_block ?_ | refine eq_seq_ret ?_ | refine eq_seq_exit ?_ | refine eq_block ?_ | refine eq_block_exit ?_ | refine eq_block_ret ?_ | refine eq_block_exit_ne rfl ?_ | refine eq_back_ret ?_ | refine eq_back_exit ?_))
      refine el_cons rfl (eo_idxo rfl rfl rfl rfl rfl rfl rfl rfl rfl hA ⟨by omega, by omega⟩ ?_)
      refine el_cons rfl (eo_ldoA 2 (k * 4) (cs := x.doc) rfl rfl rfl rfl rfl rfl rfl hA rfl hget ?_)
      refine el_cons rfl (eo_alloc rfl rfl rfl rfl fun b6 => ?_)
      refine el_cons rfl (eo_stA 0 rfl rfl rfl rfl rfl rfl rfl rfl rfl ?_)
      (repeat (first | refine el_pure rfl rfl rfl rfl ?_ | refine ej_seq ?_ | refine ej_region ?_ | refine el_nil ?_ | refine eq_seq ?_ | refine eq_calm ?_ | refine ej_true rfl ?_ | refine ej_false rfl ?_ | refine el_skip rfl rfl rfl ?_ | refine ej_ret ?_ | refine ej_skip ?_ | refine ej_exit ?_ | refine ej_block ?_ | refine eq_seq_ret ?_ | refine eq_seq_exit ?_ | refine eq_block ?_ | refine eq_block_exit ?_ | refine eq_block_ret ?_ | refine eq_block_exit_ne rfl ?_ | refine eq_back_ret ?_ | refine eq_back_exit ?_))
      refine el_cons rfl (eo_ldW 0 rfl rfl rfl rfl rfl rfl rfl rfl ?_)
      refine el_cons rfl (eo_call1 rfl rfl rfl rfl rfl real_law22_Real (Real_any x hxo) ?_)
      refine el_cons rfl (eo_buildS (cs := x.prog) rfl rfl rfl rfl rfl rfl rfl rfl rfl rfl fun b7 => ?_)
      refine el_cons rfl (eo_append 2 (r := r3) (xs := rows Cmd.prog (cs.take k)) (n' := k) x.prog rfl rfl rfl rfl rfl rfl rfl rfl rfl rfl rfl (fun w hw j u hu => ?_) rfl (by decide) ?_ ?_ fun r5 => ?_)
      · rw [addr_add, Nat.zero_add]; exact hw.cell (i := 0) rfl hu
      · show (k + 1) * 32 ≤ 140737488355328; omega
      · show k + 1 ≤ 9223372036854775807; omega
      rw [← hrw]
      refine el_imp (H' := S W [cells b6 T_ref22_C x.doc, rowC r5 T_code_Command 4 (rows Cmd.prog (cs.take (k + 1))) (k + 1), rowC r4 T_uint8 1 (u8s wb) wb.length, old W]) (fun w hw => hw.erase 0) ?_
      cases g with
      | false =>
        (repeat (first | refine el_pure rfl rfl rfl rfl ?_ | refine ej_seq ?_ | refine ej_region ?_ | refine el_nil ?_ | refine eq_seq ?_ | refine eq_calm ?_ | refine ej_true rfl ?_ | refine ej_false rfl ?_ | refine el_skip rfl rfl rfl ?_ | refine ej_ret ?_ | refine ej_skip ?_ | refine ej_exit ?_ | refine ej_block ?_ | refine eq_seq_ret ?_ | refine eq_seq_exit ?_ | refine eq_block ?_ | refine eq_block_exit ?_ | refine eq_block_ret ?_ | refine eq_block_exit_ne rfl ?_ | refine eq_back_ret ?_ | refine eq_back_exit ?_ | refine el_cons rfl (eo_lenv rfl rfl rfl rfl rfl rfl ?_) | refine el_cons rfl (eo_arith rfl rfl rfl rfl rfl rfl ⟨by omega, by omega⟩ ?_)))
        refine eq_backP (k + 1, r5, r4, false, wb) ⟨by show k + 1 ≤ _; omega, ?_, (fun h => by cases h), by show wb.length ≤ 17 * (k + 1); omega⟩ (by show _ - (k + 1) < _ - k; omega) (le_of _ _ rfl) fun w hw => hw.erase 0
        show false = decide (allGood (cs.take (k + 1)))
        rw [hgn]; rfl
      | true =>
        obtain rfl := hwb rfl
        (repeat (first | refine el_pure rfl rfl rfl rfl ?_ | refine ej_seq ?_ | refine ej_region ?_ | refine el_nil ?_ | refine eq_seq ?_ | refine eq_calm ?_ | refine ej_true rfl ?_ | refine ej_false rfl ?_ | refine el_skip rfl rfl rfl ?_ | refine ej_ret ?_ | refine ej_skip ?_ | refine ej_exit ?_ | refine ej_block ?_ | refine eq_seq_ret ?_ | refine eq_seq_exit ?_ | refine eq_block ?_ | refine eq_block_exit ?_ | refine eq_block_ret ?_ | refine eq_block_exit_ne rfl ?_ | refine eq_back_ret ?_ | refine eq_back_exit ?_))
        refine el_cons rfl (eo_ldW 0 rfl rfl rfl rfl rfl rfl rfl rfl ?_)
        refine el_cons rfl (eo_call1 rfl rfl rfl rfl rfl real_ref22_Good (GoodR_any x hxo) ?_)
        by_cases hgx : x.good
        · rw [decide_eq_true hgx] at hgn ⊢
          (repeat (first | refine el_pure rfl rfl rfl rfl ?_ | refine ej_seq ?_ | refine ej_region ?_ | refine el_nil ?_ | refine eq_seq ?_ | refine eq_calm ?_ | refine ej_true rfl ?_ | refine ej_false rfl ?_ | refine el_skip rfl rfl rfl ?_ | refine ej_ret ?_ | refine ej_skip ?_ | refine ej_exit ?_ | refine ej_block ?_ | refine eq_seq_ret ?_ | refine eq_seq_exit ?_ | refine eq_block ?_ | refine eq_block_exit ?_ | refine eq_block_ret ?_ | refine eq_block_exit_ne rfl ?_ | refine eq_back_ret ?_ | refine eq_back_exit ?_))
          refine el_cons rfl (eo_ldW 0 rfl rfl rfl rfl rfl rfl rfl rfl ?_)
          refine el_cons rfl (eo_callx rfl rfl rfl rfl rfl real_ref22_Encode (EncodeR_any x hxOk hgx) fun r6 _ => ?_)
          have hen : encs (cs.take (k + 1)) = encs (cs.take k) ++ x.enc := by rw [hsn, encs_snoc]
          generalize encs (cs.take k) = es at *
          refine el_cons rfl (eo_appendV 3 (r := r4) (n' := es.length) (xs := u8s es) (news := u8s x.enc) rfl rfl rfl rfl rfl rfl rfl rfl rfl rfl rfl (View.of_row (i := 0) rfl (by simp [enc_length])) (all_u8s _) (by show (es.length + sizeOfOp x.op) * 1 ≤ _; omega) (by simp only [maxLen]; omega) fun r7 => ?_)
          (repeat (first | refine el_pure rfl rfl rfl rfl ?_ | refine ej_seq ?_ | refine ej_region ?_ | refine el_nil ?_ | refine eq_seq ?_ | refine eq_calm ?_ | refine ej_true rfl ?_ | refine ej_false rfl ?_ | refine el_skip rfl rfl rfl ?_ | refine ej_ret ?_ | refine ej_skip ?_ | refine ej_exit ?_ | refine ej_block ?_ | refine eq_seq_ret ?_ | refine eq_seq_exit ?_ | refine eq_block ?_ | refine eq_block_exit ?_ | refine eq_block_ret ?_ | refine eq_block_exit_ne rfl ?_ | refine eq_back_ret ?_ | refine eq_back_exit ?_ | refine el_cons rfl (eo_lenv rfl rfl rfl rfl rfl rfl ?_) | refine el_cons rfl (eo_arith rfl rfl rfl rfl rfl rfl ⟨by omega, by omega⟩ ?_)))
          have hel2 : (es ++ x.enc).length = es.length + sizeOfOp x.op := by rw [List.length_append, hel]
          refine eq_backP (k + 1, r5, r7, true, es ++ x.enc) ⟨by show k + 1 ≤ _; omega, ?_, fun _ => hen.symm, by show (es ++ x.enc).length ≤ 17 * (k + 1); omega⟩ (by show _ - (k + 1) < _ - k; omega) ?_ ?_
          · show true = decide (allGood (cs.take (k + 1)))
            rw [hgn]; rfl
          · refine le_cons rfl (le_cons rfl (le_cons ?_ (le_of _ _ rfl)))
            show some (sv r7 (es.length + sizeOfOp x.op)) = some (sv r7 (es ++ x.enc).length)
            rw [hel2]
          · intro w hw
            show S W [rowC r5 T_code_Command 4 (rows Cmd.prog (cs.take (k + 1))) (k + 1), rowC r7 T_uint8 1 (u8s (es ++ x.enc)) (es ++ x.enc).length, old W] w
            rw [hel2, u8s, List.map_append]
            exact (hw.erase 0).erase 0
        · rw [decide_eq_false hgx] at hgn ⊢
          (repeat (first | refine el_pure rfl rfl rfl rfl ?_ | refine ej_seq ?_ | refine ej_region ?_ | refine el_nil ?_ | refine eq_seq ?_ | refine eq_calm ?_ | refine ej_true rfl ?_ | refine ej_false rfl ?_ | refine el_skip rfl rfl rfl ?_ | refine ej_ret ?_ | refine ej_skip ?_ | refine ej_exit ?_ | refine ej_block ?_ | refine eq_seq_ret ?_ | refine eq_seq_exit ?_ | refine eq_block ?_ | refine eq_block_exit ?_ | refine eq_block_ret ?_ | refine eq_block_exit_ne rfl ?_ | refine eq_back_ret ?_ | refine eq_back_exit ?_ | refine el_cons rfl (eo_lenv rfl rfl rfl rfl rfl rfl ?_) | refine el_cons rfl (eo_arith rfl rfl rfl rfl rfl rfl ⟨by omega, by omega⟩ ?_)))
          refine eq_backP (k + 1, r5, r4, false, encs (cs.take k)) ⟨by show k + 1 ≤ _; omega, ?_, (fun h => by cases h), by show (encs (cs.take k)).length ≤ 17 * (k + 1); omega⟩ (by show _ - (k + 1) < _ - k; omega) (le_of _ _ rfl) fun w hw => hw.erase 0
          show false = decide (allGood (cs.take (k + 1)))
          rw [hgn]; rfl
    · have hlt : ¬ (k : Int) < cs.length := hlt
      obtain rfl : k = cs.length := by omega
      rw [List.take_length] at hg hwb
      refine ej_imp' (H' := S W [rowC r3 T_code_Command 4 (rows Cmd.prog cs) cs.length, rowC r4 T_uint8 1 (u8s wb) wb.length, old W]) (fun w hw => by
        have hw : S W [rowC r3 T_code_Command 4 (rows Cmd.prog (cs.take cs.length)) cs.length, rowC r4 T_uint8 1 (u8s wb) wb.length, old W] w := hw
        rw [List.take_length] at hw; exact hw) ?_
      (repeat (first | refine el_pure rfl rfl rfl rfl ?_ | refine ej_seq ?_ | refine ej_region ?_ | refine el_nil ?_ | refine eq_seq ?_ | refine eq_calm ?_ | refine ej_true rfl ?_ | refine ej_false rfl ?_ | refine el_skip rfl rfl rfl ?_ | refine ej_ret ?_ | refine ej_skip ?_ | refine ej_exit ?_ | refine ej_block ?_ | refine eq_seq_ret ?_ | refine eq_seq_exit ?_ | refine eq_block ?_ | refine eq_block_exit ?_ | refine eq_block_ret ?_ | refine eq_block_exit_ne rfl ?_ | refine eq_back_ret ?_ | refine eq_back_exit ?_))
      refine el_cons rfl (eo_call2 rfl rfl rfl rfl rfl real_script_Bytes (Bytes_any (i := 0) (r := r3) cs hOk (by omega) rfl) (fun r6 hgood => ?_) (fun _ hbad => ?_))
      · obtain rfl : g = true := by rw [hg]; exact decide_eq_true hgood
        obtain rfl := hwb rfl
        have hes := encs_length cs
        have hst := steps_encs cs fun c hc => ⟨hOk c hc, hgood c hc⟩
        have hblt := encs_lt cs hOk
        have hS := fun (l' : List HP) => Steps_any (w0 := W) (l := rowC r6 T_uint8 1 (u8s (encs cs)) (encs cs).length :: l') (i := 0) (encs cs) hblt (by omega) rfl (View.of_row (i := 0) rfl (by simp))
        have hslen : (steps (encs cs)).length = cs.length := by have := congrArg List.length hst; simpa using this
        have hsk : ∀ (k : Nat) (s : Stp), (steps (encs cs))[k]? = some s → ∃ c, cs[k]? = some c ∧ s.ok = true ∧ s.cmd = c := by
          intro k s h
          have h1 : ((steps (encs cs)).map fun s => (s.ok, s.cmd))[k]? = some (s.ok, s.cmd) := by rw [List.getElem?_map, h]; rfl
          rw [hst, List.getElem?_map] at h1
          cases hc : cs[k]? with
          | none => rw [hc] at h1; simp at h1
          | some c =>
            rw [hc] at h1
            simp only [Option.map_some, Option.some.injEq, Prod.mk.injEq] at h1
            exact ⟨c, rfl, h1.1.symm, h1.2.symm⟩
        generalize steps (encs cs) = ss at *
        generalize encs cs = es at *
        (repeat (first | refine el_pure rfl rfl rfl rfl ?_ | refine ej_seq ?_ | refine ej_region ?_ | refine el_nil ?_ | refine eq_seq ?_ | refine eq_calm ?_ | refine ej_true rfl ?_ | refine ej_false rfl ?_ | refine el_skip rfl rfl rfl ?_ | refine ej_ret ?_ | refine ej_skip ?_ | refine ej_exit ?_ | refine ej_block ?_ | refine eq_seq_ret ?_ | refine eq_seq_exit ?_ | refine eq_block ?_ | refine eq_block_exit ?_ | refine eq_block_ret ?_ | refine eq_block_exit_ne rfl ?_ | refine eq_back_ret ?_ | refine eq_back_exit ?_))
        refine el_cons rfl (eo_callx rfl rfl rfl rfl rfl real_script_Steps (hS _) fun r7 _ => ?_)
        (repeat (first | refine el_pure rfl rfl rfl rfl ?_ | refine ej_seq ?_ | refine ej_region ?_ | refine el_nil ?_ | refine eq_seq ?_ | refine eq_calm ?_ | refine ej_true rfl ?_ | refine ej_false rfl ?_ | refine el_skip rfl rfl rfl ?_ | refine ej_ret ?_ | refine ej_skip ?_ | refine ej_exit ?_ | refine ej_block ?_ | refine eq_seq_ret ?_ | refine eq_seq_exit ?_ | refine eq_block ?_ | refine eq_block_exit ?_ | refine eq_block_ret ?_ | refine eq_block_exit_ne rfl ?_ | refine eq_back_ret ?_ | refine eq_back_exit ?_))
        refine el_cons rfl (eo_bstr 1 (r := r6) (bs := es) rfl rfl rfl rfl rfl rfl rfl rfl rfl rfl rfl ?_)
        (repeat (first | refine el_pure rfl rfl rfl rfl ?_ | refine ej_seq ?_ | refine ej_region ?_ | refine el_nil ?_ | refine eq_seq ?_ | refine eq_calm ?_ | refine ej_true rfl ?_ | refine ej_false rfl ?_ | refine el_skip rfl rfl rfl ?_ | refine ej_ret ?_ | refine ej_skip ?_ | refine ej_exit ?_ | refine ej_block ?_ | refine eq_seq_ret ?_ | refine eq_seq_exit ?_ | refine eq_block ?_ | refine eq_block_exit ?_ | refine eq_block_ret ?_ | refine eq_block_exit_ne rfl ?_ | refine eq_back_ret ?_ | refine eq_back_exit ?_))
        refine el_cons rfl (eo_bstr 3 (r := r4) (bs := es) rfl rfl rfl rfl rfl rfl rfl rfl rfl rfl rfl ?_)
        (repeat (first | refine el_pure rfl rfl rfl rfl ?_ | refine ej_seq ?_ | refine ej_region ?_ | refine el_nil ?_ | refine eq_seq ?_ | refine eq_calm ?_ | refine ej_true rfl ?_ | refine ej_false rfl ?_ | refine el_skip rfl rfl rfl ?_ | refine ej_ret ?_ | refine ej_skip ?_ | refine ej_exit ?_ | refine ej_block ?_ | refine eq_seq_ret ?_ | refine eq_seq_exit ?_ | refine eq_block ?_ | refine eq_block_exit ?_ | refine eq_block_ret ?_ | refine eq_block_exit_ne rfl ?_ | refine eq_back_ret ?_ | refine eq_back_exit ?_))
        refine el_val 68 (u := .bool false) rfl (by simp) ?_
        (repeat (first | refine el_pure rfl rfl rfl rfl ?_ | refine ej_seq ?_ | refine ej_region ?_ | refine el_nil ?_ | refine eq_seq ?_ | refine eq_calm ?_ | refine ej_true rfl ?_ | refine ej_false rfl ?_ | refine el_skip rfl rfl rfl ?_ | refine ej_ret ?_ | refine ej_skip ?_ | refine ej_exit ?_ | refine ej_block ?_ | refine eq_seq_ret ?_ | refine eq_seq_exit ?_ | refine eq_block ?_ | refine eq_block_exit ?_ | refine eq_block_ret ?_ | refine eq_block_exit_ne rfl ?_ | refine eq_back_ret ?_ | refine eq_back_exit ?_ | refine el_cons rfl (eo_lenv rfl rfl rfl rfl rfl rfl ?_) | refine el_cons rfl (eo_arith rfl rfl rfl rfl rfl rfl ⟨by omega, by omega⟩ ?_)))
        refine ej_dec rfl (fun h => ?_) (fun _ => ?_)
        · have h : ¬ (ss.length : Int) = cs.length := h
          omega
        (repeat (first | refine el_pure rfl rfl rfl rfl ?_ | refine ej_seq ?_ | refine ej_region ?_ | refine el_nil ?_ | refine eq_seq ?_ | refine eq_calm ?_ | refine ej_true rfl ?_ | refine ej_false rfl ?_ | refine el_skip rfl rfl rfl ?_ | refine ej_ret ?_ | refine ej_skip ?_ | refine ej_exit ?_ | refine ej_block ?_ | refine eq_seq_ret ?_ | refine eq_seq_exit ?_ | refine eq_block ?_ | refine eq_block_exit ?_ | refine eq_block_ret ?_ | refine eq_block_exit_ne rfl ?_ | refine eq_back_ret ?_ | refine eq_back_exit ?_ | refine el_cons rfl (eo_lenv rfl rfl rfl rfl rfl rfl ?_) | refine el_cons rfl (eo_arith rfl rfl rfl rfl rfl rfl ⟨by omega, by omega⟩ ?_)))
        refine ej_loopP (fun k : Nat => k ≤ ss.length) (fun k => [(3, sv r3 cs.length), (75, sv r7 ss.length), (76, int ss.length), (77, int k)]) (fun _ => S W [rowC r7 T_script_Step 9 (rows Stp.prog ss) ss.length, rowC r6 T_uint8 1 (u8s es) es.length, rowC r3 T_code_Command 4 (rows Cmd.prog cs) cs.length, rowC r4 T_uint8 1 (u8s es) es.length, old W]) (fun k => ss.length - k) 0 (Nat.zero_le _) (le_of _ _ rfl) (fun w hw => hw) ?_
        intro k hk
        (repeat (first | refine el_pure rfl rfl rfl rfl ?_ | refine ej_seq ?_ | refine ej_region ?_ | refine el_nil ?_ | refine eq_seq ?_ | refine eq_calm ?_ | refine ej_true rfl ?_ | refine ej_false rfl ?_ | refine el_skip rfl rfl rfl ?_ | refine ej_ret ?_ | refine ej_skip ?_ | refine ej_exit ?_ | refine ej_block ?_ | refine eq_seq_ret ?_ | refine eq_seq_exit ?_ | refine eq_block ?_ | refine eq_block_exit ?_ | refine eq_block_ret ?_ | refine eq_block_exit_ne rfl ?_ | refine eq_back_ret ?_ | refine eq_back_exit ?_))
        refine ej_dec rfl (fun hlt => ?_) (fun hlt => ?_)
        · have hlt' : k < ss.length := by omega
          have hx : ss[k]? = some ss[k] := by simp [hlt']
          obtain ⟨x, hcx, hsok, hsc⟩ := hsk k _ hx
          generalize ss[k] = s at *
          have hg1 : ∀ j, j < 9 → (rows Stp.prog ss)[k * 9 + j]? = s.prog[j]? := fun j hj => rows_get Stp.prog 9 prog9 ss k j s hx hj
          have hg2 : ∀ j, j < 4 → (rows Cmd.prog cs)[k * 4 + j]? = x.prog[j]? := fun j hj => rows_get Cmd.prog 4 prog4 cs k j x hcx hj
          obtain ⟨p, size, ok, cmd⟩ := s
          obtain rfl : ok = true := hsok
          obtain rfl : cmd = x := hsc
          (repeat (first | refine el_pure rfl rfl rfl rfl ?_ | refine ej_seq ?_ | refine ej_region ?_ | refine el_nil ?_ | refine eq_seq ?_ | refine eq_calm ?_ | refine ej_true rfl ?_ | refine ej_false rfl ?_ | refine el_skip rfl rfl rfl ?_ | refine ej_ret ?_ | refine ej_skip ?_ | refine ej_exit ?_ | refine ej_block ?_ | refine eq_seq_ret ?_ | refine eq_seq_exit ?_ | refine eq_block ?_ | refine eq_block_exit ?_ | refine eq_block_ret ?_ | refine eq_block_exit_ne rfl ?_ | refine eq_back_ret ?_ | refine eq_back_exit ?_))
          refine el_cons rfl (eo_idxr 0 rfl rfl rfl rfl rfl rfl rfl rfl rfl ⟨by omega, by omega⟩ ?_)
          refine el_cons rfl (eo_ldrA 0 (cs := Stp.prog ⟨p, size, true, cmd⟩) rfl rfl rfl rfl rfl rfl rfl rfl hg1 ?_)
          refine el_cons rfl (eo_alloc rfl rfl rfl rfl fun b12 => ?_)
          (repeat (first | refine el_pure rfl rfl rfl rfl ?_ | refine ej_seq ?_ | refine ej_region ?_ | refine el_nil ?_ | refine eq_seq ?_ | refine eq_calm ?_ | refine ej_true rfl ?_ | refine ej_false rfl ?_ | refine el_skip rfl rfl rfl ?_ | refine ej_ret ?_ | refine ej_skip ?_ | refine ej_exit ?_ | refine ej_block ?_ | refine eq_seq_ret ?_ | refine eq_seq_exit ?_ | refine eq_block ?_ | refine eq_block_exit ?_ | refine eq_block_ret ?_ | refine eq_block_exit_ne rfl ?_ | refine eq_back_ret ?_ | refine eq_back_exit ?_))
          refine el_cons rfl (eo_stA 0 rfl rfl rfl rfl rfl rfl rfl rfl rfl ?_)
          (repeat (first | refine el_pure rfl rfl rfl rfl ?_ | refine ej_seq ?_ | refine ej_region ?_ | refine el_nil ?_ | refine eq_seq ?_ | refine eq_calm ?_ | refine ej_true rfl ?_ | refine ej_false rfl ?_ | refine el_skip rfl rfl rfl ?_ | refine ej_ret ?_ | refine ej_skip ?_ | refine ej_exit ?_ | refine ej_block ?_ | refine eq_seq_ret ?_ | refine eq_seq_exit ?_ | refine eq_block ?_ | refine eq_block_exit ?_ | refine eq_block_ret ?_ | refine eq_block_exit_ne rfl ?_ | refine eq_back_ret ?_ | refine eq_back_exit ?_))
          refine ej_know (fun w hw => S.row_some hw (i := 3) rfl (by omega)) fun hr => ?_
          obtain ⟨⟨q, qc⟩, rfl⟩ := hr
          refine ej_held [cells b12 T_script_Step (Stp.prog ⟨p, size, true, cmd⟩), rowC (some (q, qc)) T_code_Command 4 (rows Cmd.prog cs) cs.length] ?_
          refine eh_take 0 (held (.cons 0 rfl (.cons 3 rfl .nil))) rfl (by kernel_rfl) (by kernel_rfl) (by kernel_rfl) rfl rfl rfl rfl ?_
          refine eh_load 1 (held (.cons 0 rfl (.cons 3 rfl .nil))) rfl (by kernel_rfl) (by kernel_rfl) (by kernel_rfl) rfl rfl rfl (er_ld 0 rfl rfl rfl rfl rfl rfl) ?_
          refine eh_take 2 (held (.cons 0 rfl (.cons 3 rfl .nil))) rfl (by kernel_rfl) (by kernel_rfl) (by kernel_rfl) rfl rfl rfl rfl ?_
          refine eh_take 3 (held (.cons 0 rfl (.cons 3 rfl .nil))) rfl (by kernel_rfl) (by kernel_rfl) (by kernel_rfl) rfl rfl rfl rfl ?_
          refine eh_load 4 (held (.cons 0 rfl (.cons 3 rfl .nil))) rfl (by kernel_rfl) (by kernel_rfl) (by kernel_rfl) rfl rfl rfl (er_ldA 0 rfl rfl rfl rfl rfl (Nat.le_of_ble_eq_true rfl)) ?_
          refine eh_take 5 (held (.cons 0 rfl (.cons 3 rfl .nil))) rfl (by kernel_rfl) (by kernel_rfl) (by kernel_rfl) rfl rfl rfl rfl ?_
          refine eh_take 6 (held (.cons 0 rfl (.cons 3 rfl .nil))) rfl (by kernel_rfl) (by kernel_rfl) (by kernel_rfl) rfl rfl rfl rfl ?_
          refine eh_load 7 (held (.cons 0 rfl (.cons 3 rfl .nil))) rfl (by kernel_rfl) (by kernel_rfl) (by kernel_rfl) rfl rfl rfl (er_idxv rfl rfl rfl rfl rfl rfl rfl ⟨by omega, by omega⟩) ?_
          refine eh_load 8 (held (.cons 0 rfl (.cons 3 rfl .nil))) rfl (by kernel_rfl) (by kernel_rfl) (by kernel_rfl) rfl rfl rfl (er_ldrA 1 (cs := cmd.prog) rfl rfl rfl rfl rfl rfl (by simpa [ob, oo, blk] using hg2)) ?_
          refine eh_load 9 (held (.cons 0 rfl (.cons 3 rfl .nil))) rfl (by kernel_rfl) (by kernel_rfl) (by kernel_rfl) rfl rfl rfl (er_eqA rfl (.inr rfl) rfl rfl guard_C (same_C cmd)) ?_
          refine eh_take 10 (held (.cons 0 rfl (.cons 3 rfl .nil))) rfl (by kernel_rfl) (by kernel_rfl) (by kernel_rfl) rfl rfl rfl rfl ?_
          refine eh_done (by kernel_rfl) ?_
          (repeat (first | refine el_pure rfl rfl rfl rfl ?_ | refine ej_seq ?_ | refine ej_region ?_ | refine el_nil ?_ | refine eq_seq ?_ | refine eq_calm ?_ | refine ej_true rfl ?_ | refine ej_false rfl ?_ | refine el_skip rfl rfl rfl ?_ | refine ej_ret ?_ | refine ej_skip ?_ | refine ej_exit ?_ | refine ej_block ?_ | refine eq_seq_ret ?_ | refine eq_seq_exit ?_ | refine eq_block ?_ | refine eq_block_exit ?_ | refine eq_block_ret ?_ | refine eq_block_exit_ne rfl ?_ | refine eq_back_ret ?_ | refine eq_back_exit ?_ | refine el_cons rfl (eo_lenv rfl rfl rfl rfl rfl rfl ?_) | refine el_cons rfl (eo_arith rfl rfl rfl rfl rfl rfl ⟨by omega, by omega⟩ ?_)))
          refine eq_backP (k + 1) (by omega) (by omega) (le_of _ _ rfl) ?_
          intro w hw; exact hw.erase 0
        · (repeat (first | refine el_pure rfl rfl rfl rfl ?_ | refine ej_seq ?_ | refine ej_region ?_ | refine el_nil ?_ | refine eq_seq ?_ | refine eq_calm ?_ | refine ej_true rfl ?_ | refine ej_false rfl ?_ | refine el_skip rfl rfl rfl ?_ | refine ej_ret ?_ | refine ej_skip ?_ | refine ej_exit ?_ | refine ej_block ?_ | refine eq_seq_ret ?_ | refine eq_seq_exit ?_ | refine eq_block ?_ | refine eq_block_exit ?_ | refine eq_block_ret ?_ | refine eq_block_exit_ne rfl ?_ | refine eq_back_ret ?_ | refine eq_back_exit ?_))
          exact eq_rett rfl fun w hw => ⟨rfl, hw.drop 4⟩
      · obtain rfl : g = false := by rw [hg]; exact decide_eq_false hbad
        (repeat (first | refine el_pure rfl rfl rfl rfl ?_ | refine ej_seq ?_ | refine ej_region ?_ | refine el_nil ?_ | refine eq_seq ?_ | refine eq_calm ?_ | refine ej_true rfl ?_ | refine ej_false rfl ?_ | refine el_skip rfl rfl rfl ?_ | refine ej_ret ?_ | refine ej_skip ?_ | refine ej_exit ?_ | refine ej_block ?_ | refine eq_seq_ret ?_ | refine eq_seq_exit ?_ | refine eq_block ?_ | refine eq_block_exit ?_ | refine eq_block_ret ?_ | refine eq_block_exit_ne rfl ?_ | refine eq_back_ret ?_ | refine eq_back_exit ?_ | refine el_cons rfl (eo_lenv rfl rfl rfl rfl rfl rfl ?_) | refine el_cons rfl (eo_arith rfl rfl rfl rfl rfl rfl ⟨by omega, by omega⟩ ?_)))
        exact eq_rett rfl fun w hw => ⟨rfl, hw.drop 2⟩
  · rw [decide_eq_false hf]
    (repeat (first | refine el_pure rfl rfl rfl rfl ?_ | refine ej_seq ?_ | refine ej_region ?_ | refine el_nil ?_ | refine eq_seq ?_ | refine eq_calm ?_ | refine ej_true rfl ?_ | refine ej_false rfl ?_ | refine el_skip rfl rfl rfl ?_ | refine ej_ret ?_ | refine ej_skip ?_ | refine ej_exit ?_ | refine ej_block ?_ | refine eq_seq_ret ?_ | refine eq_seq_exit ?_ | refine eq_block ?_ | refine eq_block_exit ?_ | refine eq_block_ret ?_ | refine eq_block_exit_ne rfl ?_ | refine eq_back_ret ?_ | refine eq_back_exit ?_))
    refine el_cons rfl (eo_call1 rfl rfl rfl rfl rfl real_law24_awake awake_any ?_)
    (repeat (first | refine el_pure rfl rfl rfl rfl ?_ | refine ej_seq ?_ | refine ej_region ?_ | refine el_nil ?_ | refine eq_seq ?_ | refine eq_calm ?_ | refine ej_true rfl ?_ | refine ej_false rfl ?_ | refine el_skip rfl rfl rfl ?_ | refine ej_ret ?_ | refine ej_skip ?_ | refine ej_exit ?_ | refine ej_block ?_ | refine eq_seq_ret ?_ | refine eq_seq_exit ?_ | refine eq_block ?_ | refine eq_block_exit ?_ | refine eq_block_ret ?_ | refine eq_block_exit_ne rfl ?_ | refine eq_back_ret ?_ | refine eq_back_exit ?_))
    exact eq_rett rfl fun w hw => ⟨rfl, hw⟩

end Go.Proofs.Ythmmibjhhifmeaa
