/- The ports' laws: sets. -/
import Derived.Test.YtncdmccdclhokaaDoorKP10
namespace Go.Proofs.YtncdmccdclhokaaDoor
open Go.Sl Go.Xg
set_option linter.unusedVariables false
set_option linter.unusedSimpArgs false
set_option maxHeartbeats 4000000
set_option maxRecDepth 100000
variable {te : TypeId}

theorem wfR {σ : Po} (h : σ.Wf) {n : Nat} (hn : n ≤ 4) : ({ σ with requests := askI σ.requests (n : Nat) } : Po).Wf :=
  ⟨h.buttons, h.rows, h.shift, h.line, h.counter, h.timer, h.again, h.control, askI_bd h.requests n (by omega), h.alarm, h.transfer, h.sending⟩
theorem wfT {σ : Po} (h : σ.Wf) (n : Int) : ({ σ with requests := takeI σ.requests n } : Po).Wf :=
  ⟨h.buttons, h.rows, h.shift, h.line, h.counter, h.timer, h.again, h.control, takeI_bd h.requests n, h.alarm, h.transfer, h.sending⟩
theorem wr7 {σ : Po} (h : σ.Wf) {v : Int} (hv : 0 ≤ v ∧ v ≤ 255) : (wrI 7 σ v).Wf := wrI_wf h 7 hv
theorem wr7r {σ : Po} (h : σ.Wf) {v : Int} (hv : 0 ≤ v ∧ v ≤ 255) : 0 ≤ (wrI 7 σ v).requests ∧ (wrI 7 σ v).requests ≤ 31 := (wr7 h hv).requests

theorem ask_eq {r : Int} (hr : 0 ≤ r ∧ r ≤ 31) {k : Nat} (hk : k < 5) : askI r (k : Nat) = bor .i64 r (IntKind.i64.wrap (1 * 2 ^ min ((k : Nat) : Int).toNat IntKind.i64.bits)) := by
  obtain ⟨r, rfl⟩ := nat_of hr.1
  have : ∀ r : Fin 32, ∀ k : Fin 5, askI (r.val : Nat) (k.val : Nat) = bor .i64 (r.val : Nat) (IntKind.i64.wrap (1 * 2 ^ min ((k.val : Nat) : Int).toNat IntKind.i64.bits)) := by decide +kernel
  exact this ⟨r, by omega⟩ ⟨k, hk⟩
theorem take_eq {r : Int} (hr : 0 ≤ r ∧ r ≤ 31) {k : Nat} (hk : k < 5) : takeI r (k : Nat) = bclr .i64 r (IntKind.i64.wrap (1 * 2 ^ min ((k : Nat) : Int).toNat IntKind.i64.bits)) := by
  obtain ⟨r, rfl⟩ := nat_of hr.1
  have : ∀ r : Fin 32, ∀ k : Fin 5, takeI (r.val : Nat) (k.val : Nat) = bclr .i64 (r.val : Nat) (IntKind.i64.wrap (1 * 2 ^ min ((k.val : Nat) : Int).toNat IntKind.i64.bits)) := by decide +kernel
  exact this ⟨r, by omega⟩ ⟨k, hk⟩
theorem rd7 {σ : Po} (h : 0 ≤ σ.requests ∧ σ.requests ≤ 31) : rdI 7 σ = 224 + σ.requests := by
  obtain ⟨r, hr⟩ := nat_of h.1
  show bor .u8 224 σ.requests = _
  rw [hr] at h ⊢
  have : ∀ r : Fin 32, bor .u8 224 (r.val : Nat) = 224 + (r.val : Nat) := by decide +kernel
  exact this ⟨r, by omega⟩
theorem w7 {σ : Po} {v : Nat} (hv : v < 256) : (wrI 7 σ (v : Nat)).requests = (v : Nat) % 32 := by
  show band .u8 (v : Nat) 31 = _
  have : ∀ r : Fin 256, band .u8 (r.val : Nat) 31 = ((r.val : Nat) : Int) % 32 := by decide +kernel
  exact this ⟨v, hv⟩

set_option maxHeartbeats 0 in
theorem sets_d (A : HP) (la : Option Addr) (n lc : Nat) (l : List Act) (hn : l.length = n) (hn2 : n ≤ maxLen) (hr : Reads A 3 (.slice la n lc) n (recs actC l)) (hl : ∀ i, i < n → (l.getD i default).ok)
    (lb : Option Addr) (nb lcb : Nat) (l2 : List Act) (hnb : l2.length = nb) (hnb2 : nb ≤ maxLen) (hrb : Reads A 3 (.slice lb nb lcb) nb (recs actC l2)) (hlb : ∀ i, i < nb → (l2.getD i default).ok) :
    Does Tryd.prog 8 [.slice la n lc, .slice lb nb lcb] [(Drv te), A] (Ret (.bool true) [(Drv te), A]) := by
  have hm := made_e (te := te) A la n lc l hn hn2 hr hl
  unfold maxLen at hnb2
  (focus
    refine Xg.spec_of Go.Proofs.Tryd.func8 rfl Go.Proofs.Tryd.ntmps8 fun g F => ?_)
  (focus
    refine Xg.at_seq ?_
    refine Xg.at_region ?_
    refine Xg.ops_op (by kernel_rfl) (Xg.opx_pure ((Value.bool false)) rfl (fun _ => by kernel_rfl) ?_)
    refine Xg.ops_nil ?_
    refine Xg.at_seq ?_
    refine Xg.at_region ?_
    refine Xg.ops_op (by kernel_rfl) (Xg.opx_pure ((Value.slice la n lc)) rfl (fun _ => by kernel_rfl) ?_)
    refine Xg.ops_op (by kernel_rfl) (Xg.opx_callE' [0, 1] (fun xx1 => [PoS xx1.fst xx1.snd.fst xx1.snd.snd.fst xx1.snd.snd.snd.fst xx1.snd.snd.snd.snd, bts xx1.snd.snd.fst xx1.snd.snd.snd.fst xx1.snd.snd.snd.snd, Drv te, A]) (fun _ => by kernel_rfl) (@hm ) (by kernel_rfl) (by kernel_rfl) (by kernel_rfl) fun xx1 xh1 => ?_)
    try dsimp only at xh1
    obtain ⟨xh1_0, xh1_1, xh1_2⟩ := xh1
    refine Xg.ops_op (by kernel_rfl) (Xg.opx_pure ((Value.pointer (some (Addr.mk xx1.fst (0 : Nat) none)))) rfl (fun _ => by kernel_rfl) ?_)
    refine Xg.ops_nil ?_
    refine Xg.at_seq ?_
    refine Xg.at_seq ?_
    refine Xg.at_region ?_
    refine Xg.ops_op (by kernel_rfl) (Xg.opx_pure ((Value.pointer (some (Addr.mk xx1.fst (0 : Nat) none)))) rfl (fun _ => by kernel_rfl) ?_)
    refine Xg.ops_op (by kernel_rfl) (Xg.opx_pure ((Value.bool false)) rfl (fun _ => by kernel_rfl) ?_)
    refine Xg.ops_nil ?_
    refine Xg.at_false (t := false) (by kernel_rfl) rfl ?_
    refine Xg.at_skip ?_
    refine Xg.at_seq ?_
    refine Xg.at_region ?_
    refine Xg.ops_op (by kernel_rfl) (Xg.opx_pure ((Value.pointer (some (Addr.mk xx1.fst (0 : Nat) none)))) rfl (fun _ => by kernel_rfl) ?_))
  have hreq := xh1_1.requests
  (focus
    refine Xg.ops_op (by kernel_rfl) (Xg.opx_call1' [0] [PoR xx1.fst xx1.snd.fst (Value.slice xx1.snd.snd.fst xx1.snd.snd.snd.snd.length xx1.snd.snd.snd.fst), bts xx1.snd.snd.fst xx1.snd.snd.snd.fst xx1.snd.snd.snd.snd, Drv te, A] (fun _ => by kernel_rfl) (@Go.Proofs.YtncdmccdclhokaaDoor.requests_d (xx1.fst) (xx1.snd.fst) ((Value.slice xx1.snd.snd.fst xx1.snd.snd.snd.snd.length xx1.snd.snd.snd.fst)) (by omega)) (by kernel_rfl) (by kernel_rfl) (by kernel_rfl) ?_)
    refine Xg.ops_op (by kernel_rfl) (Xg.opx_pure ((Value.int IntKind.i64 xx1.snd.fst.requests)) rfl (fun _ => by kernel_rfl) ?_)
    refine Xg.ops_nil ?_
    refine Xg.at_seq ?_
    refine Xg.at_seq ?_
    refine Xg.at_region ?_
    refine Xg.ops_op (by kernel_rfl) (Xg.opx_pure ((Value.int IntKind.i64 (0 : Int))) rfl (fun _ => by kernel_rfl) ?_)
    refine Xg.ops_nil ?_
    refine Xg.at_block ?_)
  (focus
    refine Xg.at_rounds_inv (α := (Nat × Po) × (Nat → Value)) (fun x => (fun x => x.1 ≤ min nb 100 ∧ x.2.Wf) x.1) (fun x => (fun x => nb - x.1) x.1) (fun x => Xg.headT [Value.slice la n lc, Value.slice lb nb lcb, Value.tuple #[], Value.tuple #[], Value.bool false, Value.pointer (some (Addr.mk xx1.fst (0 : Nat) none)), Value.int IntKind.i64 xx1.snd.fst.requests, Value.int IntKind.i64 (0 : Int), Value.tuple #[], Value.tuple #[], Value.tuple #[], Value.tuple #[], Value.slice la n lc, Value.pointer (some (Addr.mk xx1.fst (0 : Nat) none)), Value.pointer (some (Addr.mk xx1.fst (0 : Nat) none)), Value.bool false, Value.pointer (some (Addr.mk xx1.fst (0 : Nat) none)), Value.int IntKind.i64 xx1.snd.fst.requests, Value.tuple #[], Value.tuple #[], Value.tuple #[], Value.tuple #[], Value.tuple #[], Value.tuple #[], Value.tuple #[], Value.tuple #[], Value.tuple #[], Value.tuple #[], Value.tuple #[], Value.tuple #[], Value.tuple #[], Value.tuple #[], Value.tuple #[], Value.tuple #[], Value.tuple #[], Value.tuple #[], Value.tuple #[], Value.tuple #[], Value.tuple #[], Value.tuple #[], Value.tuple #[], Value.tuple #[], Value.tuple #[], Value.tuple #[], Value.tuple #[], Value.tuple #[], Value.tuple #[], Value.tuple #[], Value.tuple #[], Value.tuple #[], Value.tuple #[], Value.tuple #[], Value.tuple #[], Value.tuple #[], Value.tuple #[], Value.tuple #[], Value.tuple #[], Value.tuple #[], Value.tuple #[], Value.tuple #[], Value.tuple #[], Value.tuple #[], Value.tuple #[], Value.tuple #[], Value.tuple #[], Value.tuple #[], Value.tuple #[], Value.tuple #[], Value.tuple #[], Value.tuple #[], Value.tuple #[], Value.tuple #[], Value.tuple #[], Value.tuple #[], Value.tuple #[], Value.tuple #[], Value.tuple #[], Value.tuple #[], Value.tuple #[], Value.tuple #[], Value.tuple #[], Value.tuple #[], Value.tuple #[], Value.tuple #[], Value.tuple #[], Value.tuple #[], Value.tuple #[], Value.tuple #[], Value.tuple #[], Value.tuple #[], Value.tuple #[], Value.tuple #[], Value.tuple #[], Value.tuple #[], Value.tuple #[], Value.tuple #[]] [4, 8, 9, 10, 11, 18, 19, 20, 21, 22, 23, 24, 25, 26, 27, 28, 29, 30, 31, 32, 33, 34, 35, 36, 37, 38, 39, 40, 41, 42, 43, 44, 45, 46, 47, 48, 49, 50, 51, 52, 53, 54, 55, 56, 57, 58, 59, 60, 61, 62, 63, 64, 65, 66, 67, 68, 69, 70, 71, 72, 73, 74, 75, 76, 77, 78, 79, 80, 81, 82, 83, 84, 85, 86, 87, 88, 89, 90, 91, 92, 93, 94, 95] ((fun x => [(6, .int .i64 x.2.requests), (7, .int .i64 (x.1 : Nat))]) x.1) x.2) (fun x => (fun x => [PoS xx1.1 x.2 xx1.2.2.1 xx1.2.2.2.1 xx1.2.2.2.2, bts xx1.2.2.1 xx1.2.2.2.1 xx1.2.2.2.2, (Drv te), A]) x.1) (((0, xx1.2.1)), fun j => ([Value.slice la n lc, Value.slice lb nb lcb, Value.tuple #[], Value.tuple #[], Value.bool false, Value.pointer (some (Addr.mk xx1.fst (0 : Nat) none)), Value.int IntKind.i64 xx1.snd.fst.requests, Value.int IntKind.i64 (0 : Int), Value.tuple #[], Value.tuple #[], Value.tuple #[], Value.tuple #[], Value.slice la n lc, Value.pointer (some (Addr.mk xx1.fst (0 : Nat) none)), Value.pointer (some (Addr.mk xx1.fst (0 : Nat) none)), Value.bool false, Value.pointer (some (Addr.mk xx1.fst (0 : Nat) none)), Value.int IntKind.i64 xx1.snd.fst.requests, Value.tuple #[], Value.tuple #[], Value.tuple #[], Value.tuple #[], Value.tuple #[], Value.tuple #[], Value.tuple #[], Value.tuple #[], Value.tuple #[], Value.tuple #[], Value.tuple #[], Value.tuple #[], Value.tuple #[], Value.tuple #[], Value.tuple #[], Value.tuple #[], Value.tuple #[], Value.tuple #[], Value.tuple #[], Value.tuple #[], Value.tuple #[], Value.tuple #[], Value.tuple #[], Value.tuple #[], Value.tuple #[], Value.tuple #[], Value.tuple #[], Value.tuple #[], Value.tuple #[], Value.tuple #[], Value.tuple #[], Value.tuple #[], Value.tuple #[], Value.tuple #[], Value.tuple #[], Value.tuple #[], Value.tuple #[], Value.tuple #[], Value.tuple #[], Value.tuple #[], Value.tuple #[], Value.tuple #[], Value.tuple #[], Value.tuple #[], Value.tuple #[], Value.tuple #[], Value.tuple #[], Value.tuple #[], Value.tuple #[], Value.tuple #[], Value.tuple #[], Value.tuple #[], Value.tuple #[], Value.tuple #[], Value.tuple #[], Value.tuple #[], Value.tuple #[], Value.tuple #[], Value.tuple #[], Value.tuple #[], Value.tuple #[], Value.tuple #[], Value.tuple #[], Value.tuple #[], Value.tuple #[], Value.tuple #[], Value.tuple #[], Value.tuple #[], Value.tuple #[], Value.tuple #[], Value.tuple #[], Value.tuple #[], Value.tuple #[], Value.tuple #[], Value.tuple #[], Value.tuple #[], Value.tuple #[], Value.tuple #[]] : List Value).getD j undef) (by kernel_rfl) (by kernel_rfl) ?_ ?_)
  · exact ⟨Nat.zero_le _, xh1_1⟩
  rintro ⟨⟨i, σ⟩, J⟩ ⟨hi, hw⟩ ih
  dsimp only at hi hw
  (focus
    refine Xg.At.same (T' := [Value.slice la n lc, Value.slice lb nb lcb, Value.tuple #[], Value.tuple #[], ((i, σ), J).snd (4 : Nat), Value.pointer (some (Addr.mk xx1.fst (0 : Nat) none)), Value.int IntKind.i64 σ.requests, Value.int IntKind.i64 (↑i : Int), ((i, σ), J).snd (8 : Nat), ((i, σ), J).snd (9 : Nat), ((i, σ), J).snd (10 : Nat), ((i, σ), J).snd (11 : Nat), Value.slice la n lc, Value.pointer (some (Addr.mk xx1.fst (0 : Nat) none)), Value.pointer (some (Addr.mk xx1.fst (0 : Nat) none)), Value.bool false, Value.pointer (some (Addr.mk xx1.fst (0 : Nat) none)), Value.int IntKind.i64 xx1.snd.fst.requests, ((i, σ), J).snd (18 : Nat), ((i, σ), J).snd (19 : Nat), ((i, σ), J).snd (20 : Nat), ((i, σ), J).snd (21 : Nat), ((i, σ), J).snd (22 : Nat), ((i, σ), J).snd (23 : Nat), ((i, σ), J).snd (24 : Nat), ((i, σ), J).snd (25 : Nat), ((i, σ), J).snd (26 : Nat), ((i, σ), J).snd (27 : Nat), ((i, σ), J).snd (28 : Nat), ((i, σ), J).snd (29 : Nat), ((i, σ), J).snd (30 : Nat), ((i, σ), J).snd (31 : Nat), ((i, σ), J).snd (32 : Nat), ((i, σ), J).snd (33 : Nat), ((i, σ), J).snd (34 : Nat), ((i, σ), J).snd (35 : Nat), ((i, σ), J).snd (36 : Nat), ((i, σ), J).snd (37 : Nat), ((i, σ), J).snd (38 : Nat), ((i, σ), J).snd (39 : Nat), ((i, σ), J).snd (40 : Nat), ((i, σ), J).snd (41 : Nat), ((i, σ), J).snd (42 : Nat), ((i, σ), J).snd (43 : Nat), ((i, σ), J).snd (44 : Nat), ((i, σ), J).snd (45 : Nat), ((i, σ), J).snd (46 : Nat), ((i, σ), J).snd (47 : Nat), ((i, σ), J).snd (48 : Nat), ((i, σ), J).snd (49 : Nat), ((i, σ), J).snd (50 : Nat), ((i, σ), J).snd (51 : Nat), ((i, σ), J).snd (52 : Nat), ((i, σ), J).snd (53 : Nat), ((i, σ), J).snd (54 : Nat), ((i, σ), J).snd (55 : Nat), ((i, σ), J).snd (56 : Nat), ((i, σ), J).snd (57 : Nat), ((i, σ), J).snd (58 : Nat), ((i, σ), J).snd (59 : Nat), ((i, σ), J).snd (60 : Nat), ((i, σ), J).snd (61 : Nat), ((i, σ), J).snd (62 : Nat), ((i, σ), J).snd (63 : Nat), ((i, σ), J).snd (64 : Nat), ((i, σ), J).snd (65 : Nat), ((i, σ), J).snd (66 : Nat), ((i, σ), J).snd (67 : Nat), ((i, σ), J).snd (68 : Nat), ((i, σ), J).snd (69 : Nat), ((i, σ), J).snd (70 : Nat), ((i, σ), J).snd (71 : Nat), ((i, σ), J).snd (72 : Nat), ((i, σ), J).snd (73 : Nat), ((i, σ), J).snd (74 : Nat), ((i, σ), J).snd (75 : Nat), ((i, σ), J).snd (76 : Nat), ((i, σ), J).snd (77 : Nat), ((i, σ), J).snd (78 : Nat), ((i, σ), J).snd (79 : Nat), ((i, σ), J).snd (80 : Nat), ((i, σ), J).snd (81 : Nat), ((i, σ), J).snd (82 : Nat), ((i, σ), J).snd (83 : Nat), ((i, σ), J).snd (84 : Nat), ((i, σ), J).snd (85 : Nat), ((i, σ), J).snd (86 : Nat), ((i, σ), J).snd (87 : Nat), ((i, σ), J).snd (88 : Nat), ((i, σ), J).snd (89 : Nat), ((i, σ), J).snd (90 : Nat), ((i, σ), J).snd (91 : Nat), ((i, σ), J).snd (92 : Nat), ((i, σ), J).snd (93 : Nat), ((i, σ), J).snd (94 : Nat), ((i, σ), J).snd (95 : Nat)]) (L' := [PoS xx1.fst ((i, σ), J).fst.snd xx1.snd.snd.fst xx1.snd.snd.snd.fst xx1.snd.snd.snd.snd, bts xx1.snd.snd.fst xx1.snd.snd.snd.fst xx1.snd.snd.snd.snd, Drv te, A]) (by kernel_rfl) rfl ?_)
  have hq := hw.requests
  by_cases hlt : i < min nb 100
  · obtain ⟨hlt1, hlt2⟩ : i < nb ∧ i < 100 := by omega
    obtain ⟨ho1, ho2, ho3⟩ := hlb i hlt1
    (focus
      refine Xg.at_seq ?_
      refine Xg.at_seq ?_
      refine Xg.at_region ?_
      refine Xg.ops_op (by kernel_rfl) (Xg.opx_pure ((Value.int IntKind.i64 (↑i : Int))) rfl (fun _ => by kernel_rfl) ?_)
      refine Xg.ops_op (by kernel_rfl) (Xg.opx_pure ((Value.slice lb nb lcb)) rfl (fun _ => by kernel_rfl) ?_)
      refine Xg.ops_op (by kernel_rfl) (Xg.opx_pure ((Value.int IntKind.i64 (↑nb : Int))) rfl (fun _ => by kernel_rfl) ?_)
      refine Xg.ops_op (by kernel_rfl) (Xg.opx_pure (.bool (decide ((((↑i : Int)) : Int) < ((↑nb : Int))))) rfl (fun _ => by kernel_rfl) ?_)
      refine Xg.ops_op (by kernel_rfl) (Xg.opx_pure ((Value.bool (decide ((↑i : Int) < (↑nb : Int))))) rfl (fun _ => by kernel_rfl) ?_)
      refine Xg.ops_flag (j := 22) (c := (decide ((↑i : Int) < (↑nb : Int)))) (by kernel_rfl) (fun _ => ?_) (fun xh1 => absurd (of_decide_eq_false xh1) (by omega))
      refine Xg.ops_op (by kernel_rfl) (Xg.opx_pure ((Value.int IntKind.i64 (↑i : Int))) rfl (fun _ => by kernel_rfl) ?_)
      refine Xg.ops_op (by kernel_rfl) (Xg.opx_pure (.bool (decide ((((↑i : Int)) : Int) < ((100 : Int))))) rfl (fun _ => by kernel_rfl) ?_)
      refine Xg.ops_op (by kernel_rfl) (Xg.opx_pure ((Value.bool (decide ((↑i : Int) < (100 : Int))))) rfl (fun _ => by kernel_rfl) ?_)
      refine Xg.ops_nil ?_
      refine Xg.at_true (t := decide (((↑i : Int) < (100 : Int)))) (by kernel_rfl) (decide_eq_true (by omega)) ?_
      refine Xg.at_skip ?_
      refine Xg.at_seq ?_
      refine Xg.at_block ?_
      refine Xg.at_seq ?_
      refine Xg.at_region ?_
      refine Xg.ops_op (by kernel_rfl) (Xg.opx_pure ((Value.slice lb nb lcb)) rfl (fun _ => by kernel_rfl) ?_)
      refine Xg.ops_op (by kernel_rfl) (Xg.opx_pure ((Value.int IntKind.i64 (↑i : Int))) rfl (fun _ => by kernel_rfl) ?_)
      refine Xg.ops_op (by kernel_rfl) (Xg.opx_rd 3 (.pointer (some (Addr.mk (Xg.blk lb) (offA lb + i * (3 : Nat)) none))) rfl hrb (by kernel_rfl) (Xg.run_ix_rd (elem := 41) (kd := .i64) (e := ((↑i : Int))) 3 i (offA lb + i * (3 : Nat)) (by kernel_rfl) (by kernel_rfl) (by kernel_rfl) (by kernel_rfl) rfl (by omega) (by rw [Xg.recs_len (wd := 3) (fun _ => rfl)]; omega) (by omega)) ?_)
      refine Xg.ops_op (by kernel_rfl) (Xg.opx_pure ((Value.pointer (some (Addr.mk (blk lb) (offA lb + i * (3 : Nat) + (1 : Nat)) none)))) rfl (fun _ => by kernel_rfl) ?_)
      refine Xg.ops_op (by kernel_rfl) (Xg.opx_rd 3 (Value.int IntKind.i64 (l2.getD i default).a) rfl hrb (by kernel_rfl) (Xg.run_load_rd (off0 := (offA lb + i * (3 : Nat) + (1 : Nat))) (i * (3 : Nat) + (1 : Nat)) (by kernel_rfl) (by omega) (Xg.get_recs' (wd := 3) (fun _ => rfl) default i 1 (by omega) (by decide) (by omega) (by kernel_rfl)) (by kernel_rfl)) ?_)
      refine Xg.ops_op (by kernel_rfl) (Xg.opx_callE' [] (fun xx2 => [PoS xx1.fst σ xx1.snd.snd.fst xx1.snd.snd.snd.fst xx1.snd.snd.snd.snd, bts xx1.snd.snd.fst xx1.snd.snd.snd.fst xx1.snd.snd.snd.snd, Drv te, A]) (fun _ => by kernel_rfl) (@Go.Proofs.YtncdmccdclhokaaDoor.pick_d (((l2.getD i default).a)) ((nat_lit 5)) (by omega) (by first | rfl | decide | (constructor <;> omega) | (simp; done) | (simp; omega))) (by kernel_rfl) (by kernel_rfl) (by kernel_rfl) fun xx2 xh1 => ?_)
      try dsimp only at xh1
      obtain ⟨xh1_0, xh1_1⟩ := xh1
      refine Xg.ops_op (by kernel_rfl) (Xg.opx_pure ((Value.int IntKind.i64 (↑xx2 : Int))) rfl (fun _ => by kernel_rfl) ?_)
      refine Xg.ops_nil ?_
      refine Xg.at_seq ?_
      refine Xg.at_region ?_
      refine Xg.ops_op (by kernel_rfl) (Xg.opx_pure ((Value.int IntKind.i64 (0 : Int))) rfl (fun _ => by kernel_rfl) ?_)
      refine Xg.ops_nil ?_
      refine Xg.at_seq ?_
      refine Xg.at_seq ?_
      refine Xg.at_region ?_
      refine Xg.ops_op (by kernel_rfl) (Xg.opx_pure ((Value.slice lb nb lcb)) rfl (fun _ => by kernel_rfl) ?_)
      refine Xg.ops_op (by kernel_rfl) (Xg.opx_pure ((Value.int IntKind.i64 (↑i : Int))) rfl (fun _ => by kernel_rfl) ?_)
      refine Xg.ops_op (by kernel_rfl) (Xg.opx_rd 3 (.pointer (some (Addr.mk (Xg.blk lb) (offA lb + i * (3 : Nat)) none))) rfl hrb (by kernel_rfl) (Xg.run_ix_rd (elem := 41) (kd := .i64) (e := ((↑i : Int))) 3 i (offA lb + i * (3 : Nat)) (by kernel_rfl) (by kernel_rfl) (by kernel_rfl) (by kernel_rfl) rfl (by omega) (by rw [Xg.recs_len (wd := 3) (fun _ => rfl)]; omega) (by omega)) ?_)
      refine Xg.ops_op (by kernel_rfl) (Xg.opx_pure ((Value.pointer (some (Addr.mk (blk lb) (offA lb + i * (3 : Nat)) none)))) rfl (fun _ => by kernel_rfl) ?_)
      refine Xg.ops_op (by kernel_rfl) (Xg.opx_rd 3 (Value.int IntKind.i64 (l2.getD i default).kind) rfl hrb (by kernel_rfl) (Xg.run_load_rd (off0 := (offA lb + i * (3 : Nat))) (i * (3 : Nat)) (by kernel_rfl) (by omega) (Xg.get_recs' (wd := 3) (fun _ => rfl) default i 0 (by omega) (by decide) (by omega) (by kernel_rfl)) (by kernel_rfl)) ?_)
      refine Xg.ops_op (by kernel_rfl) (Xg.opx_callE' [] (fun xx3 => [PoS xx1.fst σ xx1.snd.snd.fst xx1.snd.snd.snd.fst xx1.snd.snd.snd.snd, bts xx1.snd.snd.fst xx1.snd.snd.snd.fst xx1.snd.snd.snd.snd, Drv te, A]) (fun _ => by kernel_rfl) (@Go.Proofs.YtncdmccdclhokaaDoor.pick_d (((l2.getD i default).kind)) ((nat_lit 3)) (by omega) (by first | rfl | decide | (constructor <;> omega) | (simp; done) | (simp; omega))) (by kernel_rfl) (by kernel_rfl) (by kernel_rfl) fun xx3 xh1 => ?_)
      try dsimp only at xh1
      obtain ⟨xh1_0, xh1_1⟩ := xh1
      refine Xg.ops_nil ?_
      refine Xg.at_block ?_
      refine Xg.at_seq ?_
      refine Xg.at_region ?_
      refine Xg.ops_op (by kernel_rfl) (Xg.opx_pure (.bool (decide ((((↑xx3 : Int)) : Int) = ((0 : Int))))) rfl (fun _ => by kernel_rfl) ?_)
      refine Xg.ops_op (by kernel_rfl) (Xg.opx_pure ((Value.bool (decide ((↑xx3 : Int) = (0 : Int))))) rfl (fun _ => by kernel_rfl) ?_)
      refine Xg.ops_nil ?_
      refine Xg.at_dec (p := ((↑xx3 : Int) = (0 : Int))) (by kernel_rfl) (fun xh1 => ?_) (fun xh1 => ?_)
      refine Xg.at_seq ?_
      refine Xg.at_region ?_
      refine Xg.ops_op (by kernel_rfl) (Xg.opx_pure ((Value.pointer (some (Addr.mk xx1.fst (0 : Nat) none)))) rfl (fun _ => by kernel_rfl) ?_)
      refine Xg.ops_op (by kernel_rfl) (Xg.opx_pure ((Value.int IntKind.i64 (↑xx2 : Int))) rfl (fun _ => by kernel_rfl) ?_)
      refine Xg.ops_op (by kernel_rfl) (Xg.opx_call1' [0] [PoR xx1.fst (Po.mk σ.buttons σ.rows σ.shift σ.line σ.counter σ.timer σ.again σ.control (askI σ.requests (↑xx2 : Int)) σ.alarm σ.transfer σ.sending) (Value.slice xx1.snd.snd.fst xx1.snd.snd.snd.snd.length xx1.snd.snd.snd.fst), bts xx1.snd.snd.fst xx1.snd.snd.snd.fst xx1.snd.snd.snd.snd, Drv te, A] (fun _ => by kernel_rfl) (@Go.Proofs.YtncdmccdclhokaaDoor.raise_d (xx1.fst) (σ) ((Value.slice xx1.snd.snd.fst xx1.snd.snd.snd.snd.length xx1.snd.snd.snd.fst)) (((↑xx2 : Int))) (by omega)) (by kernel_rfl) (by kernel_rfl) (by kernel_rfl) ?_)
      refine Xg.ops_op (by kernel_rfl) (Xg.opx_pure ((Value.int IntKind.i64 (0 : Int))) rfl (fun _ => by kernel_rfl) ?_)
      refine Xg.ops_nil ?_
      refine Xg.at_region ?_
      refine Xg.ops_op (by kernel_rfl) (Xg.opx_pure ((Value.int IntKind.i64 σ.requests)) rfl (fun _ => by kernel_rfl) ?_)
      refine Xg.ops_op (by kernel_rfl) (Xg.opx_pure ((Value.int IntKind.i64 (↑xx2 : Int))) rfl (fun _ => by kernel_rfl) ?_)
      refine Xg.ops_op (by kernel_rfl) (Xg.opx_run (.int .i64 (IntKind.wrap .i64 (((1 : Int)) * 2 ^ min (Int.toNat ((↑xx2 : Int))) (IntKind.bits .i64)))) rfl (fun _ => Xg.run_shl (k1 := .i64) (k2 := .i64) (m := ((1 : Int))) (e := ((↑xx2 : Int))) (by kernel_rfl) (by kernel_rfl) (by omega)) ?_)
      refine Xg.ops_op (by kernel_rfl) (Xg.opx_pure (.int .i64 (Xg.bor .i64 (σ.requests) ((IntKind.i64.wrap ((1 : Int) * (2 : Int) ^ min (↑xx2 : Int).toNat IntKind.i64.bits))))) rfl (fun _ => by kernel_rfl) ?_)
      refine Xg.ops_op (by kernel_rfl) (Xg.opx_pure ((Value.int IntKind.i64 (bor IntKind.i64 σ.requests (IntKind.i64.wrap ((1 : Int) * (2 : Int) ^ min (↑xx2 : Int).toNat IntKind.i64.bits))))) rfl (fun _ => by kernel_rfl) ?_)
      refine Xg.ops_nil ?_
      refine Xg.at_inBlock ?_
      refine Xg.at_seq ?_
      refine Xg.at_region ?_
      refine Xg.ops_op (by kernel_rfl) (Xg.opx_pure ((Value.pointer (some (Addr.mk xx1.fst (0 : Nat) none)))) rfl (fun _ => by kernel_rfl) ?_)
      refine Xg.ops_op (by kernel_rfl) (Xg.opx_call1' [0] [PoR xx1.fst (Po.mk σ.buttons σ.rows σ.shift σ.line σ.counter σ.timer σ.again σ.control (askI σ.requests (↑xx2 : Int)) σ.alarm σ.transfer σ.sending) (Value.slice xx1.snd.snd.fst xx1.snd.snd.snd.snd.length xx1.snd.snd.snd.fst), bts xx1.snd.snd.fst xx1.snd.snd.snd.fst xx1.snd.snd.snd.snd, Drv te, A] (fun _ => by kernel_rfl) (@Go.Proofs.YtncdmccdclhokaaDoor.read_7 (xx1.fst) ((Po.mk σ.buttons σ.rows σ.shift σ.line σ.counter σ.timer σ.again σ.control (askI σ.requests (↑xx2 : Int)) σ.alarm σ.transfer σ.sending)) (by apply Go.Proofs.YtncdmccdclhokaaDoor.wfR <;> first | assumption | omega | (constructor <;> omega)) ((Value.slice xx1.snd.snd.fst xx1.snd.snd.snd.snd.length xx1.snd.snd.snd.fst))) (by kernel_rfl) (by kernel_rfl) (by kernel_rfl) ?_)
      refine Xg.ops_op (by kernel_rfl) (Xg.opx_pure ((Value.tuple #[Value.int IntKind.i64 (rdI (7 : Nat) (Po.mk σ.buttons σ.rows σ.shift σ.line σ.counter σ.timer σ.again σ.control (askI σ.requests (↑xx2 : Int)) σ.alarm σ.transfer σ.sending)), Value.int IntKind.i64 (0 : Int)])) rfl (fun _ => by kernel_rfl) ?_)
      refine Xg.ops_op (by kernel_rfl) (Xg.opx_pure ((Value.int IntKind.i64 (rdI (7 : Nat) (Po.mk σ.buttons σ.rows σ.shift σ.line σ.counter σ.timer σ.again σ.control (askI σ.requests (↑xx2 : Int)) σ.alarm σ.transfer σ.sending)))) rfl (fun _ => by kernel_rfl) ?_)
      refine Xg.ops_op (by kernel_rfl) (Xg.opx_pure ((Value.int IntKind.i64 (0 : Int))) rfl (fun _ => by kernel_rfl) ?_)
      refine Xg.ops_op (by kernel_rfl) (Xg.opx_pure ((Value.int IntKind.i64 (rdI (7 : Nat) (Po.mk σ.buttons σ.rows σ.shift σ.line σ.counter σ.timer σ.again σ.control (askI σ.requests (↑xx2 : Int)) σ.alarm σ.transfer σ.sending)))) rfl (fun _ => by kernel_rfl) ?_)
      refine Xg.ops_op (by kernel_rfl) (Xg.opx_pure ((Value.int IntKind.i64 (0 : Int))) rfl (fun _ => by kernel_rfl) ?_)
      refine Xg.ops_nil ?_
      refine Xg.at_seq ?_
      refine Xg.at_region ?_
      refine Xg.ops_op (by kernel_rfl) (Xg.opx_pure ((Value.int IntKind.i64 (0 : Int))) rfl (fun _ => by kernel_rfl) ?_)
      refine Xg.ops_op (by kernel_rfl) (Xg.opx_pure ((Value.bool false)) rfl (fun _ => by kernel_rfl) ?_)
      refine Xg.ops_op (by kernel_rfl) (Xg.opx_pure ((Value.bool false)) rfl (fun _ => by kernel_rfl) ?_)
      refine Xg.ops_op (by kernel_rfl) (Xg.opx_pure ((Value.int IntKind.i64 (0 : Int))) rfl (fun _ => by kernel_rfl) ?_)
      refine Xg.ops_op (by kernel_rfl) (Xg.opx_pure ((Value.bool false)) rfl (fun _ => by kernel_rfl) ?_)
      refine Xg.ops_op (by kernel_rfl) (Xg.opx_pure ((Value.bool false)) rfl (fun _ => by kernel_rfl) ?_)
      refine Xg.ops_op (by kernel_rfl) (Xg.opx_pure ((Value.bool false)) rfl (fun _ => by kernel_rfl) ?_)
      refine Xg.ops_op (by kernel_rfl) (Xg.opx_pure ((Value.pointer (some (Addr.mk xx1.fst (0 : Nat) none)))) rfl (fun _ => by kernel_rfl) ?_)
      refine Xg.ops_op (by kernel_rfl) (Xg.opx_call1' [0] [PoR xx1.fst (Po.mk σ.buttons σ.rows σ.shift σ.line σ.counter σ.timer σ.again σ.control (askI σ.requests (↑xx2 : Int)) σ.alarm σ.transfer σ.sending) (Value.slice xx1.snd.snd.fst xx1.snd.snd.snd.snd.length xx1.snd.snd.snd.fst), bts xx1.snd.snd.fst xx1.snd.snd.snd.fst xx1.snd.snd.snd.snd, Drv te, A] (fun _ => by kernel_rfl) (@Go.Proofs.YtncdmccdclhokaaDoor.requests_d (xx1.fst) ((Po.mk σ.buttons σ.rows σ.shift σ.line σ.counter σ.timer σ.again σ.control (askI σ.requests (↑xx2 : Int)) σ.alarm σ.transfer σ.sending)) ((Value.slice xx1.snd.snd.fst xx1.snd.snd.snd.snd.length xx1.snd.snd.snd.fst)) (by apply Go.Proofs.YtncdmccdclhokaaDoor.askI_bd <;> first | assumption | omega | (constructor <;> omega))) (by kernel_rfl) (by kernel_rfl) (by kernel_rfl) ?_)
      refine Xg.ops_op (by kernel_rfl) (Xg.opx_pure ((Value.int IntKind.i64 (bor IntKind.i64 σ.requests (IntKind.i64.wrap ((1 : Int) * (2 : Int) ^ min (↑xx2 : Int).toNat IntKind.i64.bits))))) rfl (fun _ => by kernel_rfl) ?_)
      refine Xg.ops_op (by kernel_rfl) (Xg.opx_pure (.bool (!decide (((askI σ.requests (↑xx2 : Int)) : Int) = (bor IntKind.i64 σ.requests (IntKind.i64.wrap ((1 : Int) * (2 : Int) ^ min (↑xx2 : Int).toNat IntKind.i64.bits)))))) rfl (fun _ => by kernel_rfl) ?_)
      refine Xg.ops_op (by kernel_rfl) (Xg.opx_pure ((Value.bool !decide (askI σ.requests (↑xx2 : Int) = bor IntKind.i64 σ.requests (IntKind.i64.wrap ((1 : Int) * (2 : Int) ^ min (↑xx2 : Int).toNat IntKind.i64.bits))))) rfl (fun _ => by kernel_rfl) ?_)
      refine Xg.ops_op (by kernel_rfl) (Xg.opx_pure ((Value.bool !decide (askI σ.requests (↑xx2 : Int) = bor IntKind.i64 σ.requests (IntKind.i64.wrap ((1 : Int) * (2 : Int) ^ min (↑xx2 : Int).toNat IntKind.i64.bits))))) rfl (fun _ => by kernel_rfl) ?_)
      refine Xg.ops_flag (j := 90) (c := (!decide (askI σ.requests (↑xx2 : Int) = bor IntKind.i64 σ.requests (IntKind.i64.wrap ((1 : Int) * (2 : Int) ^ min (↑xx2 : Int).toNat IntKind.i64.bits))))) (by kernel_rfl) (fun xh2 => ?_) (fun xh2 => ?_)
      replace xh2 : ¬ ((askI σ.requests (↑xx2 : Int) = bor IntKind.i64 σ.requests (IntKind.i64.wrap ((1 : Int) * (2 : Int) ^ min (↑xx2 : Int).toNat IntKind.i64.bits)))) := by simpa using xh2
      rotate_left
      replace xh2 : (askI σ.requests (↑xx2 : Int) = bor IntKind.i64 σ.requests (IntKind.i64.wrap ((1 : Int) * (2 : Int) ^ min (↑xx2 : Int).toNat IntKind.i64.bits))) := by simpa using xh2
      rotate_right
      refine Xg.ops_skip (by kernel_rfl) ?_
      refine Xg.ops_skip (by kernel_rfl) ?_
      refine Xg.ops_skip (by kernel_rfl) ?_
      refine Xg.ops_skip (by kernel_rfl) ?_
      refine Xg.ops_op (by kernel_rfl) (Xg.opx_pure ((Value.bool true)) rfl (fun _ => by kernel_rfl) ?_)
      refine Xg.ops_nil ?_
      refine Xg.at_true (t := true) (by kernel_rfl) rfl ?_
      refine Xg.at_seq ?_
      refine Xg.at_region ?_
      refine Xg.ops_op (by kernel_rfl) (Xg.opx_pure ((Value.bool false)) rfl (fun _ => by kernel_rfl) ?_)
      refine Xg.ops_nil ?_
      refine Xg.at_ret_ps (v := (Value.bool false)) [2, 3] [Drv te, A] Go.Proofs.Tryd.func8 (fun _ => by kernel_rfl) (by kernel_rfl) (by kernel_rfl) ?_
      rotate_left
      refine Xg.ops_op (by kernel_rfl) (Xg.opx_pure ((Value.int IntKind.i64 (rdI (7 : Nat) (Po.mk σ.buttons σ.rows σ.shift σ.line σ.counter σ.timer σ.again σ.control (askI σ.requests (↑xx2 : Int)) σ.alarm σ.transfer σ.sending)))) rfl (fun _ => by kernel_rfl) ?_)
      refine Xg.ops_op (by kernel_rfl) (Xg.opx_pure ((Value.int IntKind.i64 (bor IntKind.i64 σ.requests (IntKind.i64.wrap ((1 : Int) * (2 : Int) ^ min (↑xx2 : Int).toNat IntKind.i64.bits))))) rfl (fun _ => by kernel_rfl) ?_)
      refine Xg.ops_op (by kernel_rfl) (Xg.opx_pure (.int .i64 (IntKind.wrap .i64 (((224 : Int) + bor IntKind.i64 σ.requests (IntKind.i64.wrap ((1 : Int) * (2 : Int) ^ min (↑xx2 : Int).toNat IntKind.i64.bits)))))) rfl (fun _ => by kernel_rfl) ?_)
      refine Xg.ops_op (by kernel_rfl) (Xg.opx_pure (.bool (!decide (((rdI (7 : Nat) (Po.mk σ.buttons σ.rows σ.shift σ.line σ.counter σ.timer σ.again σ.control (askI σ.requests (↑xx2 : Int)) σ.alarm σ.transfer σ.sending)) : Int) = (IntKind.i64.wrap ((224 : Int) + bor IntKind.i64 σ.requests (IntKind.i64.wrap ((1 : Int) * (2 : Int) ^ min (↑xx2 : Int).toNat IntKind.i64.bits))))))) rfl (fun _ => by kernel_rfl) ?_)
      refine Xg.ops_op (by kernel_rfl) (Xg.opx_pure ((Value.bool !decide (rdI (7 : Nat) (Po.mk σ.buttons σ.rows σ.shift σ.line σ.counter σ.timer σ.again σ.control (askI σ.requests (↑xx2 : Int)) σ.alarm σ.transfer σ.sending) = IntKind.i64.wrap ((224 : Int) + bor IntKind.i64 σ.requests (IntKind.i64.wrap ((1 : Int) * (2 : Int) ^ min (↑xx2 : Int).toNat IntKind.i64.bits)))))) rfl (fun _ => by kernel_rfl) ?_)
      refine Xg.ops_nil ?_
      refine Xg.at_ndec (p := (rdI (7 : Nat) (Po.mk σ.buttons σ.rows σ.shift σ.line σ.counter σ.timer σ.again σ.control (askI σ.requests (↑xx2 : Int)) σ.alarm σ.transfer σ.sending) = IntKind.i64.wrap ((224 : Int) + bor IntKind.i64 σ.requests (IntKind.i64.wrap ((1 : Int) * (2 : Int) ^ min (↑xx2 : Int).toNat IntKind.i64.bits))))) (by kernel_rfl) (fun xh3 => ?_) (fun xh3 => ?_)
      refine Xg.at_seq ?_
      refine Xg.at_region ?_
      refine Xg.ops_op (by kernel_rfl) (Xg.opx_pure ((Value.bool false)) rfl (fun _ => by kernel_rfl) ?_)
      refine Xg.ops_nil ?_
      refine Xg.at_ret_ps (v := (Value.bool false)) [2, 3] [Drv te, A] Go.Proofs.Tryd.func8 (fun _ => by kernel_rfl) (by kernel_rfl) (by kernel_rfl) ?_
      rotate_left
      refine Xg.at_skip ?_
      refine Xg.at_inBlock ?_
      refine Xg.at_region ?_
      refine Xg.ops_op (by kernel_rfl) (Xg.opx_pure ((Value.int IntKind.i64 (↑i : Int))) rfl (fun _ => by kernel_rfl) ?_)
      refine Xg.ops_op (by kernel_rfl) (Xg.opx_int .i64 (IntKind.wrap .i64 (((↑i : Int) + (1 : Int)))) rfl (fun _ => by kernel_rfl) (Xg.wrap_i64_in (by omega)) ?_)
      refine Xg.ops_op (by kernel_rfl) (Xg.opx_pure ((Value.int IntKind.i64 ((↑i : Int) + (1 : Int)))) rfl (fun _ => by kernel_rfl) ?_)
      refine Xg.ops_nil ?_
      refine Xg.at_inLoop ?_
      rotate_left
      refine Xg.at_seq ?_
      refine Xg.at_region ?_
      refine Xg.ops_op (by kernel_rfl) (Xg.opx_pure (.bool (decide ((((↑xx3 : Int)) : Int) = ((1 : Int))))) rfl (fun _ => by kernel_rfl) ?_)
      refine Xg.ops_op (by kernel_rfl) (Xg.opx_pure ((Value.bool (decide ((↑xx3 : Int) = (1 : Int))))) rfl (fun _ => by kernel_rfl) ?_)
      refine Xg.ops_nil ?_
      refine Xg.at_dec (p := ((↑xx3 : Int) = (1 : Int))) (by kernel_rfl) (fun xh2 => ?_) (fun xh2 => ?_)
      refine Xg.at_seq ?_
      refine Xg.at_region ?_
      refine Xg.ops_op (by kernel_rfl) (Xg.opx_pure ((Value.pointer (some (Addr.mk xx1.fst (0 : Nat) none)))) rfl (fun _ => by kernel_rfl) ?_)
      refine Xg.ops_op (by kernel_rfl) (Xg.opx_pure ((Value.int IntKind.i64 (↑xx2 : Int))) rfl (fun _ => by kernel_rfl) ?_)
      refine Xg.ops_op (by kernel_rfl) (Xg.opx_call1' [0] [PoR xx1.fst (Po.mk σ.buttons σ.rows σ.shift σ.line σ.counter σ.timer σ.again σ.control (takeI σ.requests (↑xx2 : Int)) σ.alarm σ.transfer σ.sending) (Value.slice xx1.snd.snd.fst xx1.snd.snd.snd.snd.length xx1.snd.snd.snd.fst), bts xx1.snd.snd.fst xx1.snd.snd.snd.fst xx1.snd.snd.snd.snd, Drv te, A] (fun _ => by kernel_rfl) (@Go.Proofs.YtncdmccdclhokaaDoor.take_d (xx1.fst) (σ) ((Value.slice xx1.snd.snd.fst xx1.snd.snd.snd.snd.length xx1.snd.snd.snd.fst)) (((↑xx2 : Int))) (by omega)) (by kernel_rfl) (by kernel_rfl) (by kernel_rfl) ?_)
      refine Xg.ops_op (by kernel_rfl) (Xg.opx_pure ((Value.int IntKind.i64 (0 : Int))) rfl (fun _ => by kernel_rfl) ?_)
      refine Xg.ops_nil ?_
      refine Xg.at_region ?_
      refine Xg.ops_op (by kernel_rfl) (Xg.opx_pure ((Value.int IntKind.i64 σ.requests)) rfl (fun _ => by kernel_rfl) ?_)
      refine Xg.ops_op (by kernel_rfl) (Xg.opx_pure ((Value.int IntKind.i64 (↑xx2 : Int))) rfl (fun _ => by kernel_rfl) ?_)
      refine Xg.ops_op (by kernel_rfl) (Xg.opx_run (.int .i64 (IntKind.wrap .i64 (((1 : Int)) * 2 ^ min (Int.toNat ((↑xx2 : Int))) (IntKind.bits .i64)))) rfl (fun _ => Xg.run_shl (k1 := .i64) (k2 := .i64) (m := ((1 : Int))) (e := ((↑xx2 : Int))) (by kernel_rfl) (by kernel_rfl) (by omega)) ?_)
      refine Xg.ops_op (by kernel_rfl) (Xg.opx_pure (.int .i64 (Xg.bclr .i64 (σ.requests) ((IntKind.i64.wrap ((1 : Int) * (2 : Int) ^ min (↑xx2 : Int).toNat IntKind.i64.bits))))) rfl (fun _ => by kernel_rfl) ?_)
      refine Xg.ops_op (by kernel_rfl) (Xg.opx_pure ((Value.int IntKind.i64 (bclr IntKind.i64 σ.requests (IntKind.i64.wrap ((1 : Int) * (2 : Int) ^ min (↑xx2 : Int).toNat IntKind.i64.bits))))) rfl (fun _ => by kernel_rfl) ?_)
      refine Xg.ops_nil ?_
      refine Xg.at_inBlock ?_
      refine Xg.at_seq ?_
      refine Xg.at_region ?_
      refine Xg.ops_op (by kernel_rfl) (Xg.opx_pure ((Value.pointer (some (Addr.mk xx1.fst (0 : Nat) none)))) rfl (fun _ => by kernel_rfl) ?_)
      refine Xg.ops_op (by kernel_rfl) (Xg.opx_call1' [0] [PoR xx1.fst (Po.mk σ.buttons σ.rows σ.shift σ.line σ.counter σ.timer σ.again σ.control (takeI σ.requests (↑xx2 : Int)) σ.alarm σ.transfer σ.sending) (Value.slice xx1.snd.snd.fst xx1.snd.snd.snd.snd.length xx1.snd.snd.snd.fst), bts xx1.snd.snd.fst xx1.snd.snd.snd.fst xx1.snd.snd.snd.snd, Drv te, A] (fun _ => by kernel_rfl) (@Go.Proofs.YtncdmccdclhokaaDoor.read_7 (xx1.fst) ((Po.mk σ.buttons σ.rows σ.shift σ.line σ.counter σ.timer σ.again σ.control (takeI σ.requests (↑xx2 : Int)) σ.alarm σ.transfer σ.sending)) (by apply Go.Proofs.YtncdmccdclhokaaDoor.wfT <;> first | assumption | omega | (constructor <;> omega)) ((Value.slice xx1.snd.snd.fst xx1.snd.snd.snd.snd.length xx1.snd.snd.snd.fst))) (by kernel_rfl) (by kernel_rfl) (by kernel_rfl) ?_)
      refine Xg.ops_op (by kernel_rfl) (Xg.opx_pure ((Value.tuple #[Value.int IntKind.i64 (rdI (7 : Nat) (Po.mk σ.buttons σ.rows σ.shift σ.line σ.counter σ.timer σ.again σ.control (takeI σ.requests (↑xx2 : Int)) σ.alarm σ.transfer σ.sending)), Value.int IntKind.i64 (0 : Int)])) rfl (fun _ => by kernel_rfl) ?_)
      refine Xg.ops_op (by kernel_rfl) (Xg.opx_pure ((Value.int IntKind.i64 (rdI (7 : Nat) (Po.mk σ.buttons σ.rows σ.shift σ.line σ.counter σ.timer σ.again σ.control (takeI σ.requests (↑xx2 : Int)) σ.alarm σ.transfer σ.sending)))) rfl (fun _ => by kernel_rfl) ?_)
      refine Xg.ops_op (by kernel_rfl) (Xg.opx_pure ((Value.int IntKind.i64 (0 : Int))) rfl (fun _ => by kernel_rfl) ?_)
      refine Xg.ops_op (by kernel_rfl) (Xg.opx_pure ((Value.int IntKind.i64 (rdI (7 : Nat) (Po.mk σ.buttons σ.rows σ.shift σ.line σ.counter σ.timer σ.again σ.control (takeI σ.requests (↑xx2 : Int)) σ.alarm σ.transfer σ.sending)))) rfl (fun _ => by kernel_rfl) ?_)
      refine Xg.ops_op (by kernel_rfl) (Xg.opx_pure ((Value.int IntKind.i64 (0 : Int))) rfl (fun _ => by kernel_rfl) ?_)
      refine Xg.ops_nil ?_
      refine Xg.at_seq ?_
      refine Xg.at_region ?_
      refine Xg.ops_op (by kernel_rfl) (Xg.opx_pure ((Value.int IntKind.i64 (0 : Int))) rfl (fun _ => by kernel_rfl) ?_)
      refine Xg.ops_op (by kernel_rfl) (Xg.opx_pure ((Value.bool false)) rfl (fun _ => by kernel_rfl) ?_)
      refine Xg.ops_op (by kernel_rfl) (Xg.opx_pure ((Value.bool false)) rfl (fun _ => by kernel_rfl) ?_)
      refine Xg.ops_op (by kernel_rfl) (Xg.opx_pure ((Value.int IntKind.i64 (0 : Int))) rfl (fun _ => by kernel_rfl) ?_)
      refine Xg.ops_op (by kernel_rfl) (Xg.opx_pure ((Value.bool false)) rfl (fun _ => by kernel_rfl) ?_)
      refine Xg.ops_op (by kernel_rfl) (Xg.opx_pure ((Value.bool false)) rfl (fun _ => by kernel_rfl) ?_)
      refine Xg.ops_op (by kernel_rfl) (Xg.opx_pure ((Value.bool false)) rfl (fun _ => by kernel_rfl) ?_)
      refine Xg.ops_op (by kernel_rfl) (Xg.opx_pure ((Value.pointer (some (Addr.mk xx1.fst (0 : Nat) none)))) rfl (fun _ => by kernel_rfl) ?_)
      refine Xg.ops_op (by kernel_rfl) (Xg.opx_call1' [0] [PoR xx1.fst (Po.mk σ.buttons σ.rows σ.shift σ.line σ.counter σ.timer σ.again σ.control (takeI σ.requests (↑xx2 : Int)) σ.alarm σ.transfer σ.sending) (Value.slice xx1.snd.snd.fst xx1.snd.snd.snd.snd.length xx1.snd.snd.snd.fst), bts xx1.snd.snd.fst xx1.snd.snd.snd.fst xx1.snd.snd.snd.snd, Drv te, A] (fun _ => by kernel_rfl) (@Go.Proofs.YtncdmccdclhokaaDoor.requests_d (xx1.fst) ((Po.mk σ.buttons σ.rows σ.shift σ.line σ.counter σ.timer σ.again σ.control (takeI σ.requests (↑xx2 : Int)) σ.alarm σ.transfer σ.sending)) ((Value.slice xx1.snd.snd.fst xx1.snd.snd.snd.snd.length xx1.snd.snd.snd.fst)) (by apply Go.Proofs.YtncdmccdclhokaaDoor.takeI_bd <;> first | assumption | omega | (constructor <;> omega))) (by kernel_rfl) (by kernel_rfl) (by kernel_rfl) ?_)
      refine Xg.ops_op (by kernel_rfl) (Xg.opx_pure ((Value.int IntKind.i64 (bclr IntKind.i64 σ.requests (IntKind.i64.wrap ((1 : Int) * (2 : Int) ^ min (↑xx2 : Int).toNat IntKind.i64.bits))))) rfl (fun _ => by kernel_rfl) ?_)
      refine Xg.ops_op (by kernel_rfl) (Xg.opx_pure (.bool (!decide (((takeI σ.requests (↑xx2 : Int)) : Int) = (bclr IntKind.i64 σ.requests (IntKind.i64.wrap ((1 : Int) * (2 : Int) ^ min (↑xx2 : Int).toNat IntKind.i64.bits)))))) rfl (fun _ => by kernel_rfl) ?_)
      refine Xg.ops_op (by kernel_rfl) (Xg.opx_pure ((Value.bool !decide (takeI σ.requests (↑xx2 : Int) = bclr IntKind.i64 σ.requests (IntKind.i64.wrap ((1 : Int) * (2 : Int) ^ min (↑xx2 : Int).toNat IntKind.i64.bits))))) rfl (fun _ => by kernel_rfl) ?_)
      refine Xg.ops_op (by kernel_rfl) (Xg.opx_pure ((Value.bool !decide (takeI σ.requests (↑xx2 : Int) = bclr IntKind.i64 σ.requests (IntKind.i64.wrap ((1 : Int) * (2 : Int) ^ min (↑xx2 : Int).toNat IntKind.i64.bits))))) rfl (fun _ => by kernel_rfl) ?_)
      refine Xg.ops_flag (j := 90) (c := (!decide (takeI σ.requests (↑xx2 : Int) = bclr IntKind.i64 σ.requests (IntKind.i64.wrap ((1 : Int) * (2 : Int) ^ min (↑xx2 : Int).toNat IntKind.i64.bits))))) (by kernel_rfl) (fun xh3 => ?_) (fun xh3 => ?_)
      replace xh3 : ¬ ((takeI σ.requests (↑xx2 : Int) = bclr IntKind.i64 σ.requests (IntKind.i64.wrap ((1 : Int) * (2 : Int) ^ min (↑xx2 : Int).toNat IntKind.i64.bits)))) := by simpa using xh3
      rotate_left
      replace xh3 : (takeI σ.requests (↑xx2 : Int) = bclr IntKind.i64 σ.requests (IntKind.i64.wrap ((1 : Int) * (2 : Int) ^ min (↑xx2 : Int).toNat IntKind.i64.bits))) := by simpa using xh3
      rotate_right
      refine Xg.ops_skip (by kernel_rfl) ?_
      refine Xg.ops_skip (by kernel_rfl) ?_
      refine Xg.ops_skip (by kernel_rfl) ?_
      refine Xg.ops_skip (by kernel_rfl) ?_
      refine Xg.ops_op (by kernel_rfl) (Xg.opx_pure ((Value.bool true)) rfl (fun _ => by kernel_rfl) ?_)
      refine Xg.ops_nil ?_
      refine Xg.at_true (t := true) (by kernel_rfl) rfl ?_
      refine Xg.at_seq ?_
      refine Xg.at_region ?_
      refine Xg.ops_op (by kernel_rfl) (Xg.opx_pure ((Value.bool false)) rfl (fun _ => by kernel_rfl) ?_)
      refine Xg.ops_nil ?_
      refine Xg.at_ret_ps (v := (Value.bool false)) [2, 3] [Drv te, A] Go.Proofs.Tryd.func8 (fun _ => by kernel_rfl) (by kernel_rfl) (by kernel_rfl) ?_
      rotate_left
      refine Xg.ops_op (by kernel_rfl) (Xg.opx_pure ((Value.int IntKind.i64 (rdI (7 : Nat) (Po.mk σ.buttons σ.rows σ.shift σ.line σ.counter σ.timer σ.again σ.control (takeI σ.requests (↑xx2 : Int)) σ.alarm σ.transfer σ.sending)))) rfl (fun _ => by kernel_rfl) ?_)
      refine Xg.ops_op (by kernel_rfl) (Xg.opx_pure ((Value.int IntKind.i64 (bclr IntKind.i64 σ.requests (IntKind.i64.wrap ((1 : Int) * (2 : Int) ^ min (↑xx2 : Int).toNat IntKind.i64.bits))))) rfl (fun _ => by kernel_rfl) ?_)
      refine Xg.ops_op (by kernel_rfl) (Xg.opx_pure (.int .i64 (IntKind.wrap .i64 (((224 : Int) + bclr IntKind.i64 σ.requests (IntKind.i64.wrap ((1 : Int) * (2 : Int) ^ min (↑xx2 : Int).toNat IntKind.i64.bits)))))) rfl (fun _ => by kernel_rfl) ?_)
      refine Xg.ops_op (by kernel_rfl) (Xg.opx_pure (.bool (!decide (((rdI (7 : Nat) (Po.mk σ.buttons σ.rows σ.shift σ.line σ.counter σ.timer σ.again σ.control (takeI σ.requests (↑xx2 : Int)) σ.alarm σ.transfer σ.sending)) : Int) = (IntKind.i64.wrap ((224 : Int) + bclr IntKind.i64 σ.requests (IntKind.i64.wrap ((1 : Int) * (2 : Int) ^ min (↑xx2 : Int).toNat IntKind.i64.bits))))))) rfl (fun _ => by kernel_rfl) ?_)
      refine Xg.ops_op (by kernel_rfl) (Xg.opx_pure ((Value.bool !decide (rdI (7 : Nat) (Po.mk σ.buttons σ.rows σ.shift σ.line σ.counter σ.timer σ.again σ.control (takeI σ.requests (↑xx2 : Int)) σ.alarm σ.transfer σ.sending) = IntKind.i64.wrap ((224 : Int) + bclr IntKind.i64 σ.requests (IntKind.i64.wrap ((1 : Int) * (2 : Int) ^ min (↑xx2 : Int).toNat IntKind.i64.bits)))))) rfl (fun _ => by kernel_rfl) ?_)
      refine Xg.ops_nil ?_
      refine Xg.at_ndec (p := (rdI (7 : Nat) (Po.mk σ.buttons σ.rows σ.shift σ.line σ.counter σ.timer σ.again σ.control (takeI σ.requests (↑xx2 : Int)) σ.alarm σ.transfer σ.sending) = IntKind.i64.wrap ((224 : Int) + bclr IntKind.i64 σ.requests (IntKind.i64.wrap ((1 : Int) * (2 : Int) ^ min (↑xx2 : Int).toNat IntKind.i64.bits))))) (by kernel_rfl) (fun xh4 => ?_) (fun xh4 => ?_)
      refine Xg.at_seq ?_
      refine Xg.at_region ?_
      refine Xg.ops_op (by kernel_rfl) (Xg.opx_pure ((Value.bool false)) rfl (fun _ => by kernel_rfl) ?_)
      refine Xg.ops_nil ?_
      refine Xg.at_ret_ps (v := (Value.bool false)) [2, 3] [Drv te, A] Go.Proofs.Tryd.func8 (fun _ => by kernel_rfl) (by kernel_rfl) (by kernel_rfl) ?_
      rotate_left
      refine Xg.at_skip ?_
      refine Xg.at_inBlock ?_
      refine Xg.at_region ?_
      refine Xg.ops_op (by kernel_rfl) (Xg.opx_pure ((Value.int IntKind.i64 (↑i : Int))) rfl (fun _ => by kernel_rfl) ?_)
      refine Xg.ops_op (by kernel_rfl) (Xg.opx_int .i64 (IntKind.wrap .i64 (((↑i : Int) + (1 : Int)))) rfl (fun _ => by kernel_rfl) (Xg.wrap_i64_in (by omega)) ?_)
      refine Xg.ops_op (by kernel_rfl) (Xg.opx_pure ((Value.int IntKind.i64 ((↑i : Int) + (1 : Int)))) rfl (fun _ => by kernel_rfl) ?_)
      refine Xg.ops_nil ?_
      refine Xg.at_inLoop ?_
      rotate_left
      refine Xg.at_seq ?_
      refine Xg.at_region ?_
      refine Xg.ops_op (by kernel_rfl) (Xg.opx_pure ((Value.pointer (some (Addr.mk xx1.fst (0 : Nat) none)))) rfl (fun _ => by kernel_rfl) ?_)
      refine Xg.ops_op (by kernel_rfl) (Xg.opx_pure ((Value.slice lb nb lcb)) rfl (fun _ => by kernel_rfl) ?_)
      refine Xg.ops_op (by kernel_rfl) (Xg.opx_pure ((Value.int IntKind.i64 (↑i : Int))) rfl (fun _ => by kernel_rfl) ?_)
      refine Xg.ops_op (by kernel_rfl) (Xg.opx_rd 3 (.pointer (some (Addr.mk (Xg.blk lb) (offA lb + i * (3 : Nat)) none))) rfl hrb (by kernel_rfl) (Xg.run_ix_rd (elem := 41) (kd := .i64) (e := ((↑i : Int))) 3 i (offA lb + i * (3 : Nat)) (by kernel_rfl) (by kernel_rfl) (by kernel_rfl) (by kernel_rfl) rfl (by omega) (by rw [Xg.recs_len (wd := 3) (fun _ => rfl)]; omega) (by omega)) ?_)
      refine Xg.ops_op (by kernel_rfl) (Xg.opx_pure ((Value.pointer (some (Addr.mk (blk lb) (offA lb + i * (3 : Nat) + (2 : Nat)) none)))) rfl (fun _ => by kernel_rfl) ?_)
      refine Xg.ops_op (by kernel_rfl) (Xg.opx_rd 3 (Value.int IntKind.i64 (l2.getD i default).b) rfl hrb (by kernel_rfl) (Xg.run_load_rd (off0 := (offA lb + i * (3 : Nat) + (2 : Nat))) (i * (3 : Nat) + (2 : Nat)) (by kernel_rfl) (by omega) (Xg.get_recs' (wd := 3) (fun _ => rfl) default i 2 (by omega) (by decide) (by omega) (by kernel_rfl)) (by kernel_rfl)) ?_)
      refine Xg.ops_op (by kernel_rfl) (Xg.opx_callE' [] (fun xx4 => [PoS xx1.fst σ xx1.snd.snd.fst xx1.snd.snd.snd.fst xx1.snd.snd.snd.snd, bts xx1.snd.snd.fst xx1.snd.snd.snd.fst xx1.snd.snd.snd.snd, Drv te, A]) (fun _ => by kernel_rfl) (@Go.Proofs.YtncdmccdclhokaaDoor.pick_d (((l2.getD i default).b)) ((nat_lit 256)) (by omega) (by first | rfl | decide | (constructor <;> omega) | (simp; done) | (simp; omega))) (by kernel_rfl) (by kernel_rfl) (by kernel_rfl) fun xx4 xh3 => ?_)
      try dsimp only at xh3
      obtain ⟨xh3_0, xh3_1⟩ := xh3
      refine Xg.ops_op (by kernel_rfl) (Xg.opx_call1' [0, 2] [PoR xx1.fst (wrI (7 : Nat) σ (↑xx4 : Int)) (Value.slice xx1.snd.snd.fst xx1.snd.snd.snd.snd.length xx1.snd.snd.snd.fst), Drv te, bts xx1.snd.snd.fst xx1.snd.snd.snd.fst xx1.snd.snd.snd.snd, A] (fun _ => by kernel_rfl) (@Go.Proofs.YtncdmccdclhokaaDoor.write_7 (te) (xx1.fst) (σ) ((Value.slice xx1.snd.snd.fst xx1.snd.snd.snd.snd.length xx1.snd.snd.snd.fst)) (((↑xx4 : Int))) (by omega)) (by kernel_rfl) (by kernel_rfl) (by kernel_rfl) ?_)
      refine Xg.ops_op (by kernel_rfl) (Xg.opx_pure ((Value.int IntKind.i64 (0 : Int))) rfl (fun _ => by kernel_rfl) ?_)
      refine Xg.ops_nil ?_
      refine Xg.at_region ?_
      refine Xg.ops_op (by kernel_rfl) (Xg.opx_pure ((Value.slice lb nb lcb)) rfl (fun _ => by kernel_rfl) ?_)
      refine Xg.ops_op (by kernel_rfl) (Xg.opx_pure ((Value.int IntKind.i64 (↑i : Int))) rfl (fun _ => by kernel_rfl) ?_)
      refine Xg.ops_op (by kernel_rfl) (Xg.opx_rd 3 (.pointer (some (Addr.mk (Xg.blk lb) (offA lb + i * (3 : Nat)) none))) rfl hrb (by kernel_rfl) (Xg.run_ix_rd (elem := 41) (kd := .i64) (e := ((↑i : Int))) 3 i (offA lb + i * (3 : Nat)) (by kernel_rfl) (by kernel_rfl) (by kernel_rfl) (by kernel_rfl) rfl (by omega) (by rw [Xg.recs_len (wd := 3) (fun _ => rfl)]; omega) (by omega)) ?_)
      refine Xg.ops_op (by kernel_rfl) (Xg.opx_pure ((Value.pointer (some (Addr.mk (blk lb) (offA lb + i * (3 : Nat) + (2 : Nat)) none)))) rfl (fun _ => by kernel_rfl) ?_)
      refine Xg.ops_op (by kernel_rfl) (Xg.opx_rd 3 (Value.int IntKind.i64 (l2.getD i default).b) rfl hrb (by kernel_rfl) (Xg.run_load_rd (off0 := (offA lb + i * (3 : Nat) + (2 : Nat))) (i * (3 : Nat) + (2 : Nat)) (by kernel_rfl) (by omega) (Xg.get_recs' (wd := 3) (fun _ => rfl) default i 2 (by omega) (by decide) (by omega) (by kernel_rfl)) (by kernel_rfl)) ?_)
      refine Xg.ops_op (by kernel_rfl) (Xg.opx_callE' [] (fun xx5 => [PoR xx1.fst (wrI (7 : Nat) σ (↑xx4 : Int)) (Value.slice xx1.snd.snd.fst xx1.snd.snd.snd.snd.length xx1.snd.snd.snd.fst), Drv te, bts xx1.snd.snd.fst xx1.snd.snd.snd.fst xx1.snd.snd.snd.snd, A]) (fun _ => by kernel_rfl) (@Go.Proofs.YtncdmccdclhokaaDoor.pick_d (((l2.getD i default).b)) ((nat_lit 256)) (by omega) (by first | rfl | decide | (constructor <;> omega) | (simp; done) | (simp; omega))) (by kernel_rfl) (by kernel_rfl) (by kernel_rfl) fun xx5 xh3 => ?_)
      try dsimp only at xh3
      obtain ⟨xh3_0, xh3_1⟩ := xh3
      refine Xg.ops_op (by kernel_rfl) (Xg.opx_int .i64 (Int.tmod (((↑xx5 : Int))) (((32 : Int)))) rfl (fun _ => by kernel_rfl) (Xg.rem_mod _ _ (by omega)) ?_)
      refine Xg.ops_op (by kernel_rfl) (Xg.opx_pure ((Value.int IntKind.i64 ((↑xx5 : Int) % (32 : Int)))) rfl (fun _ => by kernel_rfl) ?_)
      refine Xg.ops_nil ?_
      refine Xg.at_inBlock ?_
      refine Xg.at_seq ?_
      refine Xg.at_region ?_
      refine Xg.ops_op (by kernel_rfl) (Xg.opx_pure ((Value.pointer (some (Addr.mk xx1.fst (0 : Nat) none)))) rfl (fun _ => by kernel_rfl) ?_)
      refine Xg.ops_op (by kernel_rfl) (Xg.opx_call1' [0] [PoR xx1.fst (wrI (7 : Nat) σ (↑xx4 : Int)) (Value.slice xx1.snd.snd.fst xx1.snd.snd.snd.snd.length xx1.snd.snd.snd.fst), Drv te, bts xx1.snd.snd.fst xx1.snd.snd.snd.fst xx1.snd.snd.snd.snd, A] (fun _ => by kernel_rfl) (@Go.Proofs.YtncdmccdclhokaaDoor.read_7 (xx1.fst) ((wrI (7 : Nat) σ (↑xx4 : Int))) (by apply Go.Proofs.YtncdmccdclhokaaDoor.wr7 <;> first | assumption | omega | (constructor <;> omega)) ((Value.slice xx1.snd.snd.fst xx1.snd.snd.snd.snd.length xx1.snd.snd.snd.fst))) (by kernel_rfl) (by kernel_rfl) (by kernel_rfl) ?_)
      refine Xg.ops_op (by kernel_rfl) (Xg.opx_pure ((Value.tuple #[Value.int IntKind.i64 (rdI (7 : Nat) (wrI (7 : Nat) σ (↑xx4 : Int))), Value.int IntKind.i64 (0 : Int)])) rfl (fun _ => by kernel_rfl) ?_)
      refine Xg.ops_op (by kernel_rfl) (Xg.opx_pure ((Value.int IntKind.i64 (rdI (7 : Nat) (wrI (7 : Nat) σ (↑xx4 : Int))))) rfl (fun _ => by kernel_rfl) ?_)
      refine Xg.ops_op (by kernel_rfl) (Xg.opx_pure ((Value.int IntKind.i64 (0 : Int))) rfl (fun _ => by kernel_rfl) ?_)
      refine Xg.ops_op (by kernel_rfl) (Xg.opx_pure ((Value.int IntKind.i64 (rdI (7 : Nat) (wrI (7 : Nat) σ (↑xx4 : Int))))) rfl (fun _ => by kernel_rfl) ?_)
      refine Xg.ops_op (by kernel_rfl) (Xg.opx_pure ((Value.int IntKind.i64 (0 : Int))) rfl (fun _ => by kernel_rfl) ?_)
      refine Xg.ops_nil ?_
      refine Xg.at_seq ?_
      refine Xg.at_region ?_
      refine Xg.ops_op (by kernel_rfl) (Xg.opx_pure ((Value.int IntKind.i64 (0 : Int))) rfl (fun _ => by kernel_rfl) ?_)
      refine Xg.ops_op (by kernel_rfl) (Xg.opx_pure ((Value.bool false)) rfl (fun _ => by kernel_rfl) ?_)
      refine Xg.ops_op (by kernel_rfl) (Xg.opx_pure ((Value.bool false)) rfl (fun _ => by kernel_rfl) ?_)
      refine Xg.ops_op (by kernel_rfl) (Xg.opx_pure ((Value.int IntKind.i64 (0 : Int))) rfl (fun _ => by kernel_rfl) ?_)
      refine Xg.ops_op (by kernel_rfl) (Xg.opx_pure ((Value.bool false)) rfl (fun _ => by kernel_rfl) ?_)
      refine Xg.ops_op (by kernel_rfl) (Xg.opx_pure ((Value.bool false)) rfl (fun _ => by kernel_rfl) ?_)
      refine Xg.ops_op (by kernel_rfl) (Xg.opx_pure ((Value.bool false)) rfl (fun _ => by kernel_rfl) ?_)
      refine Xg.ops_op (by kernel_rfl) (Xg.opx_pure ((Value.pointer (some (Addr.mk xx1.fst (0 : Nat) none)))) rfl (fun _ => by kernel_rfl) ?_)
      refine Xg.ops_op (by kernel_rfl) (Xg.opx_call1' [0] [PoR xx1.fst (wrI (7 : Nat) σ (↑xx4 : Int)) (Value.slice xx1.snd.snd.fst xx1.snd.snd.snd.snd.length xx1.snd.snd.snd.fst), Drv te, bts xx1.snd.snd.fst xx1.snd.snd.snd.fst xx1.snd.snd.snd.snd, A] (fun _ => by kernel_rfl) (@Go.Proofs.YtncdmccdclhokaaDoor.requests_d (xx1.fst) ((wrI (7 : Nat) σ (↑xx4 : Int))) ((Value.slice xx1.snd.snd.fst xx1.snd.snd.snd.snd.length xx1.snd.snd.snd.fst)) (by apply Go.Proofs.YtncdmccdclhokaaDoor.wr7r <;> first | assumption | omega | (constructor <;> omega))) (by kernel_rfl) (by kernel_rfl) (by kernel_rfl) ?_)
      refine Xg.ops_op (by kernel_rfl) (Xg.opx_pure ((Value.int IntKind.i64 ((↑xx5 : Int) % (32 : Int)))) rfl (fun _ => by kernel_rfl) ?_)
      refine Xg.ops_op (by kernel_rfl) (Xg.opx_pure (.bool (!decide ((((wrI (7 : Nat) σ (↑xx4 : Int)).requests) : Int) = ((↑xx5 : Int) % (32 : Int))))) rfl (fun _ => by kernel_rfl) ?_)
      refine Xg.ops_op (by kernel_rfl) (Xg.opx_pure ((Value.bool !decide ((wrI (7 : Nat) σ (↑xx4 : Int)).requests = (↑xx5 : Int) % (32 : Int)))) rfl (fun _ => by kernel_rfl) ?_)
      refine Xg.ops_op (by kernel_rfl) (Xg.opx_pure ((Value.bool !decide ((wrI (7 : Nat) σ (↑xx4 : Int)).requests = (↑xx5 : Int) % (32 : Int)))) rfl (fun _ => by kernel_rfl) ?_)
      refine Xg.ops_flag (j := 90) (c := (!decide ((wrI (7 : Nat) σ (↑xx4 : Int)).requests = (↑xx5 : Int) % (32 : Int)))) (by kernel_rfl) (fun xh3 => ?_) (fun xh3 => ?_)
      replace xh3 : ¬ (((wrI (7 : Nat) σ (↑xx4 : Int)).requests = (↑xx5 : Int) % (32 : Int))) := by simpa using xh3
      rotate_left
      replace xh3 : ((wrI (7 : Nat) σ (↑xx4 : Int)).requests = (↑xx5 : Int) % (32 : Int)) := by simpa using xh3
      rotate_right
      refine Xg.ops_skip (by kernel_rfl) ?_
      refine Xg.ops_skip (by kernel_rfl) ?_
      refine Xg.ops_skip (by kernel_rfl) ?_
      refine Xg.ops_skip (by kernel_rfl) ?_
      refine Xg.ops_op (by kernel_rfl) (Xg.opx_pure ((Value.bool true)) rfl (fun _ => by kernel_rfl) ?_)
      refine Xg.ops_nil ?_
      refine Xg.at_true (t := true) (by kernel_rfl) rfl ?_
      refine Xg.at_seq ?_
      refine Xg.at_region ?_
      refine Xg.ops_op (by kernel_rfl) (Xg.opx_pure ((Value.bool false)) rfl (fun _ => by kernel_rfl) ?_)
      refine Xg.ops_nil ?_
      refine Xg.at_ret_ps (v := (Value.bool false)) [1, 3] [Drv te, A] Go.Proofs.Tryd.func8 (fun _ => by kernel_rfl) (by kernel_rfl) (by kernel_rfl) ?_
      rotate_left
      refine Xg.ops_op (by kernel_rfl) (Xg.opx_pure ((Value.int IntKind.i64 (rdI (7 : Nat) (wrI (7 : Nat) σ (↑xx4 : Int))))) rfl (fun _ => by kernel_rfl) ?_)
      refine Xg.ops_op (by kernel_rfl) (Xg.opx_pure ((Value.int IntKind.i64 ((↑xx5 : Int) % (32 : Int)))) rfl (fun _ => by kernel_rfl) ?_)
      refine Xg.ops_op (by kernel_rfl) (Xg.opx_int .i64 (IntKind.wrap .i64 (((224 : Int) + (↑xx5 : Int) % (32 : Int)))) rfl (fun _ => by kernel_rfl) (Xg.wrap_i64_in (by omega)) ?_)
      refine Xg.ops_op (by kernel_rfl) (Xg.opx_pure (.bool (!decide (((rdI (7 : Nat) (wrI (7 : Nat) σ (↑xx4 : Int))) : Int) = ((224 : Int) + (↑xx5 : Int) % (32 : Int))))) rfl (fun _ => by kernel_rfl) ?_)
      refine Xg.ops_op (by kernel_rfl) (Xg.opx_pure ((Value.bool !decide (rdI (7 : Nat) (wrI (7 : Nat) σ (↑xx4 : Int)) = (224 : Int) + (↑xx5 : Int) % (32 : Int)))) rfl (fun _ => by kernel_rfl) ?_)
      refine Xg.ops_nil ?_
      refine Xg.at_ndec (p := (rdI (7 : Nat) (wrI (7 : Nat) σ (↑xx4 : Int)) = (224 : Int) + (↑xx5 : Int) % (32 : Int))) (by kernel_rfl) (fun xh4 => ?_) (fun xh4 => ?_)
      refine Xg.at_seq ?_
      refine Xg.at_region ?_
      refine Xg.ops_op (by kernel_rfl) (Xg.opx_pure ((Value.bool false)) rfl (fun _ => by kernel_rfl) ?_)
      refine Xg.ops_nil ?_
      refine Xg.at_ret_ps (v := (Value.bool false)) [1, 3] [Drv te, A] Go.Proofs.Tryd.func8 (fun _ => by kernel_rfl) (by kernel_rfl) (by kernel_rfl) ?_
      rotate_left
      refine Xg.at_skip ?_
      refine Xg.at_inBlock ?_
      refine Xg.at_region ?_
      refine Xg.ops_op (by kernel_rfl) (Xg.opx_pure ((Value.int IntKind.i64 (↑i : Int))) rfl (fun _ => by kernel_rfl) ?_)
      refine Xg.ops_op (by kernel_rfl) (Xg.opx_int .i64 (IntKind.wrap .i64 (((↑i : Int) + (1 : Int)))) rfl (fun _ => by kernel_rfl) (Xg.wrap_i64_in (by omega)) ?_)
      refine Xg.ops_op (by kernel_rfl) (Xg.opx_pure ((Value.int IntKind.i64 ((↑i : Int) + (1 : Int)))) rfl (fun _ => by kernel_rfl) ?_)
      refine Xg.ops_nil ?_
      refine Xg.at_inLoop ?_)
    all_goals clear hm hr hl hrb hlb
    all_goals first
      | (have hk : xx2 < 5 := by omega
         rw [← ask_eq hq hk]
         exact Xg.at_back [0, 1, 2, 3] (by kernel_rfl) (fun J' => ih ((i + 1, { σ with requests := askI σ.requests (xx2 : Nat) }), J') ⟨by dsimp only; omega, wfR hw (by omega)⟩ (by dsimp only; omega)) (by kernel_rfl) (by kernel_rfl))
      | (have hk : xx2 < 5 := by omega
         rw [← take_eq hq hk]
         exact Xg.at_back [0, 1, 2, 3] (by kernel_rfl) (fun J' => ih ((i + 1, { σ with requests := takeI σ.requests (xx2 : Nat) }), J') ⟨by dsimp only; omega, wfT hw _⟩ (by dsimp only; omega)) (by kernel_rfl) (by kernel_rfl))
      | (have h4 : xx4 = pickN (l2.getD i default).b 256 ∧ xx4 < 256 := ⟨by assumption, by omega⟩
         have h5 : xx5 = pickN (l2.getD i default).b 256 ∧ xx5 < 256 := ⟨by assumption, by omega⟩
         have e45 : xx5 = xx4 := h5.1.trans h4.1.symm
         subst e45
         rw [← w7 (σ := σ) h4.2]
         exact Xg.at_back [0, 2, 1, 3] (by kernel_rfl) (fun J' => ih ((i + 1, wrI 7 σ (xx5 : Nat)), J') ⟨by dsimp only; omega, wr7 hw (by omega)⟩ (by dsimp only; omega)) (by kernel_rfl) (by kernel_rfl))
      | (exfalso
         have hk : xx2 < 5 := by omega
         first
         | exact absurd (ask_eq hq hk) (by assumption)
         | exact absurd (take_eq hq hk) (by assumption)
         | (refine absurd ?_ ‹¬ rdI 7 _ = _›; rw [← ask_eq hq hk, wrap_i64_in (by have := askI_bd hq xx2 hk; omega)]; exact rd7 (askI_bd hq _ hk))
         | (refine absurd ?_ ‹¬ rdI 7 _ = _›; rw [← take_eq hq hk, wrap_i64_in (by have := takeI_bd hq (xx2 : Nat); omega)]; exact rd7 (takeI_bd hq _))
         | (have h4 : xx4 = pickN (l2.getD i default).b 256 ∧ xx4 < 256 := ⟨by assumption, by omega⟩
            have h5 : xx5 = pickN (l2.getD i default).b 256 ∧ xx5 < 256 := ⟨by assumption, by omega⟩
            have e45 : xx5 = xx4 := h5.1.trans h4.1.symm
            subst e45
            first
            | exact absurd (w7 (σ := σ) h4.2) (by assumption)
            | exact absurd ((rd7 (wr7r hw ⟨by omega, by omega⟩)).trans (congrArg (224 + ·) (w7 (σ := σ) h4.2))) (by assumption)))
      | (clear ih; trace_state; sorry)
  · clear ih
    (focus
      refine Xg.at_seq ?_
      refine Xg.at_seq ?_
      refine Xg.at_region ?_
      refine Xg.ops_op (by kernel_rfl) (Xg.opx_pure ((Value.int IntKind.i64 (↑i : Int))) rfl (fun _ => by kernel_rfl) ?_)
      refine Xg.ops_op (by kernel_rfl) (Xg.opx_pure ((Value.slice lb nb lcb)) rfl (fun _ => by kernel_rfl) ?_)
      refine Xg.ops_op (by kernel_rfl) (Xg.opx_pure ((Value.int IntKind.i64 (↑nb : Int))) rfl (fun _ => by kernel_rfl) ?_)
      refine Xg.ops_op (by kernel_rfl) (Xg.opx_pure (.bool (decide ((((↑i : Int)) : Int) < ((↑nb : Int))))) rfl (fun _ => by kernel_rfl) ?_)
      refine Xg.ops_op (by kernel_rfl) (Xg.opx_pure ((Value.bool (decide ((↑i : Int) < (↑nb : Int))))) rfl (fun _ => by kernel_rfl) ?_)
      refine Xg.ops_flag (j := 22) (c := (decide ((↑i : Int) < (↑nb : Int)))) (by kernel_rfl) (fun xh1 => ?_) (fun xh1 => ?_)
      replace xh1 : ((↑i : Int) < (↑nb : Int)) := of_decide_eq_true xh1
      rotate_left
      replace xh1 : ¬ (((↑i : Int) < (↑nb : Int))) := of_decide_eq_false xh1
      rotate_right
      refine Xg.ops_op (by kernel_rfl) (Xg.opx_pure ((Value.int IntKind.i64 (↑i : Int))) rfl (fun _ => by kernel_rfl) ?_)
      refine Xg.ops_op (by kernel_rfl) (Xg.opx_pure (.bool (decide ((((↑i : Int)) : Int) < ((100 : Int))))) rfl (fun _ => by kernel_rfl) ?_)
      refine Xg.ops_op (by kernel_rfl) (Xg.opx_pure ((Value.bool (decide ((↑i : Int) < (100 : Int))))) rfl (fun _ => by kernel_rfl) ?_)
      refine Xg.ops_nil ?_
      refine Xg.at_false (t := decide (((↑i : Int) < (100 : Int)))) (by kernel_rfl) (decide_eq_false (by omega)) ?_
      refine Xg.at_exit rfl ?_
      refine Xg.at_seq ?_
      refine Xg.at_region ?_
      refine Xg.ops_op (by kernel_rfl) (Xg.opx_pure ((Value.bool true)) rfl (fun _ => by kernel_rfl) ?_)
      refine Xg.ops_nil ?_
      refine Xg.at_ret_ps (v := (Value.bool true)) [2, 3] [Drv te, A] Go.Proofs.Tryd.func8 (fun _ => by kernel_rfl) (by kernel_rfl) (by kernel_rfl) ?_
      exact ⟨by kernel_rfl, by kernel_rfl⟩
      refine Xg.ops_skip (by kernel_rfl) ?_
      refine Xg.ops_skip (by kernel_rfl) ?_
      refine Xg.ops_op (by kernel_rfl) (Xg.opx_pure ((Value.bool false)) rfl (fun _ => by kernel_rfl) ?_)
      refine Xg.ops_nil ?_
      refine Xg.at_false (t := false) (by kernel_rfl) rfl ?_
      refine Xg.at_exit rfl ?_
      refine Xg.at_seq ?_
      refine Xg.at_region ?_
      refine Xg.ops_op (by kernel_rfl) (Xg.opx_pure ((Value.bool true)) rfl (fun _ => by kernel_rfl) ?_)
      refine Xg.ops_nil ?_
      refine Xg.at_ret_ps (v := (Value.bool true)) [2, 3] [Drv te, A] Go.Proofs.Tryd.func8 (fun _ => by kernel_rfl) (by kernel_rfl) (by kernel_rfl) ?_
      exact ⟨by kernel_rfl, by kernel_rfl⟩)

end Go.Proofs.YtncdmccdclhokaaDoor
