/- The law SchedFair: the walk. -/
import Derived.Test.YtijjficnhpokdaaKP15
import Derived.Test.YtijjficnhpokdaaKS
namespace Go.Proofs.Ytijjficnhpokdaa
open Go.Sl Go.Xg
set_option linter.unusedVariables false
set_option linter.unusedSimpArgs false
set_option linter.unnecessarySimpa false
set_option maxHeartbeats 4000000
set_option maxRecDepth 100000


theorem fair_b (p k slot : Nat) (r : List (Int × Bool)) (q : Nat) (h64 : r.length ≤ 64) (hs : slot < k) (hq : next r (List.replicate k (-1)) = q) : Does Try.prog 13 [.pointer (some ⟨p, 0, none⟩), .int .i64 (slot : Nat)] [SchedP p r (List.replicate k (-1))]
    (Ret (.tuple #[.int .i64 (r.getD q default).1, .int .i64 0]) [SchedP p (r.eraseIdx q ++ [r.getD q default]) ((List.replicate k (-1)).set slot (r.getD q default).1)]) :=
  once_b0 p slot h64 (by rw [List.length_replicate]; exact hs) (by simp [List.getD, hs]) q hq
theorem fair_e (p k slot : Nat) (r : List (Int × Bool)) (v : Int) (hs : slot < k) (hv : 0 ≤ v) : Does Try.prog 14 [.pointer (some ⟨p, 0, none⟩), .int .i64 (slot : Nat)] [SchedP p r ((List.replicate k (-1)).set slot v)]
    (Ret (.tuple #[.int .i64 v, .int .i64 0]) [SchedP p r (List.replicate k (-1))]) := by
  have e : ((List.replicate k (-1 : Int)).set slot v).getD slot 0 = v := by simp [List.getD, hs]
  have h := once_e0 p (r := r) (s := (List.replicate k (-1)).set slot v) slot (by simp [hs]) (by rw [e]; exact hv)
  rwa [e, List.set_set, show (List.replicate k (-1 : Int)).set slot (-1) = List.replicate k (-1) from by
    apply List.ext_getElem (by simp)
    intro j h1 h2
    simp [List.getElem_set]] at h

theorem ac_take (r : List (Int × Int)) (i : Nat) : (recs acC r).take (i * 2) = recs acC (r.take i) := by
  induction r generalizing i with
  | nil => simp [recs]
  | cons x r ih =>
    cases i with
    | zero => simp [recs]
    | succ i =>
      have := ih i
      rw [List.take_succ_cons, show (i + 1) * 2 = i * 2 + 1 + 1 from by omega]
      simp only [recs, List.flatMap_cons] at *
      rw [← this]
      simp [acC]
theorem reads_hi_any {A : HP} {sz n c : Nat} {a : Option Addr} {vs : List Value} (hR : Reads A sz (.slice a n c) n vs) (h : Nat) (hh : h ≤ n) : Reads A sz (.slice a h c) h (vs.take (h * sz)) := by
  refine ⟨fun g F w hS => ?_⟩
  obtain ⟨a', c', e, hl, hc⟩ := hR.run g F w hS
  cases e
  refine ⟨_, _, rfl, ?_, fun j u hu => ?_⟩
  · rw [List.length_take, hl]
    exact Nat.min_eq_left (Nat.mul_le_mul_right _ hh)
  · rw [List.getElem?_take] at hu
    split at hu
    · exact hc j u hu
    · cases hu
theorem fair_rdy (A : HP) (a : Option Addr) (m c : Nat) (xs : List (Int × Int)) (hm : xs.length = m) (hmx : m ≤ maxLen) (hR : Reads A 2 (.slice a m c) m (recs acC xs)) (hB : ∀ i, i < m → i64ok (xs.getD i default).1 ∧ i64ok (xs.getD i default).2)
    (i j n me : Nat) (hi : i < m) (hn : 0 < n) (hn12 : n ≤ 12) (hj : j < 12) (hme : me < 12) : Does Try.prog 17 [.slice a ((i : Int) + 1).toNat c, .int .i64 (j : Nat), .int .i64 (n : Nat), .int .i64 (me : Nat)] [A] (Ret (.bool (rdyF n me xs (i + 1) j)) [A]) := by
  rw [show ((i : Int) + 1).toNat = i + 1 from by omega, ← rdyF_take n me xs (i + 1) j (i + 1) (Nat.le_refl _)]
  have h1 := reads_hi_any hR (i + 1) (by omega)
  rw [ac_take] at h1
  refine rdy_d A a (i + 1) c (xs.take (i + 1)) (by rw [List.length_take]; omega) (by omega) h1 (fun k hk => ?_) j n me hn hn12 hj hme
  have e : (xs.take (i + 1)).getD k default = xs.getD k default := by simp only [List.getD_eq_getElem?_getD, List.getElem?_take]; rw [if_pos hk]
  rw [e]; exact hB k (by omega)

set_option maxHeartbeats 0 in
theorem pfair_d (A : HP) (slots0 : Int) (hsl : i64ok slots0) (many0 : Int) (hma : i64ok many0) (who0 : Int) (hwh : i64ok who0) (a : Option Addr) (m c : Nat) (xs : List (Int × Int)) (hm : xs.length = m) (hmx : m ≤ maxLen) (hR : Reads A 2 (.slice a m c) m (recs acC xs)) (hB : m ≤ c ∧ ∀ i, i < m → i64ok (xs.getD i default).1 ∧ i64ok (xs.getD i default).2) :
    Does Try.prog 6 [.int .i64 slots0, .int .i64 many0, .int .i64 who0, .slice a m c] [A] (Ret (.bool true) [A]) := by
  obtain ⟨hmc, hB⟩ := hB
  have hmx0 := hmx
  have hR0 := hR
  unfold maxLen at hmx
  (focus
    refine Xg.spec_of Go.Proofs.Try.func6 rfl Go.Proofs.Try.ntmps6 fun g F => ?_)
  (focus
    refine Xg.at_seq ?_
    refine Xg.at_region ?_
    refine Xg.ops_op (by kernel_rfl) (Xg.opx_pure ((Value.bool false)) rfl (fun _ => by kernel_rfl) ?_)
    refine Xg.ops_nil ?_
    refine Xg.at_seq ?_
    refine Xg.at_region ?_
    refine Xg.ops_op (by kernel_rfl) (Xg.opx_call1' [] [A] (fun _ => by kernel_rfl) (@Go.Proofs.Ytijjficnhpokdaa.begun_d ) (by kernel_rfl) (by kernel_rfl) (by kernel_rfl) ?_)
    refine Xg.ops_op (by kernel_rfl) (Xg.opx_pure ((Value.bool true)) rfl (fun _ => by kernel_rfl) ?_)
    refine Xg.ops_nil ?_
    refine Xg.at_seq ?_
    refine Xg.at_region ?_
    refine Xg.ops_op (by kernel_rfl) (Xg.opx_pure ((iv slots0)) rfl (fun _ => by kernel_rfl) ?_)
    refine Xg.ops_op (by kernel_rfl) (Xg.opx_callE' [] (fun xx1 => [A]) (fun _ => by kernel_rfl) (@Go.Proofs.Ytijjficnhpokdaa.pick_d (slots0) ((nat_lit 8)) (by omega) (by first | rfl | decide | (constructor <;> omega) | (simp; done) | (simp; omega))) (by kernel_rfl) (by kernel_rfl) (by kernel_rfl) fun xx1 xh1 => ?_)
    try dsimp only at xh1
    obtain ⟨xh1_0, xh1_1⟩ := xh1
    refine Xg.ops_op (by kernel_rfl) (Xg.opx_int .i64 (IntKind.wrap .i64 (((1 : Int) + (↑xx1 : Int)))) rfl (fun _ => by kernel_rfl) (Xg.wrap_i64_in (by omega)) ?_)
    refine Xg.ops_op (by kernel_rfl) (Xg.opx_pure ((iv ((1 : Int) + (↑xx1 : Int)))) rfl (fun _ => by kernel_rfl) ?_)
    refine Xg.ops_nil ?_
    refine Xg.at_seq ?_
    refine Xg.at_region ?_
    refine Xg.ops_op (by kernel_rfl) (Xg.opx_pure ((iv many0)) rfl (fun _ => by kernel_rfl) ?_)
    refine Xg.ops_op (by kernel_rfl) (Xg.opx_callE' [] (fun xx2 => [A]) (fun _ => by kernel_rfl) (@Go.Proofs.Ytijjficnhpokdaa.pick_d (many0) ((nat_lit 12)) (by omega) (by first | rfl | decide | (constructor <;> omega) | (simp; done) | (simp; omega))) (by kernel_rfl) (by kernel_rfl) (by kernel_rfl) fun xx2 xh2 => ?_)
    try dsimp only at xh2
    obtain ⟨xh2_0, xh2_1⟩ := xh2
    refine Xg.ops_op (by kernel_rfl) (Xg.opx_int .i64 (IntKind.wrap .i64 (((1 : Int) + (↑xx2 : Int)))) rfl (fun _ => by kernel_rfl) (Xg.wrap_i64_in (by omega)) ?_)
    refine Xg.ops_op (by kernel_rfl) (Xg.opx_pure ((iv ((1 : Int) + (↑xx2 : Int)))) rfl (fun _ => by kernel_rfl) ?_)
    refine Xg.ops_nil ?_
    refine Xg.at_seq ?_
    refine Xg.at_region ?_
    refine Xg.ops_op (by kernel_rfl) (Xg.opx_pure ((iv who0)) rfl (fun _ => by kernel_rfl) ?_)
    refine Xg.ops_op (by kernel_rfl) (Xg.opx_pure ((iv ((1 : Int) + (↑xx2 : Int)))) rfl (fun _ => by kernel_rfl) ?_)
    refine Xg.ops_op (by kernel_rfl) (Xg.opx_callE' [] (fun xx3 => [A]) (fun _ => by kernel_rfl) (@Go.Proofs.Ytijjficnhpokdaa.pick_d (who0) ((nat_lit 1 + xx2)) (by omega) (by first | rfl | decide | (constructor <;> omega) | (simp; done) | (simp; omega))) (by kernel_rfl) (by kernel_rfl) (by kernel_rfl) fun xx3 xh3 => ?_)
    try dsimp only at xh3
    obtain ⟨xh3_0, xh3_1⟩ := xh3
    refine Xg.ops_op (by kernel_rfl) (Xg.opx_pure ((iv (↑xx3 : Int))) rfl (fun _ => by kernel_rfl) ?_)
    refine Xg.ops_nil ?_
    refine Xg.at_seq ?_
    refine Xg.at_region ?_
    refine Xg.ops_op (by kernel_rfl) (Xg.opx_pure ((iv ((1 : Int) + (↑xx1 : Int)))) rfl (fun _ => by kernel_rfl) ?_)
    refine Xg.ops_op (by kernel_rfl) (Xg.opx_pure ((iv ((1 : Int) + (↑xx2 : Int)))) rfl (fun _ => by kernel_rfl) ?_)
    refine Xg.ops_op (by kernel_rfl) (Xg.opx_callE' [] (fun xx4 => [SchedP xx4 (full (nat_lit 1 + xx2)) (List.replicate (nat_lit 1 + xx1) (-1 : Int)), A]) (fun _ => by kernel_rfl) (@Go.Proofs.Ytijjficnhpokdaa.made_d ((nat_lit 1 + xx1)) ((nat_lit 1 + xx2)) (by first | rfl | decide | (constructor <;> omega) | (simp; done) | (simp; omega)) (by first | rfl | decide | (constructor <;> omega) | (simp; done) | (simp; omega)) (by first | rfl | decide | (constructor <;> omega) | (simp; done) | (simp; omega))) (by kernel_rfl) (by kernel_rfl) (by kernel_rfl) fun xx4 xh4 => ?_)
    try dsimp only at xh4
    refine Xg.ops_op (by kernel_rfl) (Xg.opx_pure ((pv xx4 0)) rfl (fun _ => by kernel_rfl) ?_)
    refine Xg.ops_nil ?_
    refine Xg.at_seq ?_
    refine Xg.at_seq ?_
    refine Xg.at_region ?_
    refine Xg.ops_op (by kernel_rfl) (Xg.opx_pure ((Value.bool true)) rfl (fun _ => by kernel_rfl) ?_)
    refine Xg.ops_op (by kernel_rfl) (Xg.opx_pure (.bool false) rfl (fun _ => by kernel_rfl) ?_)
    refine Xg.ops_op (by kernel_rfl) (Xg.opx_pure ((Value.bool false)) rfl (fun _ => by kernel_rfl) ?_)
    refine Xg.ops_op (by kernel_rfl) (Xg.opx_pure ((pv xx4 0)) rfl (fun _ => by kernel_rfl) ?_)
    refine Xg.ops_op (by kernel_rfl) (Xg.opx_pure ((Value.bool false)) rfl (fun _ => by kernel_rfl) ?_)
    refine Xg.ops_op (by kernel_rfl) (Xg.opx_pure ((Value.bool false)) rfl (fun _ => by kernel_rfl) ?_)
    refine Xg.ops_nil ?_
    refine Xg.at_false (t := false) (by kernel_rfl) rfl ?_
    refine Xg.at_skip ?_
    refine Xg.at_seq ?_
    refine Xg.at_region ?_
    refine Xg.ops_op (by kernel_rfl) (Xg.opx_new_c (arrI fun (x : Nat) => (0 : Int)) (@Go.Proofs.Ytijjficnhpokdaa.zero_arrI ) fun xb1 => ?_)
    refine Xg.ops_nil ?_
    refine Xg.at_seq ?_
    refine Xg.at_region ?_
    refine Xg.ops_op (by kernel_rfl) (Xg.opx_new_c (arrB fun (x : Nat) => false) (@Go.Proofs.Ytijjficnhpokdaa.zero_arrB ) fun xb2 => ?_)
    refine Xg.ops_nil ?_
    refine Xg.at_seq ?_
    refine Xg.at_seq ?_
    refine Xg.at_region ?_
    refine Xg.ops_op (by kernel_rfl) (Xg.opx_pure ((iv 0)) rfl (fun _ => by kernel_rfl) ?_)
    refine Xg.ops_nil ?_
    refine Xg.at_block ?_)
  (focus
    refine Xg.at_keep [2, 1, 0, 3] (by kernel_rfl) ?_
    refine Xg.at_rounds_inv (α := (Nat × (Nat → Bool)) × (Nat → Value)) (fun x => ((fun x => x.1 ≤ (1 + xx2)) : (Nat × (Nat → Bool)) → Prop) x.1) (fun x => ((fun x => (1 + xx2) - x.1) : (Nat × (Nat → Bool)) → Nat) x.1) (fun x => Xg.headT [iv slots0, iv many0, iv who0, Value.slice a m c, tu, tu, tu, tu, Value.bool false, Value.bool true, iv ((1 : Int) + (↑xx1 : Int)), iv ((1 : Int) + (↑xx2 : Int)), iv (↑xx3 : Int), pv xx4 0, pv xb1 0, pv xb2 0, iv 0, tu, tu, tu, tu, tu, tu, tu, tu, tu, tu, tu, tu, tu, Value.bool true, iv slots0, iv (↑xx1 : Int), iv ((1 : Int) + (↑xx1 : Int)), iv many0, iv (↑xx2 : Int), iv ((1 : Int) + (↑xx2 : Int)), iv who0, iv ((1 : Int) + (↑xx2 : Int)), iv (↑xx3 : Int), iv ((1 : Int) + (↑xx1 : Int)), iv ((1 : Int) + (↑xx2 : Int)), pv xx4 0, Value.bool true, Value.bool false, Value.bool false, pv xx4 0, Value.bool false, Value.bool false, tu, tu, tu, tu, tu, tu, tu, tu, tu, tu, tu, tu, tu, tu, tu, tu, tu, tu, tu, tu, tu, tu, tu, tu, tu, tu, tu, tu, tu, tu, tu, tu, tu, tu, tu, tu, tu, tu, tu, tu, tu, tu, tu, tu, tu, tu, tu, tu, tu, tu, tu, tu, tu, tu, tu, tu, tu, tu, tu, tu, tu, tu, tu, tu, tu, tu, tu, tu, tu, tu, tu, tu, tu, tu, tu, tu, tu, tu, tu, tu, tu, tu, tu, tu, tu, tu, tu, tu, tu, tu, tu, tu, tu, tu, tu, tu, tu, tu, tu, tu, tu, tu, tu, tu, tu, tu, tu, tu, tu, tu, tu, tu, tu, tu, tu, tu, tu, tu, tu, tu, tu, tu, tu, tu, tu, tu, tu, tu, tu, tu, tu, tu, tu, tu, tu, tu, tu, tu, tu, tu, tu, tu, tu, tu, tu, tu] [49, 50, 51, 52, 53, 54, 55] (((fun x => [(16, .int .i64 (x.1 : Nat))]) : (Nat × (Nat → Bool)) → List (Nat × Go.Value)) x.1) x.2) (fun x => ((fun x => [SchedP xx4 (full (1 + xx2)) (List.replicate (1 + xx1) (-1)), row xb1 39 (arrI (fun _ => 0)), row xb2 40 (arrB x.2), A]) : (Nat × (Nat → Bool)) → List Go.Sl.HP) x.1) (((0, fun _ => false)), fun j9 => ([iv slots0, iv many0, iv who0, Value.slice a m c, tu, tu, tu, tu, Value.bool false, Value.bool true, iv ((1 : Int) + (↑xx1 : Int)), iv ((1 : Int) + (↑xx2 : Int)), iv (↑xx3 : Int), pv xx4 0, pv xb1 0, pv xb2 0, iv 0, tu, tu, tu, tu, tu, tu, tu, tu, tu, tu, tu, tu, tu, Value.bool true, iv slots0, iv (↑xx1 : Int), iv ((1 : Int) + (↑xx1 : Int)), iv many0, iv (↑xx2 : Int), iv ((1 : Int) + (↑xx2 : Int)), iv who0, iv ((1 : Int) + (↑xx2 : Int)), iv (↑xx3 : Int), iv ((1 : Int) + (↑xx1 : Int)), iv ((1 : Int) + (↑xx2 : Int)), pv xx4 0, Value.bool true, Value.bool false, Value.bool false, pv xx4 0, Value.bool false, Value.bool false, tu, tu, tu, tu, tu, tu, tu, tu, tu, tu, tu, tu, tu, tu, tu, tu, tu, tu, tu, tu, tu, tu, tu, tu, tu, tu, tu, tu, tu, tu, tu, tu, tu, tu, tu, tu, tu, tu, tu, tu, tu, tu, tu, tu, tu, tu, tu, tu, tu, tu, tu, tu, tu, tu, tu, tu, tu, tu, tu, tu, tu, tu, tu, tu, tu, tu, tu, tu, tu, tu, tu, tu, tu, tu, tu, tu, tu, tu, tu, tu, tu, tu, tu, tu, tu, tu, tu, tu, tu, tu, tu, tu, tu, tu, tu, tu, tu, tu, tu, tu, tu, tu, tu, tu, tu, tu, tu, tu, tu, tu, tu, tu, tu, tu, tu, tu, tu, tu, tu, tu, tu, tu, tu, tu, tu, tu, tu, tu, tu, tu, tu, tu, tu, tu, tu, tu, tu, tu, tu, tu, tu, tu, tu, tu, tu, tu] : List Value).getD j9 undef) (by kernel_rfl) (by kernel_rfl) ?_ ?_)
  · exact Nat.zero_le _
  rintro ⟨⟨i1, st1⟩, J⟩ hi1 ih
  dsimp only at hi1
  (focus
    refine Xg.At.same (T' := [iv slots0, iv many0, iv who0, Value.slice a m c, tu, tu, tu, tu, Value.bool false, Value.bool true, iv ((1 : Int) + (↑xx1 : Int)), iv ((1 : Int) + (↑xx2 : Int)), iv (↑xx3 : Int), pv xx4 0, pv xb1 0, pv xb2 0, iv (↑i1 : Int), tu, tu, tu, tu, tu, tu, tu, tu, tu, tu, tu, tu, tu, Value.bool true, iv slots0, iv (↑xx1 : Int), iv ((1 : Int) + (↑xx1 : Int)), iv many0, iv (↑xx2 : Int), iv ((1 : Int) + (↑xx2 : Int)), iv who0, iv ((1 : Int) + (↑xx2 : Int)), iv (↑xx3 : Int), iv ((1 : Int) + (↑xx1 : Int)), iv ((1 : Int) + (↑xx2 : Int)), pv xx4 0, Value.bool true, Value.bool false, Value.bool false, pv xx4 0, Value.bool false, Value.bool false, J 49, J 50, J 51, J 52, J 53, J 54, J 55, tu, tu, tu, tu, tu, tu, tu, tu, tu, tu, tu, tu, tu, tu, tu, tu, tu, tu, tu, tu, tu, tu, tu, tu, tu, tu, tu, tu, tu, tu, tu, tu, tu, tu, tu, tu, tu, tu, tu, tu, tu, tu, tu, tu, tu, tu, tu, tu, tu, tu, tu, tu, tu, tu, tu, tu, tu, tu, tu, tu, tu, tu, tu, tu, tu, tu, tu, tu, tu, tu, tu, tu, tu, tu, tu, tu, tu, tu, tu, tu, tu, tu, tu, tu, tu, tu, tu, tu, tu, tu, tu, tu, tu, tu, tu, tu, tu, tu, tu, tu, tu, tu, tu, tu, tu, tu, tu, tu, tu, tu, tu, tu, tu, tu, tu, tu, tu, tu, tu, tu, tu, tu, tu, tu, tu, tu, tu, tu, tu, tu, tu, tu, tu, tu, tu, tu, tu, tu, tu]) (L' := [SchedP xx4 (full ((1 : Nat) + xx2)) (List.replicate ((1 : Nat) + xx1) (-1 : Int)), row xb1 (39 : TypeId) (arrI fun (x : Nat) => (0 : Int)), row xb2 (40 : TypeId) (arrB ((i1, st1), J).fst.snd), A]) (by kernel_rfl) rfl ?_)
  by_cases hlt1 : i1 < (1 + xx2)
  · (focus
      refine Xg.at_seq ?_
      refine Xg.at_seq ?_
      refine Xg.at_region ?_
      refine Xg.ops_op (by kernel_rfl) (Xg.opx_pure ((iv (↑i1 : Int))) rfl (fun _ => by kernel_rfl) ?_)
      refine Xg.ops_op (by kernel_rfl) (Xg.opx_pure ((iv ((1 : Int) + (↑xx2 : Int)))) rfl (fun _ => by kernel_rfl) ?_)
      refine Xg.ops_op (by kernel_rfl) (Xg.opx_pure (.bool (decide ((((↑i1 : Int)) : Int) < ((1 : Int) + (↑xx2 : Int))))) rfl (fun _ => by kernel_rfl) ?_)
      refine Xg.ops_nil ?_
      refine Xg.at_true (t := decide (((↑i1 : Int) < (1 : Int) + (↑xx2 : Int)))) (by kernel_rfl) (decide_eq_true (by omega)) ?_
      refine Xg.at_skip ?_
      refine Xg.at_seq ?_
      refine Xg.at_block ?_
      refine Xg.at_region ?_
      refine Xg.ops_op (by kernel_rfl) (Xg.opx_pure ((iv (↑i1 : Int))) rfl (fun _ => by kernel_rfl) ?_)
      refine Xg.ops_op (by kernel_rfl) (Xg.opx_run (.pointer (some (Addr.mk xb2 i1 none))) rfl (Xg.run_ix_array' (elem := 4) (len := 12) (b := xb2) (off := ((0 : Nat))) (kd := .i64) (e := ((↑i1 : Int))) 1 i1 i1 (by kernel_rfl) (by kernel_rfl) (by kernel_rfl) (by kernel_rfl) rfl (by omega) (by omega)) ?_)
      refine Xg.ops_op (by kernel_rfl) (Xg.opx_store_c (off := i1) (cs' := (arrB (upd ((i1, st1), J).fst.snd i1 true))) 2 (Value.bool true) (by kernel_rfl) rfl (by kernel_rfl) (by kernel_rfl) (by kernel_rfl) (@Go.Proofs.Ytijjficnhpokdaa.s_boo ((((i1, st1), J).fst.snd)) (i1) (true) (by omega)) ?_)
      refine Xg.ops_nil ?_
      refine Xg.at_inBlock ?_
      refine Xg.at_region ?_
      refine Xg.ops_op (by kernel_rfl) (Xg.opx_pure ((iv (↑i1 : Int))) rfl (fun _ => by kernel_rfl) ?_)
      refine Xg.ops_op (by kernel_rfl) (Xg.opx_int .i64 (IntKind.wrap .i64 (((↑i1 : Int) + (1 : Int)))) rfl (fun _ => by kernel_rfl) (Xg.wrap_i64_in (by omega)) ?_)
      refine Xg.ops_op (by kernel_rfl) (Xg.opx_pure ((iv ((↑i1 : Int) + (1 : Int)))) rfl (fun _ => by kernel_rfl) ?_)
      refine Xg.ops_nil ?_
      refine Xg.at_inLoop ?_)
    (focus
      refine Xg.at_keep [0, 1, 2, 3] (by kernel_rfl) ?_
      refine Xs.same ?_ (fun J9 => ih (((i1 + 1, upd st1 i1 true)), J9) ?_ ?_) (by kernel_rfl))
    · rfl
    · dsimp only; omega
    · dsimp only; omega
  clear ih
  obtain ⟨e0, hF0⟩ := fair_full (1 + xx2) xx3 xs (by omega) st1
  rw [show full (1 + xx2) = (full (1 + xx2)).take xx3 ++ ((xx3 : Int), true) :: (full (1 + xx2)).drop (xx3 + 1) from e0]
  obtain ⟨pre0, hpre0⟩ : ∃ l, (full (1 + xx2)).take xx3 = l := ⟨_, rfl⟩
  obtain ⟨post0, hpost0⟩ : ∃ l, (full (1 + xx2)).drop (xx3 + 1) = l := ⟨_, rfl⟩
  rw [hpre0, hpost0] at hF0 ⊢
  clear hpre0 hpost0 e0
  (focus
    refine Xg.at_seq ?_
    refine Xg.at_seq ?_
    refine Xg.at_region ?_
    refine Xg.ops_op (by kernel_rfl) (Xg.opx_pure ((iv (↑i1 : Int))) rfl (fun _ => by kernel_rfl) ?_)
    refine Xg.ops_op (by kernel_rfl) (Xg.opx_pure ((iv ((1 : Int) + (↑xx2 : Int)))) rfl (fun _ => by kernel_rfl) ?_)
    refine Xg.ops_op (by kernel_rfl) (Xg.opx_pure (.bool (decide ((((↑i1 : Int)) : Int) < ((1 : Int) + (↑xx2 : Int))))) rfl (fun _ => by kernel_rfl) ?_)
    refine Xg.ops_nil ?_
    refine Xg.at_false (t := decide (((↑i1 : Int) < (1 : Int) + (↑xx2 : Int)))) (by kernel_rfl) (decide_eq_false (by omega)) ?_
    refine Xg.at_exit rfl ?_
    refine Xg.at_seq ?_
    refine Xg.at_region ?_
    refine Xg.ops_op (by kernel_rfl) (Xg.opx_pure ((iv 0)) rfl (fun _ => by kernel_rfl) ?_)
    refine Xg.ops_nil ?_
    refine Xg.at_seq ?_
    refine Xg.at_region ?_
    refine Xg.ops_op (by kernel_rfl) (Xg.opx_pure ((Value.bool false)) rfl (fun _ => by kernel_rfl) ?_)
    refine Xg.ops_nil ?_
    refine Xg.at_seq ?_
    refine Xg.at_seq ?_
    refine Xg.at_region ?_
    refine Xg.ops_op (by kernel_rfl) (Xg.opx_pure ((iv 0)) rfl (fun _ => by kernel_rfl) ?_)
    refine Xg.ops_nil ?_
    refine Xg.at_block ?_)
  (focus
    refine Xg.at_rounds_inv (α := (Nat × List (Int × Bool) × List (Int × Bool) × (Nat → Int) × (Nat → Bool) × Nat × Bool) × (Nat → Value)) (fun x => ((fun x => x.1 ≤ m ∧ Fair (1 + xx2) xx3 xs x.1 x.2.1 x.2.2.1 x.2.2.2.1 x.2.2.2.2.1 x.2.2.2.2.2.1 x.2.2.2.2.2.2) : (Nat × List (Int × Bool) × List (Int × Bool) × (Nat → Int) × (Nat → Bool) × Nat × Bool) → Prop) x.1) (fun x => ((fun x => m - x.1) : (Nat × List (Int × Bool) × List (Int × Bool) × (Nat → Int) × (Nat → Bool) × Nat × Bool) → Nat) x.1) (fun x => Xg.headT [iv slots0, iv many0, iv who0, Value.slice a m c, tu, tu, tu, tu, Value.bool false, Value.bool true, iv ((1 : Int) + (↑xx1 : Int)), iv ((1 : Int) + (↑xx2 : Int)), iv (↑xx3 : Int), pv xx4 0, pv xb1 0, pv xb2 0, iv (↑i1 : Int), iv 0, Value.bool false, iv 0, tu, tu, tu, tu, tu, tu, tu, tu, tu, tu, Value.bool true, iv slots0, iv (↑xx1 : Int), iv ((1 : Int) + (↑xx1 : Int)), iv many0, iv (↑xx2 : Int), iv ((1 : Int) + (↑xx2 : Int)), iv who0, iv ((1 : Int) + (↑xx2 : Int)), iv (↑xx3 : Int), iv ((1 : Int) + (↑xx1 : Int)), iv ((1 : Int) + (↑xx2 : Int)), pv xx4 0, Value.bool true, Value.bool false, Value.bool false, pv xx4 0, Value.bool false, Value.bool false, iv (↑i1 : Int), iv ((1 : Int) + (↑xx2 : Int)), Value.bool (decide ((↑i1 : Int) < (1 : Int) + (↑xx2 : Int))), J 52, J 53, J 54, J 55, tu, tu, tu, tu, tu, tu, tu, tu, tu, tu, tu, tu, tu, tu, tu, tu, tu, tu, tu, tu, tu, tu, tu, tu, tu, tu, tu, tu, tu, tu, tu, tu, tu, tu, tu, tu, tu, tu, tu, tu, tu, tu, tu, tu, tu, tu, tu, tu, tu, tu, tu, tu, tu, tu, tu, tu, tu, tu, tu, tu, tu, tu, tu, tu, tu, tu, tu, tu, tu, tu, tu, tu, tu, tu, tu, tu, tu, tu, tu, tu, tu, tu, tu, tu, tu, tu, tu, tu, tu, tu, tu, tu, tu, tu, tu, tu, tu, tu, tu, tu, tu, tu, tu, tu, tu, tu, tu, tu, tu, tu, tu, tu, tu, tu, tu, tu, tu, tu, tu, tu, tu, tu, tu, tu, tu, tu, tu, tu, tu, tu, tu, tu, tu, tu, tu, tu, tu, tu, tu] [8, 20, 21, 22, 23, 24, 25, 26, 27, 28, 29, 56, 57, 58, 59, 60, 61, 62, 63, 64, 65, 66, 67, 68, 69, 70, 71, 72, 73, 74, 75, 76, 77, 78, 79, 80, 81, 82, 83, 84, 85, 86, 87, 88, 89, 90, 91, 92, 93, 94, 95, 96, 97, 98, 99, 100, 101, 102, 103, 104, 105, 106, 107, 108, 109, 110, 111, 112, 113, 114, 115, 116, 117, 118, 119, 120, 121, 122, 123, 124, 125, 126, 127, 128, 129, 130, 131, 132, 133, 134, 135, 136, 137, 138, 139, 140, 141, 142, 143, 144, 145, 146, 147, 148, 149, 150, 151, 152, 153, 154, 155, 156, 157, 158, 159, 160, 161, 162, 163, 164, 165, 166, 167, 168, 169, 170, 171, 172, 173, 174, 175, 176, 177, 178, 179, 180, 181, 182, 183, 184, 185, 186, 187, 188, 189, 190, 191, 192, 193, 194] (((fun x => [(19, .int .i64 (x.1 : Nat)), (17, .int .i64 (x.2.2.2.2.2.1 : Nat)), (18, .bool x.2.2.2.2.2.2)]) : (Nat × List (Int × Bool) × List (Int × Bool) × (Nat → Int) × (Nat → Bool) × Nat × Bool) → List (Nat × Go.Value)) x.1) x.2) (fun x => ((fun x => [SchedP xx4 (x.2.1 ++ ((xx3 : Int), true) :: x.2.2.1) (List.replicate (1 + xx1) (-1)), row xb1 39 (arrI x.2.2.2.1), row xb2 40 (arrB x.2.2.2.2.1), A]) : (Nat × List (Int × Bool) × List (Int × Bool) × (Nat → Int) × (Nat → Bool) × Nat × Bool) → List Go.Sl.HP) x.1) (((0, pre0, post0, fun _ => 0, st1, 0, false)), fun j9 => ([iv slots0, iv many0, iv who0, Value.slice a m c, tu, tu, tu, tu, Value.bool false, Value.bool true, iv ((1 : Int) + (↑xx1 : Int)), iv ((1 : Int) + (↑xx2 : Int)), iv (↑xx3 : Int), pv xx4 0, pv xb1 0, pv xb2 0, iv (↑i1 : Int), iv 0, Value.bool false, iv 0, tu, tu, tu, tu, tu, tu, tu, tu, tu, tu, Value.bool true, iv slots0, iv (↑xx1 : Int), iv ((1 : Int) + (↑xx1 : Int)), iv many0, iv (↑xx2 : Int), iv ((1 : Int) + (↑xx2 : Int)), iv who0, iv ((1 : Int) + (↑xx2 : Int)), iv (↑xx3 : Int), iv ((1 : Int) + (↑xx1 : Int)), iv ((1 : Int) + (↑xx2 : Int)), pv xx4 0, Value.bool true, Value.bool false, Value.bool false, pv xx4 0, Value.bool false, Value.bool false, iv (↑i1 : Int), iv ((1 : Int) + (↑xx2 : Int)), Value.bool (decide ((↑i1 : Int) < (1 : Int) + (↑xx2 : Int))), J 52, J 53, J 54, J 55, tu, tu, tu, tu, tu, tu, tu, tu, tu, tu, tu, tu, tu, tu, tu, tu, tu, tu, tu, tu, tu, tu, tu, tu, tu, tu, tu, tu, tu, tu, tu, tu, tu, tu, tu, tu, tu, tu, tu, tu, tu, tu, tu, tu, tu, tu, tu, tu, tu, tu, tu, tu, tu, tu, tu, tu, tu, tu, tu, tu, tu, tu, tu, tu, tu, tu, tu, tu, tu, tu, tu, tu, tu, tu, tu, tu, tu, tu, tu, tu, tu, tu, tu, tu, tu, tu, tu, tu, tu, tu, tu, tu, tu, tu, tu, tu, tu, tu, tu, tu, tu, tu, tu, tu, tu, tu, tu, tu, tu, tu, tu, tu, tu, tu, tu, tu, tu, tu, tu, tu, tu, tu, tu, tu, tu, tu, tu, tu, tu, tu, tu, tu, tu, tu, tu, tu, tu, tu, tu] : List Value).getD j9 undef) (by kernel_rfl) (by kernel_rfl) ?_ ?_)
  · exact ⟨Nat.zero_le _, hF0⟩
  clear hF0
  rintro ⟨⟨i, pre, post, tq, st, w, mine⟩, J2⟩ ⟨hi, hF⟩ ih
  dsimp only at hi hF
  (focus
    refine Xg.At.same (T' := [iv slots0, iv many0, iv who0, Value.slice a m c, tu, tu, tu, tu, J2 8, Value.bool true, iv ((1 : Int) + (↑xx1 : Int)), iv ((1 : Int) + (↑xx2 : Int)), iv (↑xx3 : Int), pv xx4 0, pv xb1 0, pv xb2 0, iv (↑i1 : Int), iv (↑w : Int), Value.bool mine, iv (↑i : Int), J2 20, J2 21, J2 22, J2 23, J2 24, J2 25, J2 26, J2 27, J2 28, J2 29, Value.bool true, iv slots0, iv (↑xx1 : Int), iv ((1 : Int) + (↑xx1 : Int)), iv many0, iv (↑xx2 : Int), iv ((1 : Int) + (↑xx2 : Int)), iv who0, iv ((1 : Int) + (↑xx2 : Int)), iv (↑xx3 : Int), iv ((1 : Int) + (↑xx1 : Int)), iv ((1 : Int) + (↑xx2 : Int)), pv xx4 0, Value.bool true, Value.bool false, Value.bool false, pv xx4 0, Value.bool false, Value.bool false, iv (↑i1 : Int), iv ((1 : Int) + (↑xx2 : Int)), Value.bool (decide ((↑i1 : Int) < (1 : Int) + (↑xx2 : Int))), J 52, J 53, J 54, J 55, J2 56, J2 57, J2 58, J2 59, J2 60, J2 61, J2 62, J2 63, J2 64, J2 65, J2 66, J2 67, J2 68, J2 69, J2 70, J2 71, J2 72, J2 73, J2 74, J2 75, J2 76, J2 77, J2 78, J2 79, J2 80, J2 81, J2 82, J2 83, J2 84, J2 85, J2 86, J2 87, J2 88, J2 89, J2 90, J2 91, J2 92, J2 93, J2 94, J2 95, J2 96, J2 97, J2 98, J2 99, J2 100, J2 101, J2 102, J2 103, J2 104, J2 105, J2 106, J2 107, J2 108, J2 109, J2 110, J2 111, J2 112, J2 113, J2 114, J2 115, J2 116, J2 117, J2 118, J2 119, J2 120, J2 121, J2 122, J2 123, J2 124, J2 125, J2 126, J2 127, J2 128, J2 129, J2 130, J2 131, J2 132, J2 133, J2 134, J2 135, J2 136, J2 137, J2 138, J2 139, J2 140, J2 141, J2 142, J2 143, J2 144, J2 145, J2 146, J2 147, J2 148, J2 149, J2 150, J2 151, J2 152, J2 153, J2 154, J2 155, J2 156, J2 157, J2 158, J2 159, J2 160, J2 161, J2 162, J2 163, J2 164, J2 165, J2 166, J2 167, J2 168, J2 169, J2 170, J2 171, J2 172, J2 173, J2 174, J2 175, J2 176, J2 177, J2 178, J2 179, J2 180, J2 181, J2 182, J2 183, J2 184, J2 185, J2 186, J2 187, J2 188, J2 189, J2 190, J2 191, J2 192, J2 193, J2 194]) (L' := [SchedP xx4 (((i, pre, post, tq, st, w, mine), J2).fst.snd.fst ++ ((↑xx3 : Int), true) :: ((i, pre, post, tq, st, w, mine), J2).fst.snd.snd.fst) (List.replicate ((1 : Nat) + xx1) (-1 : Int)), row xb1 (39 : TypeId) (arrI ((i, pre, post, tq, st, w, mine), J2).fst.snd.snd.snd.fst), row xb2 (40 : TypeId) (arrB ((i, pre, post, tq, st, w, mine), J2).fst.snd.snd.snd.snd.fst), A]) (by kernel_rfl) rfl ?_)
  dsimp only
  by_cases hlt : i < m
  · obtain ⟨hBa, hBb⟩ := hB i hlt
    (focus
      refine Xg.at_seq ?_
      refine Xg.at_seq ?_
      refine Xg.at_region ?_
      refine Xg.ops_op (by kernel_rfl) (Xg.opx_pure ((iv (↑i : Int))) rfl (fun _ => by kernel_rfl) ?_)
      refine Xg.ops_op (by kernel_rfl) (Xg.opx_pure ((Value.slice a m c)) rfl (fun _ => by kernel_rfl) ?_)
      refine Xg.ops_op (by kernel_rfl) (Xg.opx_pure ((iv (↑m : Int))) rfl (fun _ => by kernel_rfl) ?_)
      refine Xg.ops_op (by kernel_rfl) (Xg.opx_pure (.bool (decide ((((↑i : Int)) : Int) < ((↑m : Int))))) rfl (fun _ => by kernel_rfl) ?_)
      refine Xg.ops_nil ?_
      refine Xg.at_true (t := decide (((↑i : Int) < (↑m : Int)))) (by kernel_rfl) (decide_eq_true (by omega)) ?_
      refine Xg.at_skip ?_
      refine Xg.at_seq ?_
      refine Xg.at_block ?_
      refine Xg.at_seq ?_
      refine Xg.at_region ?_
      refine Xg.ops_op (by kernel_rfl) (Xg.opx_pure ((Value.slice a m c)) rfl (fun _ => by kernel_rfl) ?_)
      refine Xg.ops_op (by kernel_rfl) (Xg.opx_pure ((iv (↑i : Int))) rfl (fun _ => by kernel_rfl) ?_)
      refine Xg.ops_op (by kernel_rfl) (Xg.opx_rd 3 (.pointer (some (Addr.mk (Xg.blk a) (offA a + i * (2 : Nat)) none))) rfl hR (by kernel_rfl) (Xg.run_ix_rd (elem := 33) (kd := .i64) (e := ((↑i : Int))) 2 i (offA a + i * (2 : Nat)) (by kernel_rfl) (by kernel_rfl) (by kernel_rfl) (by kernel_rfl) rfl (by omega) (by rw [Xg.recs_len (wd := 2) (fun _ => rfl)]; omega) (by omega)) ?_)
      refine Xg.ops_op (by kernel_rfl) (Xg.opx_rd 3 (.agg (List.toArray [iv (xs.getD i default).fst, iv (xs.getD i default).snd])) rfl hR (by kernel_rfl) (Xg.run_loadn_rd (off0 := (offA a + i * (2 : Nat))) 2 (i * (2 : Nat)) [iv (xs.getD i default).fst, iv (xs.getD i default).snd] (by kernel_rfl) (by kernel_rfl) (by omega) rfl (Xg.recs_at' (wd := 2) (fun _ => rfl) default i (by omega) (by omega) (by kernel_rfl)) (by kernel_rfl)) ?_)
      refine Xg.ops_op (by kernel_rfl) (Xg.opx_new 2 [iv 0, iv 0] (by kernel_rfl) (by kernel_rfl) fun xb3 => ?_)
      refine Xg.ops_op (by kernel_rfl) (Xg.opx_storen 2 (off := 0) 0 [iv (xs.getD i default).fst, iv (xs.getD i default).snd] (by kernel_rfl) rfl (by kernel_rfl) (by kernel_rfl) rfl (by kernel_rfl) (Nat.le_of_ble_eq_true (by kernel_rfl)) ?_)
      refine Xg.ops_nil ?_
      refine Xg.at_seq ?_
      refine Xg.at_region ?_
      refine Xg.ops_op (by kernel_rfl) (Xg.opx_pure ((pv xb3 1)) rfl (fun _ => by kernel_rfl) ?_)
      refine Xg.ops_op (by kernel_rfl) (Xg.opx_load (b := xb3) (off := ((1 : Nat))) 0 (iv (xs.getD i default).snd) rfl (by kernel_rfl) (by kernel_rfl) (by kernel_rfl) ?_)
      refine Xg.ops_op (by kernel_rfl) (Xg.opx_pure ((iv ((1 : Int) + (↑xx2 : Int)))) rfl (fun _ => by kernel_rfl) ?_)
      refine Xg.ops_op (by kernel_rfl) (Xg.opx_callE' [] (fun xx5 => [row xb3 (33 : Nat) [iv (xs.getD i default).fst, iv (xs.getD i default).snd], SchedP xx4 (pre ++ ((↑xx3 : Int), true) :: post) (List.replicate ((1 : Nat) + xx1) (-1 : Int)), row xb1 (39 : TypeId) (arrI tq), row xb2 (40 : TypeId) (arrB st), A]) (fun _ => by kernel_rfl) (@Go.Proofs.Ytijjficnhpokdaa.pick_d (((xs.getD i default).snd)) ((nat_lit 1 + xx2)) (by omega) (by first | rfl | decide | (constructor <;> omega) | (simp; done) | (simp; omega))) (by kernel_rfl) (by kernel_rfl) (by kernel_rfl) fun xx5 xh5 => ?_)
      try dsimp only at xh5
      obtain ⟨xh5_0, xh5_1⟩ := xh5
      refine Xg.ops_op (by kernel_rfl) (Xg.opx_pure ((iv (↑xx5 : Int))) rfl (fun _ => by kernel_rfl) ?_)
      refine Xg.ops_nil ?_
      refine Xg.at_seq ?_
      refine Xg.at_seq ?_
      refine Xg.at_region ?_
      refine Xg.ops_op (by kernel_rfl) (Xg.opx_pure ((pv xb3 0)) rfl (fun _ => by kernel_rfl) ?_)
      refine Xg.ops_op (by kernel_rfl) (Xg.opx_load (b := xb3) (off := ((0 : Nat))) 0 (iv (xs.getD i default).fst) rfl (by kernel_rfl) (by kernel_rfl) (by kernel_rfl) ?_)
      refine Xg.ops_op (by kernel_rfl) (Xg.opx_callE' [] (fun xx6 => [row xb3 (33 : Nat) [iv (xs.getD i default).fst, iv (xs.getD i default).snd], SchedP xx4 (pre ++ ((↑xx3 : Int), true) :: post) (List.replicate ((1 : Nat) + xx1) (-1 : Int)), row xb1 (39 : TypeId) (arrI tq), row xb2 (40 : TypeId) (arrB st), A]) (fun _ => by kernel_rfl) (@Go.Proofs.Ytijjficnhpokdaa.pick_d (((xs.getD i default).fst)) ((nat_lit 8)) (by omega) (by first | rfl | decide | (constructor <;> omega) | (simp; done) | (simp; omega))) (by kernel_rfl) (by kernel_rfl) (by kernel_rfl) fun xx6 xh6 => ?_)
      try dsimp only at xh6
      obtain ⟨xh6_0, xh6_1⟩ := xh6
      refine Xg.ops_op (by kernel_rfl) (Xg.opx_pure (.bool (decide ((((↑xx6 : Int)) : Int) ≥ ((6 : Int))))) rfl (fun _ => by kernel_rfl) ?_)
      refine Xg.ops_nil ?_)
    by_cases k6 : 6 ≤ xx6
    · by_cases hme : xx5 = xx3
      · have hF2 := hF.same (.inr (xh5_0.symm.trans hme))
        (focus
          refine Xg.at_true (t := decide (((↑xx6 : Int) ≥ (6 : Int)))) (by kernel_rfl) (decide_eq_true (by omega)) ?_
          refine Xg.at_seq ?_
          refine Xg.at_seq ?_
          refine Xg.at_region ?_
          refine Xg.ops_op (by kernel_rfl) (Xg.opx_pure ((iv (↑xx5 : Int))) rfl (fun _ => by kernel_rfl) ?_)
          refine Xg.ops_op (by kernel_rfl) (Xg.opx_pure ((iv (↑xx3 : Int))) rfl (fun _ => by kernel_rfl) ?_)
          refine Xg.ops_op (by kernel_rfl) (Xg.opx_pure (.bool (!decide ((((↑xx5 : Int)) : Int) = ((↑xx3 : Int))))) rfl (fun _ => by kernel_rfl) ?_)
          refine Xg.ops_nil ?_
          refine Xg.at_false (t := !decide (((↑xx5 : Int) = (↑xx3 : Int)))) (by kernel_rfl) (by rw [decide_eq_true (by omega)]; rfl) ?_
          refine Xg.at_skip ?_
          refine Xg.at_exit rfl ?_
          refine Xg.at_region ?_
          refine Xg.ops_op (by kernel_rfl) (Xg.opx_pure ((iv (↑i : Int))) rfl (fun _ => by kernel_rfl) ?_)
          refine Xg.ops_op (by kernel_rfl) (Xg.opx_int .i64 (IntKind.wrap .i64 (((↑i : Int) + (1 : Int)))) rfl (fun _ => by kernel_rfl) (Xg.wrap_i64_in (by omega)) ?_)
          refine Xg.ops_op (by kernel_rfl) (Xg.opx_pure ((iv ((↑i : Int) + (1 : Int)))) rfl (fun _ => by kernel_rfl) ?_)
          refine Xg.ops_nil ?_
          refine Xg.at_inLoop ?_)
        (focus
          refine Xg.at_keep [1, 2, 3, 4] (by kernel_rfl) ?_
          refine Xs.same ?_ (fun J9 => ih (((i + 1, pre, post, tq, st, w, mine)), J9) ?_ ?_) (by kernel_rfl))
        · rfl
        · exact ⟨by dsimp only; omega, hF2⟩
        · dsimp only; omega
      · obtain ⟨pre2, post2, er, hF2⟩ := hF.rdy xx5 (decide ((xx6 : Int) = (6 : Int))) (by omega) hme (by rw [← xh6_0]; exact k6) (by rw [← xh6_0]; exact decide_eq_decide.2 (by omega)) xh5_0.symm
        have hr := ready_d xx4 (pre ++ ((xx3 : Int), true) :: post) (List.replicate (1 + xx1) (-1)) xx5 (decide ((xx6 : Int) = (6 : Int)))
        have he : hasE (xx5 : Int) (pre ++ ((xx3 : Int), true) :: post) = 0 := by
          obtain ⟨b0, hb0⟩ := hF.all xx5 (by omega) hme
          have hat : 0 ≤ at_ (xx5 : Int) (pre ++ ((xx3 : Int), true) :: post) := (at_mem _ _).2 ⟨((xx5 : Int), b0), by
            rcases List.mem_append.1 hb0 with e | e
            · exact List.mem_append_left _ e
            · exact List.mem_append_right _ (.tail _ e), rfl⟩
          unfold hasE; rw [if_neg (by omega)]
        rw [he, er] at hr
        clear he er
        have hk6 : pickN (xs.getD i default).1 8 = xx6 := xh6_0.symm
        have hpk : Does Try.prog 11 [.int .i64 (xs.getD i default).1, .int .i64 8] [] (Ret (.int .i64 (xx6 : Nat)) []) := by
          have := pick_d (xs.getD i default).1 8 hBa (by decide)
          exact Does.mono this fun v ps ⟨x, ⟨h1, _⟩, h2, h3⟩ => ⟨by rw [h2, h1, hk6], h3⟩
        (focus
          refine Xg.at_true (t := decide (((↑xx6 : Int) ≥ (6 : Int)))) (by kernel_rfl) (decide_eq_true (by omega)) ?_
          refine Xg.at_seq ?_
          refine Xg.at_seq ?_
          refine Xg.at_region ?_
          refine Xg.ops_op (by kernel_rfl) (Xg.opx_pure ((iv (↑xx5 : Int))) rfl (fun _ => by kernel_rfl) ?_)
          refine Xg.ops_op (by kernel_rfl) (Xg.opx_pure ((iv (↑xx3 : Int))) rfl (fun _ => by kernel_rfl) ?_)
          refine Xg.ops_op (by kernel_rfl) (Xg.opx_pure (.bool (!decide ((((↑xx5 : Int)) : Int) = ((↑xx3 : Int))))) rfl (fun _ => by kernel_rfl) ?_)
          refine Xg.ops_nil ?_
          refine Xg.at_true (t := !decide (((↑xx5 : Int) = (↑xx3 : Int)))) (by kernel_rfl) (by rw [decide_eq_false (by omega)]; rfl) ?_
          refine Xg.at_seq ?_
          refine Xg.at_region ?_
          refine Xg.ops_op (by kernel_rfl) (Xg.opx_pure ((pv xx4 0)) rfl (fun _ => by kernel_rfl) ?_)
          refine Xg.ops_op (by kernel_rfl) (Xg.opx_pure ((iv (↑xx5 : Int))) rfl (fun _ => by kernel_rfl) ?_)
          refine Xg.ops_op (by kernel_rfl) (Xg.opx_pure ((pv xb3 0)) rfl (fun _ => by kernel_rfl) ?_)
          refine Xg.ops_op (by kernel_rfl) (Xg.opx_load (b := xb3) (off := ((0 : Nat))) 0 (iv (xs.getD i default).fst) rfl (by kernel_rfl) (by kernel_rfl) (by kernel_rfl) ?_)
          refine Xg.ops_op (by kernel_rfl) (Xg.opx_call1' [] [row xb3 (33 : Nat) [iv (xs.getD i default).fst, iv (xs.getD i default).snd], SchedP xx4 (pre ++ ((↑xx3 : Int), true) :: post) (List.replicate ((1 : Nat) + xx1) (-1 : Int)), row xb1 (39 : TypeId) (arrI tq), row xb2 (40 : TypeId) (arrB st), A] (fun _ => by kernel_rfl) (@hpk ) (by kernel_rfl) (by kernel_rfl) (by kernel_rfl) ?_)
          refine Xg.ops_op (by kernel_rfl) (Xg.opx_pure (.bool (decide ((((↑xx6 : Int)) : Int) = ((6 : Int))))) rfl (fun _ => by kernel_rfl) ?_)
          refine Xg.ops_op (by kernel_rfl) (Xg.opx_call1' [1] [SchedP xx4 (pre2 ++ ((↑xx3 : Int), true) :: post2) (List.replicate ((1 : Nat) + xx1) (-1 : Int)), row xb3 (33 : Nat) [iv (xs.getD i default).fst, iv (xs.getD i default).snd], row xb1 (39 : TypeId) (arrI tq), row xb2 (40 : TypeId) (arrB st), A] (fun _ => by kernel_rfl) (@hr ) (by kernel_rfl) (by kernel_rfl) (by kernel_rfl) ?_)
          refine Xg.ops_nil ?_
          refine Xg.at_region ?_
          refine Xg.ops_op (by kernel_rfl) (Xg.opx_pure ((iv (↑xx5 : Int))) rfl (fun _ => by kernel_rfl) ?_)
          refine Xg.ops_op (by kernel_rfl) (Xg.opx_pure ((iv (↑xx5 : Int))) rfl (fun _ => by kernel_rfl) ?_)
          refine Xg.ops_op (by kernel_rfl) (Xg.opx_run (.pointer (some (Addr.mk xb2 xx5 none))) rfl (Xg.run_ix_array' (elem := 4) (len := 12) (b := xb2) (off := ((0 : Nat))) (kd := .i64) (e := ((↑xx5 : Int))) 1 xx5 xx5 (by kernel_rfl) (by kernel_rfl) (by kernel_rfl) (by kernel_rfl) rfl (by omega) (by omega)) ?_)
          refine Xg.ops_op (by kernel_rfl) (Xg.opx_load (b := xb2) (off := xx5) 3 (Value.bool (st xx5)) rfl (by kernel_rfl) (@Go.Proofs.Ytijjficnhpokdaa.g_boo (st) (xx5) (by omega)) (by kernel_rfl) ?_)
          refine Xg.ops_op (by kernel_rfl) (Xg.opx_pure ((Value.bool (st xx5))) rfl (fun _ => by kernel_rfl) ?_)
          refine Xg.ops_flag (j := 88) (c := (st xx5)) (by kernel_rfl) (fun xh7 => ?_) (fun xh7 => ?_)
          refine Xg.ops_op (by kernel_rfl) (Xg.opx_pure ((pv xb3 0)) rfl (fun _ => by kernel_rfl) ?_)
          refine Xg.ops_op (by kernel_rfl) (Xg.opx_load (b := xb3) (off := ((0 : Nat))) 1 (iv (xs.getD i default).fst) rfl (by kernel_rfl) (by kernel_rfl) (by kernel_rfl) ?_)
          refine Xg.ops_op (by kernel_rfl) (Xg.opx_call1' [] [SchedP xx4 (pre2 ++ ((↑xx3 : Int), true) :: post2) (List.replicate ((1 : Nat) + xx1) (-1 : Int)), row xb3 (33 : Nat) [iv (xs.getD i default).fst, iv (xs.getD i default).snd], row xb1 (39 : TypeId) (arrI tq), row xb2 (40 : TypeId) (arrB st), A] (fun _ => by kernel_rfl) (@hpk ) (by kernel_rfl) (by kernel_rfl) (by kernel_rfl) ?_)
          refine Xg.ops_op (by kernel_rfl) (Xg.opx_pure (.bool (decide ((((↑xx6 : Int)) : Int) = ((6 : Int))))) rfl (fun _ => by kernel_rfl) ?_)
          refine Xg.ops_flag (j := 92) (c := (decide ((↑xx6 : Int) = (6 : Int)))) (by kernel_rfl) (fun xh8 => ?_) (fun xh8 => ?_)
          replace xh8 : ((↑xx6 : Int) = (6 : Int)) := of_decide_eq_true xh8
          rotate_left
          replace xh8 : ¬ (((↑xx6 : Int) = (6 : Int))) := of_decide_eq_false xh8
          rotate_right
          refine Xg.ops_op (by kernel_rfl) (Xg.opx_pure ((Value.bool true)) rfl (fun _ => by kernel_rfl) ?_)
          refine Xg.ops_op (by kernel_rfl) (Xg.opx_run (.pointer (some (Addr.mk xb2 xx5 none))) rfl (Xg.run_ix_array' (elem := 4) (len := 12) (b := xb2) (off := ((0 : Nat))) (kd := .i64) (e := ((↑xx5 : Int))) 1 xx5 xx5 (by kernel_rfl) (by kernel_rfl) (by kernel_rfl) (by kernel_rfl) rfl (by omega) (by omega)) ?_)
          refine Xg.ops_op (by kernel_rfl) (Xg.opx_store_c (off := xx5) (cs' := (arrB (upd st xx5 true))) 3 (Value.bool true) (by kernel_rfl) rfl (by kernel_rfl) (by kernel_rfl) (by kernel_rfl) (@Go.Proofs.Ytijjficnhpokdaa.s_boo (st) (xx5) (true) (by omega)) ?_)
          refine Xg.ops_nil ?_
          refine Xg.at_exit rfl ?_
          refine Xg.at_region ?_
          refine Xg.ops_op (by kernel_rfl) (Xg.opx_pure ((iv (↑i : Int))) rfl (fun _ => by kernel_rfl) ?_)
          refine Xg.ops_op (by kernel_rfl) (Xg.opx_int .i64 (IntKind.wrap .i64 (((↑i : Int) + (1 : Int)))) rfl (fun _ => by kernel_rfl) (Xg.wrap_i64_in (by omega)) ?_)
          refine Xg.ops_op (by kernel_rfl) (Xg.opx_pure ((iv ((↑i : Int) + (1 : Int)))) rfl (fun _ => by kernel_rfl) ?_)
          refine Xg.ops_nil ?_
          refine Xg.at_inLoop ?_
          rotate_left
          refine Xg.ops_op (by kernel_rfl) (Xg.opx_pure ((Value.bool false)) rfl (fun _ => by kernel_rfl) ?_)
          refine Xg.ops_op (by kernel_rfl) (Xg.opx_run (.pointer (some (Addr.mk xb2 xx5 none))) rfl (Xg.run_ix_array' (elem := 4) (len := 12) (b := xb2) (off := ((0 : Nat))) (kd := .i64) (e := ((↑xx5 : Int))) 1 xx5 xx5 (by kernel_rfl) (by kernel_rfl) (by kernel_rfl) (by kernel_rfl) rfl (by omega) (by omega)) ?_)
          refine Xg.ops_op (by kernel_rfl) (Xg.opx_store_c (off := xx5) (cs' := (arrB (upd st xx5 false))) 3 (Value.bool false) (by kernel_rfl) rfl (by kernel_rfl) (by kernel_rfl) (by kernel_rfl) (@Go.Proofs.Ytijjficnhpokdaa.s_boo (st) (xx5) (false) (by omega)) ?_)
          refine Xg.ops_nil ?_
          refine Xg.at_exit rfl ?_
          refine Xg.at_region ?_
          refine Xg.ops_op (by kernel_rfl) (Xg.opx_pure ((iv (↑i : Int))) rfl (fun _ => by kernel_rfl) ?_)
          refine Xg.ops_op (by kernel_rfl) (Xg.opx_int .i64 (IntKind.wrap .i64 (((↑i : Int) + (1 : Int)))) rfl (fun _ => by kernel_rfl) (Xg.wrap_i64_in (by omega)) ?_)
          refine Xg.ops_op (by kernel_rfl) (Xg.opx_pure ((iv ((↑i : Int) + (1 : Int)))) rfl (fun _ => by kernel_rfl) ?_)
          refine Xg.ops_nil ?_
          refine Xg.at_inLoop ?_
          rotate_left
          refine Xg.ops_skip (by kernel_rfl) ?_
          refine Xg.ops_skip (by kernel_rfl) ?_
          refine Xg.ops_skip (by kernel_rfl) ?_
          refine Xg.ops_skip (by kernel_rfl) ?_
          refine Xg.ops_op (by kernel_rfl) (Xg.opx_pure ((Value.bool false)) rfl (fun _ => by kernel_rfl) ?_)
          refine Xg.ops_op (by kernel_rfl) (Xg.opx_run (.pointer (some (Addr.mk xb2 xx5 none))) rfl (Xg.run_ix_array' (elem := 4) (len := 12) (b := xb2) (off := ((0 : Nat))) (kd := .i64) (e := ((↑xx5 : Int))) 1 xx5 xx5 (by kernel_rfl) (by kernel_rfl) (by kernel_rfl) (by kernel_rfl) rfl (by omega) (by omega)) ?_)
          refine Xg.ops_op (by kernel_rfl) (Xg.opx_store_c (off := xx5) (cs' := (arrB (upd st xx5 false))) 3 (Value.bool false) (by kernel_rfl) rfl (by kernel_rfl) (by kernel_rfl) (by kernel_rfl) (@Go.Proofs.Ytijjficnhpokdaa.s_boo (st) (xx5) (false) (by omega)) ?_)
          refine Xg.ops_nil ?_
          refine Xg.at_exit rfl ?_
          refine Xg.at_region ?_
          refine Xg.ops_op (by kernel_rfl) (Xg.opx_pure ((iv (↑i : Int))) rfl (fun _ => by kernel_rfl) ?_)
          refine Xg.ops_op (by kernel_rfl) (Xg.opx_int .i64 (IntKind.wrap .i64 (((↑i : Int) + (1 : Int)))) rfl (fun _ => by kernel_rfl) (Xg.wrap_i64_in (by omega)) ?_)
          refine Xg.ops_op (by kernel_rfl) (Xg.opx_pure ((iv ((↑i : Int) + (1 : Int)))) rfl (fun _ => by kernel_rfl) ?_)
          refine Xg.ops_nil ?_
          refine Xg.at_inLoop ?_)
        · have hF3 : Fair (1 + xx2) xx3 xs (i + 1) pre2 post2 tq (upd st xx5 false) w mine := by
            rw [show (st xx5 && decide ((xx6 : Int) = (6 : Int))) = false from by rw [‹st xx5 = false›, Bool.false_and]] at hF2
            exact hF2
          (focus
            refine Xg.at_keep [0, 2, 3, 4] (by kernel_rfl) ?_
            refine Xs.same ?_ (fun J9 => ih (((i + 1, pre2, post2, tq, upd st xx5 false, w, mine)), J9) ?_ ?_) (by kernel_rfl))
          · rfl
          · exact ⟨by dsimp only; omega, hF3⟩
          · dsimp only; omega
        · have hF3 : Fair (1 + xx2) xx3 xs (i + 1) pre2 post2 tq (upd st xx5 true) w mine := by
            rw [show (st xx5 && decide ((xx6 : Int) = (6 : Int))) = true from by rw [‹st xx5 = true›, decide_eq_true (p := (xx6 : Int) = (6 : Int)) (by omega)]; rfl] at hF2
            exact hF2
          (focus
            refine Xg.at_keep [0, 2, 3, 4] (by kernel_rfl) ?_
            refine Xs.same ?_ (fun J9 => ih (((i + 1, pre2, post2, tq, upd st xx5 true, w, mine)), J9) ?_ ?_) (by kernel_rfl))
          · rfl
          · exact ⟨by dsimp only; omega, hF3⟩
          · dsimp only; omega
        · have hF3 : Fair (1 + xx2) xx3 xs (i + 1) pre2 post2 tq (upd st xx5 false) w mine := by
            rw [show (st xx5 && decide ((xx6 : Int) = (6 : Int))) = false from by rw [‹st xx5 = true›, decide_eq_false (p := (xx6 : Int) = (6 : Int)) (by omega)]; rfl] at hF2
            exact hF2
          (focus
            refine Xg.at_keep [0, 2, 3, 4] (by kernel_rfl) ?_
            refine Xs.same ?_ (fun J9 => ih (((i + 1, pre2, post2, tq, upd st xx5 false, w, mine)), J9) ?_ ?_) (by kernel_rfl))
          · rfl
          · exact ⟨by dsimp only; omega, hF3⟩
          · dsimp only; omega
    · have hpk : Does Try.prog 11 [.int .i64 (xs.getD i default).2, .int .i64 ((1 + xx1 : Nat) : Int)] [] (RetE (fun x : Nat => x < 1 + xx1) (fun x => .int .i64 (x : Nat)) (fun _ => [])) :=
        Does.mono (pick_d (xs.getD i default).2 (1 + xx1) hBb (by omega)) fun v ps ⟨x, ⟨_, h2⟩, h3, h4⟩ => ⟨x, h2, h3, h4⟩
      have hk6 : pickN (xs.getD i default).1 8 < 6 := by omega
      have h64 : (pre ++ ((xx3 : Int), true) :: post).length ≤ 64 := by have := hF.len; simp; omega
      have hnx := hF.nxt (1 + xx1)
      (focus
        refine Xg.at_false (t := decide (((↑xx6 : Int) ≥ (6 : Int)))) (by kernel_rfl) (decide_eq_false (by omega)) ?_
        refine Xg.at_skip ?_
        refine Xg.at_seq ?_
        refine Xg.at_region ?_
        refine Xg.ops_op (by kernel_rfl) (Xg.opx_pure ((pv xb3 1)) rfl (fun _ => by kernel_rfl) ?_)
        refine Xg.ops_op (by kernel_rfl) (Xg.opx_load (b := xb3) (off := ((1 : Nat))) 0 (iv (xs.getD i default).snd) rfl (by kernel_rfl) (by kernel_rfl) (by kernel_rfl) ?_)
        refine Xg.ops_op (by kernel_rfl) (Xg.opx_pure ((iv ((1 : Int) + (↑xx1 : Int)))) rfl (fun _ => by kernel_rfl) ?_)
        refine Xg.ops_op (by kernel_rfl) (Xg.opx_callE' [] (fun xx7 => [row xb3 (33 : Nat) [iv (xs.getD i default).fst, iv (xs.getD i default).snd], SchedP xx4 (pre ++ ((↑xx3 : Int), true) :: post) (List.replicate ((1 : Nat) + xx1) (-1 : Int)), row xb1 (39 : TypeId) (arrI tq), row xb2 (40 : TypeId) (arrB st), A]) (fun _ => by kernel_rfl) (@Go.Proofs.Ytijjficnhpokdaa.pick_d (((xs.getD i default).snd)) ((nat_lit 1 + xx1)) (by omega) (by first | rfl | decide | (constructor <;> omega) | (simp; done) | (simp; omega))) (by kernel_rfl) (by kernel_rfl) (by kernel_rfl) fun xx7 xh7 => ?_)
        try dsimp only at xh7
        obtain ⟨xh7_0, xh7_1⟩ := xh7
        refine Xg.ops_op (by kernel_rfl) (Xg.opx_pure ((iv (↑xx7 : Int))) rfl (fun _ => by kernel_rfl) ?_)
        refine Xg.ops_nil ?_
        refine Xg.at_seq ?_)
      by_cases hq : fidx (fun x : Int × Bool => x.2) pre < 0
      · rw [if_neg (by omega)] at hnx
        have hb := fair_b xx4 (1 + xx1) xx7 _ pre.length h64 (by omega) hnx
        have he := fair_e xx4 (1 + xx1) xx7 (pre ++ (post ++ [((xx3 : Int), true)])) (xx3 : Int) (by omega) (by omega)
        rw [show (pre ++ ((xx3 : Int), true) :: post).getD pre.length default = ((xx3 : Int), true) from by simp [List.getD], show (pre ++ ((xx3 : Int), true) :: post).eraseIdx pre.length ++ [((xx3 : Int), true)] = pre ++ (post ++ [((xx3 : Int), true)]) from by rw [List.eraseIdx_append_of_length_le (Nat.le_refl _), Nat.sub_self]; simp] at hb
        dsimp only at hb
        (focus
          refine Xg.at_region ?_
          refine Xg.ops_op (by kernel_rfl) (Xg.opx_pure ((pv xx4 0)) rfl (fun _ => by kernel_rfl) ?_)
          refine Xg.ops_op (by kernel_rfl) (Xg.opx_pure ((iv (↑xx7 : Int))) rfl (fun _ => by kernel_rfl) ?_)
          refine Xg.ops_op (by kernel_rfl) (Xg.opx_call1' [1] [SchedP xx4 (pre ++ (post ++ [((↑xx3 : Int), true)])) ((List.replicate ((1 : Nat) + xx1) (-1 : Int)).set xx7 (↑xx3 : Int)), row xb3 (33 : Nat) [iv (xs.getD i default).fst, iv (xs.getD i default).snd], row xb1 (39 : TypeId) (arrI tq), row xb2 (40 : TypeId) (arrB st), A] (fun _ => by kernel_rfl) (@hb ) (by kernel_rfl) (by kernel_rfl) (by kernel_rfl) ?_)
          refine Xg.ops_op (by kernel_rfl) (Xg.opx_pure ((Value.tuple #[iv (↑xx3 : Int), iv 0])) rfl (fun _ => by kernel_rfl) ?_)
          refine Xg.ops_op (by kernel_rfl) (Xg.opx_pure ((iv (↑xx3 : Int))) rfl (fun _ => by kernel_rfl) ?_)
          refine Xg.ops_op (by kernel_rfl) (Xg.opx_pure ((iv 0)) rfl (fun _ => by kernel_rfl) ?_)
          refine Xg.ops_op (by kernel_rfl) (Xg.opx_pure ((iv (↑xx3 : Int))) rfl (fun _ => by kernel_rfl) ?_)
          refine Xg.ops_op (by kernel_rfl) (Xg.opx_pure ((iv 0)) rfl (fun _ => by kernel_rfl) ?_)
          refine Xg.ops_nil ?_
          refine Xg.at_seq ?_
          refine Xg.at_region ?_
          refine Xg.ops_op (by kernel_rfl) (Xg.opx_pure ((pv xx4 0)) rfl (fun _ => by kernel_rfl) ?_)
          refine Xg.ops_op (by kernel_rfl) (Xg.opx_pure ((iv (↑xx7 : Int))) rfl (fun _ => by kernel_rfl) ?_)
          refine Xg.ops_op (by kernel_rfl) (Xg.opx_call1' [0] [SchedP xx4 (pre ++ (post ++ [((↑xx3 : Int), true)])) (List.replicate ((1 : Nat) + xx1) (-1 : Int)), row xb3 (33 : Nat) [iv (xs.getD i default).fst, iv (xs.getD i default).snd], row xb1 (39 : TypeId) (arrI tq), row xb2 (40 : TypeId) (arrB st), A] (fun _ => by kernel_rfl) (@he ) (by kernel_rfl) (by kernel_rfl) (by kernel_rfl) ?_)
          refine Xg.ops_op (by kernel_rfl) (Xg.opx_pure ((Value.tuple #[iv (↑xx3 : Int), iv 0])) rfl (fun _ => by kernel_rfl) ?_)
          refine Xg.ops_op (by kernel_rfl) (Xg.opx_pure ((iv (↑xx3 : Int))) rfl (fun _ => by kernel_rfl) ?_)
          refine Xg.ops_op (by kernel_rfl) (Xg.opx_pure ((iv 0)) rfl (fun _ => by kernel_rfl) ?_)
          refine Xg.ops_op (by kernel_rfl) (Xg.opx_pure ((iv (↑xx3 : Int))) rfl (fun _ => by kernel_rfl) ?_)
          refine Xg.ops_op (by kernel_rfl) (Xg.opx_pure ((iv 0)) rfl (fun _ => by kernel_rfl) ?_)
          refine Xg.ops_nil ?_
          refine Xg.at_seq ?_
          refine Xg.at_seq ?_
          refine Xg.at_region ?_
          refine Xg.ops_op (by kernel_rfl) (Xg.opx_pure ((iv 0)) rfl (fun _ => by kernel_rfl) ?_)
          refine Xg.ops_op (by kernel_rfl) (Xg.opx_pure ((Value.bool false)) rfl (fun _ => by kernel_rfl) ?_)
          refine Xg.ops_op (by kernel_rfl) (Xg.opx_pure ((Value.bool false)) rfl (fun _ => by kernel_rfl) ?_)
          refine Xg.ops_op (by kernel_rfl) (Xg.opx_pure ((iv 0)) rfl (fun _ => by kernel_rfl) ?_)
          refine Xg.ops_op (by kernel_rfl) (Xg.opx_pure ((Value.bool false)) rfl (fun _ => by kernel_rfl) ?_)
          refine Xg.ops_op (by kernel_rfl) (Xg.opx_pure ((Value.bool false)) rfl (fun _ => by kernel_rfl) ?_)
          refine Xg.ops_op (by kernel_rfl) (Xg.opx_pure ((Value.bool false)) rfl (fun _ => by kernel_rfl) ?_)
          refine Xg.ops_op (by kernel_rfl) (Xg.opx_pure ((iv (↑xx3 : Int))) rfl (fun _ => by kernel_rfl) ?_)
          refine Xg.ops_op (by kernel_rfl) (Xg.opx_pure (.bool (decide ((((↑xx3 : Int)) : Int) < ((0 : Int))))) rfl (fun _ => by kernel_rfl) ?_)
          refine Xg.ops_flag (j := 119) (c := (decide ((↑xx3 : Int) < (0 : Int)))) (by kernel_rfl) (fun xh8 => absurd (of_decide_eq_true xh8) (by omega)) (fun _ => ?_)
          refine Xg.ops_op (by kernel_rfl) (Xg.opx_pure ((Value.bool false)) rfl (fun _ => by kernel_rfl) ?_)
          refine Xg.ops_op (by kernel_rfl) (Xg.opx_pure ((Value.bool false)) rfl (fun _ => by kernel_rfl) ?_)
          refine Xg.ops_op (by kernel_rfl) (Xg.opx_pure ((iv (↑xx3 : Int))) rfl (fun _ => by kernel_rfl) ?_)
          refine Xg.ops_op (by kernel_rfl) (Xg.opx_pure ((iv ((1 : Int) + (↑xx2 : Int)))) rfl (fun _ => by kernel_rfl) ?_)
          refine Xg.ops_op (by kernel_rfl) (Xg.opx_pure (.bool (decide ((((↑xx3 : Int)) : Int) ≥ ((1 : Int) + (↑xx2 : Int))))) rfl (fun _ => by kernel_rfl) ?_)
          refine Xg.ops_flag (j := 124) (c := (decide ((↑xx3 : Int) ≥ (1 : Int) + (↑xx2 : Int)))) (by kernel_rfl) (fun xh8 => absurd (of_decide_eq_true xh8) (by omega)) (fun _ => ?_)
          refine Xg.ops_op (by kernel_rfl) (Xg.opx_pure ((Value.bool false)) rfl (fun _ => by kernel_rfl) ?_)
          refine Xg.ops_nil ?_
          refine Xg.at_false (t := false) (by kernel_rfl) rfl ?_
          refine Xg.at_skip ?_
          refine Xg.at_seq ?_
          refine Xg.at_region ?_
          refine Xg.ops_op (by kernel_rfl) (Xg.opx_pure ((iv (↑w : Int))) rfl (fun _ => by kernel_rfl) ?_)
          refine Xg.ops_op (by kernel_rfl) (Xg.opx_pure (.int .i64 (IntKind.wrap .i64 (((↑w : Int) + (1 : Int))))) rfl (fun _ => by kernel_rfl) ?_)
          refine Xg.ops_op (by kernel_rfl) (Xg.opx_pure ((iv (IntKind.i64.wrap ((↑w : Int) + (1 : Int))))) rfl (fun _ => by kernel_rfl) ?_)
          refine Xg.ops_nil ?_
          refine Xg.at_seq ?_
          refine Xg.at_seq ?_
          refine Xg.at_region ?_
          refine Xg.ops_op (by kernel_rfl) (Xg.opx_pure ((iv (↑xx3 : Int))) rfl (fun _ => by kernel_rfl) ?_)
          refine Xg.ops_op (by kernel_rfl) (Xg.opx_pure ((iv (↑xx3 : Int))) rfl (fun _ => by kernel_rfl) ?_)
          refine Xg.ops_op (by kernel_rfl) (Xg.opx_pure (.bool (!decide ((((↑xx3 : Int)) : Int) = ((↑xx3 : Int))))) rfl (fun _ => by kernel_rfl) ?_)
          refine Xg.ops_nil ?_
          refine Xg.at_false (t := !decide (((↑xx3 : Int) = (↑xx3 : Int)))) (by kernel_rfl) (by rw [decide_eq_true (by omega)]; rfl) ?_
          refine Xg.at_skip ?_
          refine Xg.at_seq ?_
          refine Xg.at_seq ?_
          refine Xg.at_region ?_
          refine Xg.ops_op (by kernel_rfl) (Xg.opx_pure ((iv 0)) rfl (fun _ => by kernel_rfl) ?_)
          refine Xg.ops_nil ?_
          refine Xg.at_block ?_)
        have hok := hF.mine_ok hq
        (focus
          refine Xg.at_keep [0, 2, 3, 4] (by kernel_rfl) ?_
          refine Xg.at_rounds_inv (α := (Nat × (Nat → Int) × (Nat → Bool)) × (Nat → Value)) (fun x => ((fun x => x.1 ≤ (1 + xx2) ∧ (∀ q, q < x.1 → x.2.1 q = 0) ∧ (∀ q, x.1 ≤ q → x.2.1 q = tq q ∧ x.2.2 q = st q)) : (Nat × (Nat → Int) × (Nat → Bool)) → Prop) x.1) (fun x => ((fun x => (1 + xx2) - x.1) : (Nat × (Nat → Int) × (Nat → Bool)) → Nat) x.1) (fun x => Xg.headT [iv slots0, iv many0, iv who0, Value.slice a m c, tu, tu, tu, tu, J2 (8 : Nat), Value.bool true, iv ((1 : Int) + (↑xx1 : Int)), iv ((1 : Int) + (↑xx2 : Int)), iv (↑xx3 : Int), pv xx4 0, pv xb1 0, pv xb2 0, iv (↑i1 : Int), iv (IntKind.i64.wrap ((↑w : Int) + (1 : Int))), Value.bool mine, iv (↑i : Int), pv xb3 0, iv (↑xx5 : Int), iv (↑xx7 : Int), iv (↑xx3 : Int), iv 0, iv (↑xx3 : Int), iv 0, iv 0, J2 (28 : Nat), J2 (29 : Nat), Value.bool true, iv slots0, iv (↑xx1 : Int), iv ((1 : Int) + (↑xx1 : Int)), iv many0, iv (↑xx2 : Int), iv ((1 : Int) + (↑xx2 : Int)), iv who0, iv ((1 : Int) + (↑xx2 : Int)), iv (↑xx3 : Int), iv ((1 : Int) + (↑xx1 : Int)), iv ((1 : Int) + (↑xx2 : Int)), pv xx4 0, Value.bool true, Value.bool false, Value.bool false, pv xx4 0, Value.bool false, Value.bool false, iv (↑i1 : Int), iv ((1 : Int) + (↑xx2 : Int)), Value.bool (decide ((↑i1 : Int) < (1 : Int) + (↑xx2 : Int))), J (52 : Nat), J (53 : Nat), J (54 : Nat), J (55 : Nat), iv (↑i : Int), Value.slice a m c, iv (↑m : Int), Value.bool (decide ((↑i : Int) < (↑m : Int))), J2 (60 : Nat), J2 (61 : Nat), Value.slice a m c, iv (↑i : Int), Value.pointer (some (Addr.mk (blk a) (offA a + i * (2 : Nat)) none)), Value.agg #[iv (xs.getD i default).fst, iv (xs.getD i default).snd], pv xb3 1, iv (xs.getD i default).snd, iv ((1 : Int) + (↑xx2 : Int)), iv (↑xx5 : Int), pv xb3 0, iv (xs.getD i default).fst, iv (↑xx6 : Int), Value.bool (decide ((↑xx6 : Int) ≥ (6 : Int))), J2 (74 : Nat), J2 (75 : Nat), J2 (76 : Nat), J2 (77 : Nat), J2 (78 : Nat), J2 (79 : Nat), J2 (80 : Nat), J2 (81 : Nat), J2 (82 : Nat), J2 (83 : Nat), J2 (84 : Nat), J2 (85 : Nat), J2 (86 : Nat), J2 (87 : Nat), J2 (88 : Nat), J2 (89 : Nat), J2 (90 : Nat), J2 (91 : Nat), J2 (92 : Nat), J2 (93 : Nat), J2 (94 : Nat), pv xb3 1, iv (xs.getD i default).snd, iv ((1 : Int) + (↑xx1 : Int)), iv (↑xx7 : Int), Value.tuple #[iv (↑xx3 : Int), iv 0], pv xx4 0, iv (↑xx7 : Int), Value.tuple #[iv (↑xx3 : Int), iv 0], iv (↑xx3 : Int), iv 0, Value.tuple #[iv (↑xx3 : Int), iv 0], pv xx4 0, iv (↑xx7 : Int), Value.tuple #[iv (↑xx3 : Int), iv 0], iv (↑xx3 : Int), iv 0, iv 0, Value.bool false, Value.bool false, iv 0, Value.bool false, Value.bool false, Value.bool false, iv (↑xx3 : Int), Value.bool false, Value.bool false, Value.bool false, iv (↑xx3 : Int), iv ((1 : Int) + (↑xx2 : Int)), Value.bool false, Value.bool false, iv (↑w : Int), iv (IntKind.i64.wrap ((↑w : Int) + (1 : Int))), iv (↑xx3 : Int), iv (↑xx3 : Int), Value.bool !decide ((↑xx3 : Int) = (↑xx3 : Int)), J2 (131 : Nat), J2 (132 : Nat), J2 (133 : Nat), J2 (134 : Nat), J2 (135 : Nat), J2 (136 : Nat), J2 (137 : Nat), J2 (138 : Nat), J2 (139 : Nat), J2 (140 : Nat), J2 (141 : Nat), J2 (142 : Nat), J2 (143 : Nat), J2 (144 : Nat), J2 (145 : Nat), J2 (146 : Nat), J2 (147 : Nat), J2 (148 : Nat), J2 (149 : Nat), J2 (150 : Nat), J2 (151 : Nat), J2 (152 : Nat), J2 (153 : Nat), J2 (154 : Nat), J2 (155 : Nat), J2 (156 : Nat), J2 (157 : Nat), J2 (158 : Nat), J2 (159 : Nat), J2 (160 : Nat), J2 (161 : Nat), J2 (162 : Nat), J2 (163 : Nat), J2 (164 : Nat), J2 (165 : Nat), J2 (166 : Nat), J2 (167 : Nat), J2 (168 : Nat), J2 (169 : Nat), J2 (170 : Nat), J2 (171 : Nat), J2 (172 : Nat), J2 (173 : Nat), J2 (174 : Nat), J2 (175 : Nat), J2 (176 : Nat), J2 (177 : Nat), J2 (178 : Nat), J2 (179 : Nat), J2 (180 : Nat), J2 (181 : Nat), J2 (182 : Nat), J2 (183 : Nat), J2 (184 : Nat), J2 (185 : Nat), J2 (186 : Nat), J2 (187 : Nat), J2 (188 : Nat), J2 (189 : Nat), J2 (190 : Nat), J2 (191 : Nat), J2 (192 : Nat), J2 (193 : Nat), J2 (194 : Nat)] [8, 139, 140, 141, 142, 143, 144, 145, 146, 147, 148, 149, 150, 151, 152, 153, 154, 155, 156, 157, 158, 159, 160, 161, 162, 163, 164] (((fun x => [(27, .int .i64 (x.1 : Nat))]) : (Nat × (Nat → Int) × (Nat → Bool)) → List (Nat × Go.Value)) x.1) x.2) (fun x => ((fun x => [SchedP xx4 (pre ++ (post ++ [((xx3 : Int), true)])) (List.replicate (1 + xx1) (-1)), row xb1 39 (arrI x.2.1), row xb2 40 (arrB x.2.2), A]) : (Nat × (Nat → Int) × (Nat → Bool)) → List Go.Sl.HP) x.1) (((0, tq, st)), fun j9 => ([iv slots0, iv many0, iv who0, Value.slice a m c, tu, tu, tu, tu, J2 (8 : Nat), Value.bool true, iv ((1 : Int) + (↑xx1 : Int)), iv ((1 : Int) + (↑xx2 : Int)), iv (↑xx3 : Int), pv xx4 0, pv xb1 0, pv xb2 0, iv (↑i1 : Int), iv (IntKind.i64.wrap ((↑w : Int) + (1 : Int))), Value.bool mine, iv (↑i : Int), pv xb3 0, iv (↑xx5 : Int), iv (↑xx7 : Int), iv (↑xx3 : Int), iv 0, iv (↑xx3 : Int), iv 0, iv 0, J2 (28 : Nat), J2 (29 : Nat), Value.bool true, iv slots0, iv (↑xx1 : Int), iv ((1 : Int) + (↑xx1 : Int)), iv many0, iv (↑xx2 : Int), iv ((1 : Int) + (↑xx2 : Int)), iv who0, iv ((1 : Int) + (↑xx2 : Int)), iv (↑xx3 : Int), iv ((1 : Int) + (↑xx1 : Int)), iv ((1 : Int) + (↑xx2 : Int)), pv xx4 0, Value.bool true, Value.bool false, Value.bool false, pv xx4 0, Value.bool false, Value.bool false, iv (↑i1 : Int), iv ((1 : Int) + (↑xx2 : Int)), Value.bool (decide ((↑i1 : Int) < (1 : Int) + (↑xx2 : Int))), J (52 : Nat), J (53 : Nat), J (54 : Nat), J (55 : Nat), iv (↑i : Int), Value.slice a m c, iv (↑m : Int), Value.bool (decide ((↑i : Int) < (↑m : Int))), J2 (60 : Nat), J2 (61 : Nat), Value.slice a m c, iv (↑i : Int), Value.pointer (some (Addr.mk (blk a) (offA a + i * (2 : Nat)) none)), Value.agg #[iv (xs.getD i default).fst, iv (xs.getD i default).snd], pv xb3 1, iv (xs.getD i default).snd, iv ((1 : Int) + (↑xx2 : Int)), iv (↑xx5 : Int), pv xb3 0, iv (xs.getD i default).fst, iv (↑xx6 : Int), Value.bool (decide ((↑xx6 : Int) ≥ (6 : Int))), J2 (74 : Nat), J2 (75 : Nat), J2 (76 : Nat), J2 (77 : Nat), J2 (78 : Nat), J2 (79 : Nat), J2 (80 : Nat), J2 (81 : Nat), J2 (82 : Nat), J2 (83 : Nat), J2 (84 : Nat), J2 (85 : Nat), J2 (86 : Nat), J2 (87 : Nat), J2 (88 : Nat), J2 (89 : Nat), J2 (90 : Nat), J2 (91 : Nat), J2 (92 : Nat), J2 (93 : Nat), J2 (94 : Nat), pv xb3 1, iv (xs.getD i default).snd, iv ((1 : Int) + (↑xx1 : Int)), iv (↑xx7 : Int), Value.tuple #[iv (↑xx3 : Int), iv 0], pv xx4 0, iv (↑xx7 : Int), Value.tuple #[iv (↑xx3 : Int), iv 0], iv (↑xx3 : Int), iv 0, Value.tuple #[iv (↑xx3 : Int), iv 0], pv xx4 0, iv (↑xx7 : Int), Value.tuple #[iv (↑xx3 : Int), iv 0], iv (↑xx3 : Int), iv 0, iv 0, Value.bool false, Value.bool false, iv 0, Value.bool false, Value.bool false, Value.bool false, iv (↑xx3 : Int), Value.bool false, Value.bool false, Value.bool false, iv (↑xx3 : Int), iv ((1 : Int) + (↑xx2 : Int)), Value.bool false, Value.bool false, iv (↑w : Int), iv (IntKind.i64.wrap ((↑w : Int) + (1 : Int))), iv (↑xx3 : Int), iv (↑xx3 : Int), Value.bool !decide ((↑xx3 : Int) = (↑xx3 : Int)), J2 (131 : Nat), J2 (132 : Nat), J2 (133 : Nat), J2 (134 : Nat), J2 (135 : Nat), J2 (136 : Nat), J2 (137 : Nat), J2 (138 : Nat), J2 (139 : Nat), J2 (140 : Nat), J2 (141 : Nat), J2 (142 : Nat), J2 (143 : Nat), J2 (144 : Nat), J2 (145 : Nat), J2 (146 : Nat), J2 (147 : Nat), J2 (148 : Nat), J2 (149 : Nat), J2 (150 : Nat), J2 (151 : Nat), J2 (152 : Nat), J2 (153 : Nat), J2 (154 : Nat), J2 (155 : Nat), J2 (156 : Nat), J2 (157 : Nat), J2 (158 : Nat), J2 (159 : Nat), J2 (160 : Nat), J2 (161 : Nat), J2 (162 : Nat), J2 (163 : Nat), J2 (164 : Nat), J2 (165 : Nat), J2 (166 : Nat), J2 (167 : Nat), J2 (168 : Nat), J2 (169 : Nat), J2 (170 : Nat), J2 (171 : Nat), J2 (172 : Nat), J2 (173 : Nat), J2 (174 : Nat), J2 (175 : Nat), J2 (176 : Nat), J2 (177 : Nat), J2 (178 : Nat), J2 (179 : Nat), J2 (180 : Nat), J2 (181 : Nat), J2 (182 : Nat), J2 (183 : Nat), J2 (184 : Nat), J2 (185 : Nat), J2 (186 : Nat), J2 (187 : Nat), J2 (188 : Nat), J2 (189 : Nat), J2 (190 : Nat), J2 (191 : Nat), J2 (192 : Nat), J2 (193 : Nat), J2 (194 : Nat)] : List Value).getD j9 undef) (by kernel_rfl) (by kernel_rfl) ?_ ?_)
        · exact ⟨Nat.zero_le _, fun q h => absurd h (Nat.not_lt_zero _), fun q _ => ⟨rfl, rfl⟩⟩
        rintro ⟨⟨jj, tu2, st2⟩, J3⟩ ⟨hj, hz0, hz1⟩ ih2
        dsimp only at hj hz0 hz1
        (focus
          refine Xg.At.same (T' := [iv slots0, iv many0, iv who0, Value.slice a m c, tu, tu, tu, tu, J3 8, Value.bool true, iv ((1 : Int) + (↑xx1 : Int)), iv ((1 : Int) + (↑xx2 : Int)), iv (↑xx3 : Int), pv xx4 0, pv xb1 0, pv xb2 0, iv (↑i1 : Int), iv (IntKind.i64.wrap ((↑w : Int) + (1 : Int))), Value.bool mine, iv (↑i : Int), pv xb3 0, iv (↑xx5 : Int), iv (↑xx7 : Int), iv (↑xx3 : Int), iv 0, iv (↑xx3 : Int), iv 0, iv (↑jj : Int), J2 (28 : Nat), J2 (29 : Nat), Value.bool true, iv slots0, iv (↑xx1 : Int), iv ((1 : Int) + (↑xx1 : Int)), iv many0, iv (↑xx2 : Int), iv ((1 : Int) + (↑xx2 : Int)), iv who0, iv ((1 : Int) + (↑xx2 : Int)), iv (↑xx3 : Int), iv ((1 : Int) + (↑xx1 : Int)), iv ((1 : Int) + (↑xx2 : Int)), pv xx4 0, Value.bool true, Value.bool false, Value.bool false, pv xx4 0, Value.bool false, Value.bool false, iv (↑i1 : Int), iv ((1 : Int) + (↑xx2 : Int)), Value.bool (decide ((↑i1 : Int) < (1 : Int) + (↑xx2 : Int))), J (52 : Nat), J (53 : Nat), J (54 : Nat), J (55 : Nat), iv (↑i : Int), Value.slice a m c, iv (↑m : Int), Value.bool (decide ((↑i : Int) < (↑m : Int))), J2 (60 : Nat), J2 (61 : Nat), Value.slice a m c, iv (↑i : Int), Value.pointer (some (Addr.mk (blk a) (offA a + i * (2 : Nat)) none)), Value.agg #[iv (xs.getD i default).fst, iv (xs.getD i default).snd], pv xb3 1, iv (xs.getD i default).snd, iv ((1 : Int) + (↑xx2 : Int)), iv (↑xx5 : Int), pv xb3 0, iv (xs.getD i default).fst, iv (↑xx6 : Int), Value.bool (decide ((↑xx6 : Int) ≥ (6 : Int))), J2 (74 : Nat), J2 (75 : Nat), J2 (76 : Nat), J2 (77 : Nat), J2 (78 : Nat), J2 (79 : Nat), J2 (80 : Nat), J2 (81 : Nat), J2 (82 : Nat), J2 (83 : Nat), J2 (84 : Nat), J2 (85 : Nat), J2 (86 : Nat), J2 (87 : Nat), J2 (88 : Nat), J2 (89 : Nat), J2 (90 : Nat), J2 (91 : Nat), J2 (92 : Nat), J2 (93 : Nat), J2 (94 : Nat), pv xb3 1, iv (xs.getD i default).snd, iv ((1 : Int) + (↑xx1 : Int)), iv (↑xx7 : Int), Value.tuple #[iv (↑xx3 : Int), iv 0], pv xx4 0, iv (↑xx7 : Int), Value.tuple #[iv (↑xx3 : Int), iv 0], iv (↑xx3 : Int), iv 0, Value.tuple #[iv (↑xx3 : Int), iv 0], pv xx4 0, iv (↑xx7 : Int), Value.tuple #[iv (↑xx3 : Int), iv 0], iv (↑xx3 : Int), iv 0, iv 0, Value.bool false, Value.bool false, iv 0, Value.bool false, Value.bool false, Value.bool false, iv (↑xx3 : Int), Value.bool false, Value.bool false, Value.bool false, iv (↑xx3 : Int), iv ((1 : Int) + (↑xx2 : Int)), Value.bool false, Value.bool false, iv (↑w : Int), iv (IntKind.i64.wrap ((↑w : Int) + (1 : Int))), iv (↑xx3 : Int), iv (↑xx3 : Int), Value.bool !decide ((↑xx3 : Int) = (↑xx3 : Int)), J2 (131 : Nat), J2 (132 : Nat), J2 (133 : Nat), J2 (134 : Nat), J2 (135 : Nat), J2 (136 : Nat), J2 (137 : Nat), J2 (138 : Nat), J3 139, J3 140, J3 141, J3 142, J3 143, J3 144, J3 145, J3 146, J3 147, J3 148, J3 149, J3 150, J3 151, J3 152, J3 153, J3 154, J3 155, J3 156, J3 157, J3 158, J3 159, J3 160, J3 161, J3 162, J3 163, J3 164, J2 (165 : Nat), J2 (166 : Nat), J2 (167 : Nat), J2 (168 : Nat), J2 (169 : Nat), J2 (170 : Nat), J2 (171 : Nat), J2 (172 : Nat), J2 (173 : Nat), J2 (174 : Nat), J2 (175 : Nat), J2 (176 : Nat), J2 (177 : Nat), J2 (178 : Nat), J2 (179 : Nat), J2 (180 : Nat), J2 (181 : Nat), J2 (182 : Nat), J2 (183 : Nat), J2 (184 : Nat), J2 (185 : Nat), J2 (186 : Nat), J2 (187 : Nat), J2 (188 : Nat), J2 (189 : Nat), J2 (190 : Nat), J2 (191 : Nat), J2 (192 : Nat), J2 (193 : Nat), J2 (194 : Nat)]) (L' := [SchedP xx4 (pre ++ (post ++ [((↑xx3 : Int), true)])) (List.replicate ((1 : Nat) + xx1) (-1 : Int)), row xb1 (39 : TypeId) (arrI ((jj, tu2, st2), J3).fst.snd.fst), row xb2 (40 : TypeId) (arrB ((jj, tu2, st2), J3).fst.snd.snd), A]) (by kernel_rfl) rfl ?_)
        by_cases hlj : jj < (1 + xx2)
        · obtain ⟨hj1, hj2⟩ := hz1 jj (Nat.le_refl _)
          have hinv : (∀ q, q < jj + 1 → upd tu2 jj 0 q = 0) ∧ (∀ q, jj + 1 ≤ q → upd tu2 jj 0 q = tq q ∧ upd st2 jj true q = st q) := by
            refine ⟨fun q hq => ?_, fun q hq => ?_⟩
            · unfold upd; split
              · rfl
              · exact hz0 q (by omega)
            · unfold upd; rw [if_neg (by omega), if_neg (by omega)]; exact hz1 q (by omega)
          have hokj := hok jj hlj
          rw [← hj1, ← hj2] at hokj
          by_cases hjm : jj = xx3
          · (focus
              refine Xg.at_seq ?_
              refine Xg.at_seq ?_
              refine Xg.at_region ?_
              refine Xg.ops_op (by kernel_rfl) (Xg.opx_pure ((iv (↑jj : Int))) rfl (fun _ => by kernel_rfl) ?_)
              refine Xg.ops_op (by kernel_rfl) (Xg.opx_pure ((iv ((1 : Int) + (↑xx2 : Int)))) rfl (fun _ => by kernel_rfl) ?_)
              refine Xg.ops_op (by kernel_rfl) (Xg.opx_pure (.bool (decide ((((↑jj : Int)) : Int) < ((1 : Int) + (↑xx2 : Int))))) rfl (fun _ => by kernel_rfl) ?_)
              refine Xg.ops_nil ?_
              refine Xg.at_true (t := decide (((↑jj : Int) < (1 : Int) + (↑xx2 : Int)))) (by kernel_rfl) (decide_eq_true (by omega)) ?_
              refine Xg.at_skip ?_
              refine Xg.at_seq ?_
              refine Xg.at_block ?_
              refine Xg.at_seq ?_
              refine Xg.at_seq ?_
              refine Xg.at_region ?_
              refine Xg.ops_op (by kernel_rfl) (Xg.opx_pure ((iv (↑jj : Int))) rfl (fun _ => by kernel_rfl) ?_)
              refine Xg.ops_op (by kernel_rfl) (Xg.opx_pure ((iv (↑xx3 : Int))) rfl (fun _ => by kernel_rfl) ?_)
              refine Xg.ops_op (by kernel_rfl) (Xg.opx_pure (.bool (!decide ((((↑jj : Int)) : Int) = ((↑xx3 : Int))))) rfl (fun _ => by kernel_rfl) ?_)
              refine Xg.ops_op (by kernel_rfl) (Xg.opx_pure ((Value.bool !decide ((↑jj : Int) = (↑xx3 : Int)))) rfl (fun _ => by kernel_rfl) ?_)
              refine Xg.ops_flag (j := 147) (c := (!decide ((↑jj : Int) = (↑xx3 : Int)))) (by kernel_rfl) (fun xh8 => absurd xh8 (by rw [decide_eq_true (p := ((↑jj : Int) = (↑xx3 : Int))) (by omega)]; decide)) (fun _ => ?_)
              refine Xg.ops_skip (by kernel_rfl) ?_
              refine Xg.ops_op (by kernel_rfl) (Xg.opx_pure ((Value.bool false)) rfl (fun _ => by kernel_rfl) ?_)
              refine Xg.ops_op (by kernel_rfl) (Xg.opx_pure ((Value.bool false)) rfl (fun _ => by kernel_rfl) ?_)
              refine Xg.ops_skip (by kernel_rfl) ?_
              refine Xg.ops_skip (by kernel_rfl) ?_
              refine Xg.ops_skip (by kernel_rfl) ?_
              refine Xg.ops_op (by kernel_rfl) (Xg.opx_pure ((Value.bool false)) rfl (fun _ => by kernel_rfl) ?_)
              refine Xg.ops_op (by kernel_rfl) (Xg.opx_pure ((Value.bool false)) rfl (fun _ => by kernel_rfl) ?_)
              refine Xg.ops_skip (by kernel_rfl) ?_
              refine Xg.ops_skip (by kernel_rfl) ?_
              refine Xg.ops_skip (by kernel_rfl) ?_
              refine Xg.ops_skip (by kernel_rfl) ?_
              refine Xg.ops_op (by kernel_rfl) (Xg.opx_pure ((Value.bool false)) rfl (fun _ => by kernel_rfl) ?_)
              refine Xg.ops_nil ?_
              refine Xg.at_false (t := false) (by kernel_rfl) rfl ?_
              refine Xg.at_skip ?_
              refine Xg.at_seq ?_
              refine Xg.at_region ?_
              refine Xg.ops_op (by kernel_rfl) (Xg.opx_pure ((iv (↑jj : Int))) rfl (fun _ => by kernel_rfl) ?_)
              refine Xg.ops_op (by kernel_rfl) (Xg.opx_run (.pointer (some (Addr.mk xb1 jj none))) rfl (Xg.run_ix_array' (elem := 3) (len := 12) (b := xb1) (off := ((0 : Nat))) (kd := .i64) (e := ((↑jj : Int))) 1 jj jj (by kernel_rfl) (by kernel_rfl) (by kernel_rfl) (by kernel_rfl) rfl (by omega) (by omega)) ?_)
              refine Xg.ops_op (by kernel_rfl) (Xg.opx_store_c (off := jj) (cs' := (arrI (upd ((jj, tu2, st2), J3).fst.snd.fst jj (0 : Int)))) 1 (iv 0) (by kernel_rfl) rfl (by kernel_rfl) (by kernel_rfl) (by kernel_rfl) (@Go.Proofs.Ytijjficnhpokdaa.s_int ((((jj, tu2, st2), J3).fst.snd.fst)) (jj) (((0 : Int))) (by omega)) ?_)
              refine Xg.ops_nil ?_
              refine Xg.at_region ?_
              refine Xg.ops_op (by kernel_rfl) (Xg.opx_pure ((iv (↑jj : Int))) rfl (fun _ => by kernel_rfl) ?_)
              refine Xg.ops_op (by kernel_rfl) (Xg.opx_run (.pointer (some (Addr.mk xb2 jj none))) rfl (Xg.run_ix_array' (elem := 4) (len := 12) (b := xb2) (off := ((0 : Nat))) (kd := .i64) (e := ((↑jj : Int))) 1 jj jj (by kernel_rfl) (by kernel_rfl) (by kernel_rfl) (by kernel_rfl) rfl (by omega) (by omega)) ?_)
              refine Xg.ops_op (by kernel_rfl) (Xg.opx_store_c (off := jj) (cs' := (arrB (upd ((jj, tu2, st2), J3).fst.snd.snd jj true))) 2 (Value.bool true) (by kernel_rfl) rfl (by kernel_rfl) (by kernel_rfl) (by kernel_rfl) (@Go.Proofs.Ytijjficnhpokdaa.s_boo ((((jj, tu2, st2), J3).fst.snd.snd)) (jj) (true) (by omega)) ?_)
              refine Xg.ops_nil ?_
              refine Xg.at_inBlock ?_
              refine Xg.at_region ?_
              refine Xg.ops_op (by kernel_rfl) (Xg.opx_pure ((iv (↑jj : Int))) rfl (fun _ => by kernel_rfl) ?_)
              refine Xg.ops_op (by kernel_rfl) (Xg.opx_int .i64 (IntKind.wrap .i64 (((↑jj : Int) + (1 : Int)))) rfl (fun _ => by kernel_rfl) (Xg.wrap_i64_in (by omega)) ?_)
              refine Xg.ops_op (by kernel_rfl) (Xg.opx_pure ((iv ((↑jj : Int) + (1 : Int)))) rfl (fun _ => by kernel_rfl) ?_)
              refine Xg.ops_nil ?_
              refine Xg.at_inLoop ?_)
            · (focus
                refine Xg.at_keep [0, 1, 2, 3] (by kernel_rfl) ?_
                refine Xs.same ?_ (fun J9 => ih2 (((jj + 1, upd tu2 jj 0, upd st2 jj true)), J9) ?_ ?_) (by kernel_rfl))
              · rfl
              · exact ⟨by dsimp only; omega, hinv⟩
              · dsimp only; omega
          · have hokj := hokj hjm
            cases mine
            · (focus
                refine Xg.at_seq ?_
                refine Xg.at_seq ?_
                refine Xg.at_region ?_
                refine Xg.ops_op (by kernel_rfl) (Xg.opx_pure ((iv (↑jj : Int))) rfl (fun _ => by kernel_rfl) ?_)
                refine Xg.ops_op (by kernel_rfl) (Xg.opx_pure ((iv ((1 : Int) + (↑xx2 : Int)))) rfl (fun _ => by kernel_rfl) ?_)
                refine Xg.ops_op (by kernel_rfl) (Xg.opx_pure (.bool (decide ((((↑jj : Int)) : Int) < ((1 : Int) + (↑xx2 : Int))))) rfl (fun _ => by kernel_rfl) ?_)
                refine Xg.ops_nil ?_
                refine Xg.at_true (t := decide (((↑jj : Int) < (1 : Int) + (↑xx2 : Int)))) (by kernel_rfl) (decide_eq_true (by omega)) ?_
                refine Xg.at_skip ?_
                refine Xg.at_seq ?_
                refine Xg.at_block ?_
                refine Xg.at_seq ?_
                refine Xg.at_seq ?_
                refine Xg.at_region ?_
                refine Xg.ops_op (by kernel_rfl) (Xg.opx_pure ((iv (↑jj : Int))) rfl (fun _ => by kernel_rfl) ?_)
                refine Xg.ops_op (by kernel_rfl) (Xg.opx_pure ((iv (↑xx3 : Int))) rfl (fun _ => by kernel_rfl) ?_)
                refine Xg.ops_op (by kernel_rfl) (Xg.opx_pure (.bool (!decide ((((↑jj : Int)) : Int) = ((↑xx3 : Int))))) rfl (fun _ => by kernel_rfl) ?_)
                refine Xg.ops_op (by kernel_rfl) (Xg.opx_pure ((Value.bool !decide ((↑jj : Int) = (↑xx3 : Int)))) rfl (fun _ => by kernel_rfl) ?_)
                refine Xg.ops_flag (j := 147) (c := (!decide ((↑jj : Int) = (↑xx3 : Int)))) (by kernel_rfl) (fun _ => ?_) (fun xh8 => absurd xh8 (by rw [decide_eq_false (p := ((↑jj : Int) = (↑xx3 : Int))) (by omega)]; decide))
                refine Xg.ops_op (by kernel_rfl) (Xg.opx_pure ((Value.bool false)) rfl (fun _ => by kernel_rfl) ?_)
                refine Xg.ops_op (by kernel_rfl) (Xg.opx_pure ((Value.bool false)) rfl (fun _ => by kernel_rfl) ?_)
                refine Xg.ops_op (by kernel_rfl) (Xg.opx_pure ((Value.bool false)) rfl (fun _ => by kernel_rfl) ?_)
                refine Xg.ops_skip (by kernel_rfl) ?_
                refine Xg.ops_skip (by kernel_rfl) ?_
                refine Xg.ops_skip (by kernel_rfl) ?_
                refine Xg.ops_op (by kernel_rfl) (Xg.opx_pure ((Value.bool false)) rfl (fun _ => by kernel_rfl) ?_)
                refine Xg.ops_op (by kernel_rfl) (Xg.opx_pure ((Value.bool false)) rfl (fun _ => by kernel_rfl) ?_)
                refine Xg.ops_skip (by kernel_rfl) ?_
                refine Xg.ops_skip (by kernel_rfl) ?_
                refine Xg.ops_skip (by kernel_rfl) ?_
                refine Xg.ops_skip (by kernel_rfl) ?_
                refine Xg.ops_op (by kernel_rfl) (Xg.opx_pure ((Value.bool false)) rfl (fun _ => by kernel_rfl) ?_)
                refine Xg.ops_nil ?_
                refine Xg.at_false (t := false) (by kernel_rfl) rfl ?_
                refine Xg.at_skip ?_
                refine Xg.at_seq ?_
                refine Xg.at_region ?_
                refine Xg.ops_op (by kernel_rfl) (Xg.opx_pure ((iv (↑jj : Int))) rfl (fun _ => by kernel_rfl) ?_)
                refine Xg.ops_op (by kernel_rfl) (Xg.opx_run (.pointer (some (Addr.mk xb1 jj none))) rfl (Xg.run_ix_array' (elem := 3) (len := 12) (b := xb1) (off := ((0 : Nat))) (kd := .i64) (e := ((↑jj : Int))) 1 jj jj (by kernel_rfl) (by kernel_rfl) (by kernel_rfl) (by kernel_rfl) rfl (by omega) (by omega)) ?_)
                refine Xg.ops_op (by kernel_rfl) (Xg.opx_store_c (off := jj) (cs' := (arrI (upd ((jj, tu2, st2), J3).fst.snd.fst jj (0 : Int)))) 1 (iv 0) (by kernel_rfl) rfl (by kernel_rfl) (by kernel_rfl) (by kernel_rfl) (@Go.Proofs.Ytijjficnhpokdaa.s_int ((((jj, tu2, st2), J3).fst.snd.fst)) (jj) (((0 : Int))) (by omega)) ?_)
                refine Xg.ops_nil ?_
                refine Xg.at_region ?_
                refine Xg.ops_op (by kernel_rfl) (Xg.opx_pure ((iv (↑jj : Int))) rfl (fun _ => by kernel_rfl) ?_)
                refine Xg.ops_op (by kernel_rfl) (Xg.opx_run (.pointer (some (Addr.mk xb2 jj none))) rfl (Xg.run_ix_array' (elem := 4) (len := 12) (b := xb2) (off := ((0 : Nat))) (kd := .i64) (e := ((↑jj : Int))) 1 jj jj (by kernel_rfl) (by kernel_rfl) (by kernel_rfl) (by kernel_rfl) rfl (by omega) (by omega)) ?_)
                refine Xg.ops_op (by kernel_rfl) (Xg.opx_store_c (off := jj) (cs' := (arrB (upd ((jj, tu2, st2), J3).fst.snd.snd jj true))) 2 (Value.bool true) (by kernel_rfl) rfl (by kernel_rfl) (by kernel_rfl) (by kernel_rfl) (@Go.Proofs.Ytijjficnhpokdaa.s_boo ((((jj, tu2, st2), J3).fst.snd.snd)) (jj) (true) (by omega)) ?_)
                refine Xg.ops_nil ?_
                refine Xg.at_inBlock ?_
                refine Xg.at_region ?_
                refine Xg.ops_op (by kernel_rfl) (Xg.opx_pure ((iv (↑jj : Int))) rfl (fun _ => by kernel_rfl) ?_)
                refine Xg.ops_op (by kernel_rfl) (Xg.opx_int .i64 (IntKind.wrap .i64 (((↑jj : Int) + (1 : Int)))) rfl (fun _ => by kernel_rfl) (Xg.wrap_i64_in (by omega)) ?_)
                refine Xg.ops_op (by kernel_rfl) (Xg.opx_pure ((iv ((↑jj : Int) + (1 : Int)))) rfl (fun _ => by kernel_rfl) ?_)
                refine Xg.ops_nil ?_
                refine Xg.at_inLoop ?_)
              · (focus
                  refine Xg.at_keep [0, 1, 2, 3] (by kernel_rfl) ?_
                  refine Xs.same ?_ (fun J9 => ih2 (((jj + 1, upd tu2 jj 0, upd st2 jj true)), J9) ?_ ?_) (by kernel_rfl))
                · rfl
                · exact ⟨by dsimp only; omega, hinv⟩
                · dsimp only; omega
            · have hokj := hokj rfl
              (focus
                refine Xg.at_seq ?_
                refine Xg.at_seq ?_
                refine Xg.at_region ?_
                refine Xg.ops_op (by kernel_rfl) (Xg.opx_pure ((iv (↑jj : Int))) rfl (fun _ => by kernel_rfl) ?_)
                refine Xg.ops_op (by kernel_rfl) (Xg.opx_pure ((iv ((1 : Int) + (↑xx2 : Int)))) rfl (fun _ => by kernel_rfl) ?_)
                refine Xg.ops_op (by kernel_rfl) (Xg.opx_pure (.bool (decide ((((↑jj : Int)) : Int) < ((1 : Int) + (↑xx2 : Int))))) rfl (fun _ => by kernel_rfl) ?_)
                refine Xg.ops_nil ?_
                refine Xg.at_true (t := decide (((↑jj : Int) < (1 : Int) + (↑xx2 : Int)))) (by kernel_rfl) (decide_eq_true (by omega)) ?_
                refine Xg.at_skip ?_
                refine Xg.at_seq ?_
                refine Xg.at_block ?_
                refine Xg.at_seq ?_
                refine Xg.at_seq ?_
                refine Xg.at_region ?_
                refine Xg.ops_op (by kernel_rfl) (Xg.opx_pure ((iv (↑jj : Int))) rfl (fun _ => by kernel_rfl) ?_)
                refine Xg.ops_op (by kernel_rfl) (Xg.opx_pure ((iv (↑xx3 : Int))) rfl (fun _ => by kernel_rfl) ?_)
                refine Xg.ops_op (by kernel_rfl) (Xg.opx_pure (.bool (!decide ((((↑jj : Int)) : Int) = ((↑xx3 : Int))))) rfl (fun _ => by kernel_rfl) ?_)
                refine Xg.ops_op (by kernel_rfl) (Xg.opx_pure ((Value.bool !decide ((↑jj : Int) = (↑xx3 : Int)))) rfl (fun _ => by kernel_rfl) ?_)
                refine Xg.ops_flag (j := 147) (c := (!decide ((↑jj : Int) = (↑xx3 : Int)))) (by kernel_rfl) (fun _ => ?_) (fun xh8 => absurd xh8 (by rw [decide_eq_false (p := ((↑jj : Int) = (↑xx3 : Int))) (by omega)]; decide))
                refine Xg.ops_op (by kernel_rfl) (Xg.opx_pure ((Value.bool true)) rfl (fun _ => by kernel_rfl) ?_)
                refine Xg.ops_op (by kernel_rfl) (Xg.opx_pure ((Value.bool true)) rfl (fun _ => by kernel_rfl) ?_)
                refine Xg.ops_op (by kernel_rfl) (Xg.opx_pure ((Value.bool true)) rfl (fun _ => by kernel_rfl) ?_)
                refine Xg.ops_op (by kernel_rfl) (Xg.opx_pure ((iv (↑jj : Int))) rfl (fun _ => by kernel_rfl) ?_)
                refine Xg.ops_op (by kernel_rfl) (Xg.opx_run (.pointer (some (Addr.mk xb2 jj none))) rfl (Xg.run_ix_array' (elem := 4) (len := 12) (b := xb2) (off := ((0 : Nat))) (kd := .i64) (e := ((↑jj : Int))) 1 jj jj (by kernel_rfl) (by kernel_rfl) (by kernel_rfl) (by kernel_rfl) rfl (by omega) (by omega)) ?_)
                refine Xg.ops_op (by kernel_rfl) (Xg.opx_load (b := xb2) (off := jj) 2 (Value.bool (st2 jj)) rfl (by kernel_rfl) (@Go.Proofs.Ytijjficnhpokdaa.g_boo ((((jj, tu2, st2), J3).fst.snd.snd)) (jj) (by omega)) (by kernel_rfl) ?_)
                refine Xg.ops_flag (j := 153) (c := (st2 jj)) (by kernel_rfl) (fun xh8 => ?_) (fun xh8 => ?_)
                refine Xg.ops_op (by kernel_rfl) (Xg.opx_pure ((Value.bool true)) rfl (fun _ => by kernel_rfl) ?_)
                refine Xg.ops_op (by kernel_rfl) (Xg.opx_pure ((Value.bool true)) rfl (fun _ => by kernel_rfl) ?_)
                refine Xg.ops_op (by kernel_rfl) (Xg.opx_pure ((iv (↑jj : Int))) rfl (fun _ => by kernel_rfl) ?_)
                refine Xg.ops_op (by kernel_rfl) (Xg.opx_run (.pointer (some (Addr.mk xb1 jj none))) rfl (Xg.run_ix_array' (elem := 3) (len := 12) (b := xb1) (off := ((0 : Nat))) (kd := .i64) (e := ((↑jj : Int))) 1 jj jj (by kernel_rfl) (by kernel_rfl) (by kernel_rfl) (by kernel_rfl) rfl (by omega) (by omega)) ?_)
                refine Xg.ops_op (by kernel_rfl) (Xg.opx_load (b := xb1) (off := jj) 1 (iv (tu2 jj)) rfl (by kernel_rfl) (@Go.Proofs.Ytijjficnhpokdaa.g_int ((((jj, tu2, st2), J3).fst.snd.fst)) (jj) (by omega)) (by kernel_rfl) ?_)
                refine Xg.ops_op (by kernel_rfl) (Xg.opx_pure (.bool (!decide (((tu2 jj) : Int) = ((1 : Int))))) rfl (fun _ => by kernel_rfl) ?_)
                refine Xg.ops_flag (j := 159) (c := (!decide (tu2 jj = (1 : Int)))) (by kernel_rfl) (fun xh9 => ?_) (fun xh9 => ?_)
                replace xh9 : ¬ ((tu2 jj = (1 : Int))) := by simpa using xh9
                rotate_left
                replace xh9 : (tu2 jj = (1 : Int)) := by simpa using xh9
                rotate_right
                refine Xg.ops_op (by kernel_rfl) (Xg.opx_pure ((Value.bool true)) rfl (fun _ => by kernel_rfl) ?_)
                refine Xg.ops_nil ?_
                refine Xg.at_true (t := true) (by kernel_rfl) rfl ?_
                refine Xg.at_seq ?_
                refine Xg.at_region ?_
                refine Xg.ops_op (by kernel_rfl) (Xg.opx_pure ((Value.bool false)) rfl (fun _ => by kernel_rfl) ?_)
                refine Xg.ops_nil ?_
                refine Xg.at_ret_ps (v := (Value.bool false)) [3] [A] Go.Proofs.Try.func6 (fun _ => by kernel_rfl) (by kernel_rfl) (by kernel_rfl) ?_
                rotate_left
                refine Xg.ops_op (by kernel_rfl) (Xg.opx_pure ((Value.bool false)) rfl (fun _ => by kernel_rfl) ?_)
                refine Xg.ops_nil ?_
                refine Xg.at_false (t := false) (by kernel_rfl) rfl ?_
                refine Xg.at_skip ?_
                refine Xg.at_seq ?_
                refine Xg.at_region ?_
                refine Xg.ops_op (by kernel_rfl) (Xg.opx_pure ((iv (↑jj : Int))) rfl (fun _ => by kernel_rfl) ?_)
                refine Xg.ops_op (by kernel_rfl) (Xg.opx_run (.pointer (some (Addr.mk xb1 jj none))) rfl (Xg.run_ix_array' (elem := 3) (len := 12) (b := xb1) (off := ((0 : Nat))) (kd := .i64) (e := ((↑jj : Int))) 1 jj jj (by kernel_rfl) (by kernel_rfl) (by kernel_rfl) (by kernel_rfl) rfl (by omega) (by omega)) ?_)
                refine Xg.ops_op (by kernel_rfl) (Xg.opx_store_c (off := jj) (cs' := (arrI (upd ((jj, tu2, st2), J3).fst.snd.fst jj (0 : Int)))) 1 (iv 0) (by kernel_rfl) rfl (by kernel_rfl) (by kernel_rfl) (by kernel_rfl) (@Go.Proofs.Ytijjficnhpokdaa.s_int ((((jj, tu2, st2), J3).fst.snd.fst)) (jj) (((0 : Int))) (by omega)) ?_)
                refine Xg.ops_nil ?_
                refine Xg.at_region ?_
                refine Xg.ops_op (by kernel_rfl) (Xg.opx_pure ((iv (↑jj : Int))) rfl (fun _ => by kernel_rfl) ?_)
                refine Xg.ops_op (by kernel_rfl) (Xg.opx_run (.pointer (some (Addr.mk xb2 jj none))) rfl (Xg.run_ix_array' (elem := 4) (len := 12) (b := xb2) (off := ((0 : Nat))) (kd := .i64) (e := ((↑jj : Int))) 1 jj jj (by kernel_rfl) (by kernel_rfl) (by kernel_rfl) (by kernel_rfl) rfl (by omega) (by omega)) ?_)
                refine Xg.ops_op (by kernel_rfl) (Xg.opx_store_c (off := jj) (cs' := (arrB (upd ((jj, tu2, st2), J3).fst.snd.snd jj true))) 2 (Value.bool true) (by kernel_rfl) rfl (by kernel_rfl) (by kernel_rfl) (by kernel_rfl) (@Go.Proofs.Ytijjficnhpokdaa.s_boo ((((jj, tu2, st2), J3).fst.snd.snd)) (jj) (true) (by omega)) ?_)
                refine Xg.ops_nil ?_
                refine Xg.at_inBlock ?_
                refine Xg.at_region ?_
                refine Xg.ops_op (by kernel_rfl) (Xg.opx_pure ((iv (↑jj : Int))) rfl (fun _ => by kernel_rfl) ?_)
                refine Xg.ops_op (by kernel_rfl) (Xg.opx_int .i64 (IntKind.wrap .i64 (((↑jj : Int) + (1 : Int)))) rfl (fun _ => by kernel_rfl) (Xg.wrap_i64_in (by omega)) ?_)
                refine Xg.ops_op (by kernel_rfl) (Xg.opx_pure ((iv ((↑jj : Int) + (1 : Int)))) rfl (fun _ => by kernel_rfl) ?_)
                refine Xg.ops_nil ?_
                refine Xg.at_inLoop ?_
                rotate_left
                refine Xg.ops_op (by kernel_rfl) (Xg.opx_pure ((Value.bool false)) rfl (fun _ => by kernel_rfl) ?_)
                refine Xg.ops_op (by kernel_rfl) (Xg.opx_pure ((Value.bool false)) rfl (fun _ => by kernel_rfl) ?_)
                refine Xg.ops_skip (by kernel_rfl) ?_
                refine Xg.ops_skip (by kernel_rfl) ?_
                refine Xg.ops_skip (by kernel_rfl) ?_
                refine Xg.ops_skip (by kernel_rfl) ?_
                refine Xg.ops_op (by kernel_rfl) (Xg.opx_pure ((Value.bool false)) rfl (fun _ => by kernel_rfl) ?_)
                refine Xg.ops_nil ?_
                refine Xg.at_false (t := false) (by kernel_rfl) rfl ?_
                refine Xg.at_skip ?_
                refine Xg.at_seq ?_
                refine Xg.at_region ?_
                refine Xg.ops_op (by kernel_rfl) (Xg.opx_pure ((iv (↑jj : Int))) rfl (fun _ => by kernel_rfl) ?_)
                refine Xg.ops_op (by kernel_rfl) (Xg.opx_run (.pointer (some (Addr.mk xb1 jj none))) rfl (Xg.run_ix_array' (elem := 3) (len := 12) (b := xb1) (off := ((0 : Nat))) (kd := .i64) (e := ((↑jj : Int))) 1 jj jj (by kernel_rfl) (by kernel_rfl) (by kernel_rfl) (by kernel_rfl) rfl (by omega) (by omega)) ?_)
                refine Xg.ops_op (by kernel_rfl) (Xg.opx_store_c (off := jj) (cs' := (arrI (upd ((jj, tu2, st2), J3).fst.snd.fst jj (0 : Int)))) 1 (iv 0) (by kernel_rfl) rfl (by kernel_rfl) (by kernel_rfl) (by kernel_rfl) (@Go.Proofs.Ytijjficnhpokdaa.s_int ((((jj, tu2, st2), J3).fst.snd.fst)) (jj) (((0 : Int))) (by omega)) ?_)
                refine Xg.ops_nil ?_
                refine Xg.at_region ?_
                refine Xg.ops_op (by kernel_rfl) (Xg.opx_pure ((iv (↑jj : Int))) rfl (fun _ => by kernel_rfl) ?_)
                refine Xg.ops_op (by kernel_rfl) (Xg.opx_run (.pointer (some (Addr.mk xb2 jj none))) rfl (Xg.run_ix_array' (elem := 4) (len := 12) (b := xb2) (off := ((0 : Nat))) (kd := .i64) (e := ((↑jj : Int))) 1 jj jj (by kernel_rfl) (by kernel_rfl) (by kernel_rfl) (by kernel_rfl) rfl (by omega) (by omega)) ?_)
                refine Xg.ops_op (by kernel_rfl) (Xg.opx_store_c (off := jj) (cs' := (arrB (upd ((jj, tu2, st2), J3).fst.snd.snd jj true))) 2 (Value.bool true) (by kernel_rfl) rfl (by kernel_rfl) (by kernel_rfl) (by kernel_rfl) (@Go.Proofs.Ytijjficnhpokdaa.s_boo ((((jj, tu2, st2), J3).fst.snd.snd)) (jj) (true) (by omega)) ?_)
                refine Xg.ops_nil ?_
                refine Xg.at_inBlock ?_
                refine Xg.at_region ?_
                refine Xg.ops_op (by kernel_rfl) (Xg.opx_pure ((iv (↑jj : Int))) rfl (fun _ => by kernel_rfl) ?_)
                refine Xg.ops_op (by kernel_rfl) (Xg.opx_int .i64 (IntKind.wrap .i64 (((↑jj : Int) + (1 : Int)))) rfl (fun _ => by kernel_rfl) (Xg.wrap_i64_in (by omega)) ?_)
                refine Xg.ops_op (by kernel_rfl) (Xg.opx_pure ((iv ((↑jj : Int) + (1 : Int)))) rfl (fun _ => by kernel_rfl) ?_)
                refine Xg.ops_nil ?_
                refine Xg.at_inLoop ?_)
              · (focus
                  refine Xg.at_keep [0, 1, 2, 3] (by kernel_rfl) ?_
                  refine Xs.same ?_ (fun J9 => ih2 (((jj + 1, upd tu2 jj 0, upd st2 jj true)), J9) ?_ ?_) (by kernel_rfl))
                · rfl
                · exact ⟨by dsimp only; omega, hinv⟩
                · dsimp only; omega
              · exact absurd (hokj (by assumption)) (by assumption)
              · (focus
                  refine Xg.at_keep [0, 1, 2, 3] (by kernel_rfl) ?_
                  refine Xs.same ?_ (fun J9 => ih2 (((jj + 1, upd tu2 jj 0, upd st2 jj true)), J9) ?_ ?_) (by kernel_rfl))
                · rfl
                · exact ⟨by dsimp only; omega, hinv⟩
                · dsimp only; omega
        · clear ih2
          have hz0 : ∀ q, q < (1 + xx2) → tu2 q = 0 := fun q hq => hz0 q (by omega)
          have hr := round_d xx4 (pre ++ (post ++ [((xx3 : Int), true)])) (List.replicate (1 + xx1) (-1)) (by have := hF.len; simp; omega)
          obtain ⟨R, hR⟩ : ∃ R, List.map (fun x : Int × Bool => x.1) (pre ++ (post ++ [((xx3 : Int), true)])) = R := ⟨_, rfl⟩
          have hRl : R.length = 1 + xx2 := by rw [← hR]; have := hF.len; simp; omega
          have hRg : R.getD xx2 0 = (xx3 : Int) := by
            have h2 : xx2 = (pre ++ post).length := by have := hF.len; simp; omega
            rw [← hR, h2, List.getD_eq_getElem?_getD, List.getElem?_map, ← List.append_assoc, List.getElem?_append_right (Nat.le_refl _), Nat.sub_self]; rfl
          rw [hR] at hr
          have hRg2 : R.getD ((1 : Int) + (xx2 : Int) - 1).toNat 0 = (xx3 : Int) := by rw [show ((1 : Int) + (xx2 : Int) - 1).toNat = xx2 from by omega]; exact hRg
          (focus
            refine Xg.at_seq ?_
            refine Xg.at_seq ?_
            refine Xg.at_region ?_
            refine Xg.ops_op (by kernel_rfl) (Xg.opx_pure ((iv (↑jj : Int))) rfl (fun _ => by kernel_rfl) ?_)
            refine Xg.ops_op (by kernel_rfl) (Xg.opx_pure ((iv ((1 : Int) + (↑xx2 : Int)))) rfl (fun _ => by kernel_rfl) ?_)
            refine Xg.ops_op (by kernel_rfl) (Xg.opx_pure (.bool (decide ((((↑jj : Int)) : Int) < ((1 : Int) + (↑xx2 : Int))))) rfl (fun _ => by kernel_rfl) ?_)
            refine Xg.ops_nil ?_
            refine Xg.at_false (t := decide (((↑jj : Int) < (1 : Int) + (↑xx2 : Int)))) (by kernel_rfl) (decide_eq_false (by omega)) ?_
            refine Xg.at_exit rfl ?_
            refine Xg.at_seq ?_
            refine Xg.at_region ?_
            refine Xg.ops_op (by kernel_rfl) (Xg.opx_pure ((Value.bool true)) rfl (fun _ => by kernel_rfl) ?_)
            refine Xg.ops_nil ?_
            refine Xg.at_seq ?_
            refine Xg.at_region ?_
            refine Xg.ops_op (by kernel_rfl) (Xg.opx_pure ((iv 0)) rfl (fun _ => by kernel_rfl) ?_)
            refine Xg.ops_nil ?_
            refine Xg.at_seq ?_
            refine Xg.at_region ?_
            refine Xg.ops_op (by kernel_rfl) (Xg.opx_pure ((pv xx4 0)) rfl (fun _ => by kernel_rfl) ?_)
            refine Xg.ops_op (by kernel_rfl) (Xg.opx_callE' [0] (fun xx8 => [SchedP xx4 (pre ++ (post ++ [((↑xx3 : Int), true)])) (List.replicate ((1 : Nat) + xx1) (-1 : Int)), ints (3 : TypeId) IntKind.i64 xx8.fst xx8.snd R, row xb1 (39 : TypeId) (arrI ((jj, tu2, st2), J3).fst.snd.fst), row xb2 (40 : TypeId) (arrB ((jj, tu2, st2), J3).fst.snd.snd), A]) (fun _ => by kernel_rfl) (@hr ) (by kernel_rfl) (by kernel_rfl) (by kernel_rfl) fun xx8 xh8 => ?_)
            try dsimp only at xh8
            refine Xg.ops_op (by kernel_rfl) (Xg.opx_pure ((Value.slice xx8.fst R.length xx8.snd)) rfl (fun _ => by kernel_rfl) ?_)
            refine Xg.ops_nil ?_
            refine Xg.at_seq ?_
            refine Xg.at_seq ?_
            refine Xg.at_region ?_
            refine Xg.ops_op (by kernel_rfl) (Xg.opx_pure ((Value.slice xx8.fst R.length xx8.snd)) rfl (fun _ => by kernel_rfl) ?_)
            refine Xg.ops_op (by kernel_rfl) (Xg.opx_pure ((iv (↑R.length : Int))) rfl (fun _ => by kernel_rfl) ?_)
            refine Xg.ops_op (by kernel_rfl) (Xg.opx_pure ((iv ((1 : Int) + (↑xx2 : Int)))) rfl (fun _ => by kernel_rfl) ?_)
            refine Xg.ops_op (by kernel_rfl) (Xg.opx_pure (.bool (!decide ((((↑R.length : Int)) : Int) = ((1 : Int) + (↑xx2 : Int))))) rfl (fun _ => by kernel_rfl) ?_)
            refine Xg.ops_op (by kernel_rfl) (Xg.opx_pure ((Value.bool !decide ((↑R.length : Int) = (1 : Int) + (↑xx2 : Int)))) rfl (fun _ => by kernel_rfl) ?_)
            refine Xg.ops_flag (j := 171) (c := (!decide ((↑R.length : Int) = (1 : Int) + (↑xx2 : Int)))) (by kernel_rfl) (fun xh9 => absurd xh9 (by rw [decide_eq_true (p := ((↑R.length : Int) = (1 : Int) + (↑xx2 : Int))) (by omega)]; decide)) (fun _ => ?_)
            refine Xg.ops_op (by kernel_rfl) (Xg.opx_pure ((Value.slice xx8.fst R.length xx8.snd)) rfl (fun _ => by kernel_rfl) ?_)
            refine Xg.ops_op (by kernel_rfl) (Xg.opx_pure ((iv ((1 : Int) + (↑xx2 : Int)))) rfl (fun _ => by kernel_rfl) ?_)
            refine Xg.ops_op (by kernel_rfl) (Xg.opx_int .i64 (IntKind.wrap .i64 (((1 : Int) + (↑xx2 : Int) - (1 : Int)))) rfl (fun _ => by kernel_rfl) (Xg.wrap_i64_in (by omega)) ?_)
            refine Xg.ops_op (by kernel_rfl) (Xg.opx_ix_own (elem := 3) (kd := .i64) (e := ((1 : Int) + (↑xx2 : Int) - (1 : Int))) 1 1 (((1 : Int) + (↑xx2 : Int) - (1 : Int)).toNat) (((1 : Int) + (↑xx2 : Int) - (1 : Int)).toNat) rfl (by kernel_rfl) (by kernel_rfl) (by kernel_rfl) (by kernel_rfl) (by omega) (by omega) (by omega) ?_)
            refine Xg.ops_op (by kernel_rfl) (Xg.opx_load_own (a := xx8.fst) (off := (((1 : Int) + (↑xx2 : Int) - (1 : Int)).toNat)) 1 (iv (R.getD ((1 : Int) + (↑xx2 : Int) - (1 : Int)).toNat (0 : Int))) rfl (by kernel_rfl) (Xg.get_ints (by omega)) (by kernel_rfl) ?_)
            refine Xg.ops_op (by kernel_rfl) (Xg.opx_pure ((iv (↑xx3 : Int))) rfl (fun _ => by kernel_rfl) ?_)
            refine Xg.ops_op (by kernel_rfl) (Xg.opx_pure (.bool (!decide (((R.getD ((1 : Int) + (↑xx2 : Int) - (1 : Int)).toNat (0 : Int)) : Int) = ((↑xx3 : Int))))) rfl (fun _ => by kernel_rfl) ?_)
            refine Xg.ops_flag (j := 178) (c := (!decide (R.getD ((1 : Int) + (↑xx2 : Int) - (1 : Int)).toNat (0 : Int) = (↑xx3 : Int)))) (by kernel_rfl) (fun xh9 => absurd xh9 (by rw [decide_eq_true (p := (R.getD ((1 : Int) + (↑xx2 : Int) - (1 : Int)).toNat (0 : Int) = (↑xx3 : Int))) (by omega)]; decide)) (fun _ => ?_)
            refine Xg.ops_op (by kernel_rfl) (Xg.opx_pure ((Value.bool false)) rfl (fun _ => by kernel_rfl) ?_)
            refine Xg.ops_nil ?_
            refine Xg.at_false (t := false) (by kernel_rfl) rfl ?_
            refine Xg.at_skip ?_
            refine Xg.at_seq ?_
            refine Xg.at_region ?_
            refine Xg.ops_op (by kernel_rfl) (Xg.opx_pure ((iv 0)) rfl (fun _ => by kernel_rfl) ?_)
            refine Xg.ops_nil ?_
            refine Xg.at_block ?_)
          have hrd := fun jj hj => fair_rdy A a m c xs hm hmx0 hR0 hB i jj (1 + xx2) xx3 hlt (by omega) (by omega) hj (by omega)
          (focus
            refine Xg.at_keep [0, 2, 3, 4] (by kernel_rfl) ?_
            refine Xg.at_rounds_inv (α := (Nat × (Nat → Bool)) × (Nat → Value)) (fun x => ((fun x => x.1 ≤ (1 + xx2) ∧ ∀ q, q < x.1 → x.2 q = rdyF (1 + xx2) xx3 xs (i + 1) q) : (Nat × (Nat → Bool)) → Prop) x.1) (fun x => ((fun x => (1 + xx2) - x.1) : (Nat × (Nat → Bool)) → Nat) x.1) (fun x => Xg.headT [iv slots0, iv many0, iv who0, Value.slice a m c, tu, tu, tu, tu, J3 8, Value.bool true, iv ((1 : Int) + (↑xx1 : Int)), iv ((1 : Int) + (↑xx2 : Int)), iv (↑xx3 : Int), pv xx4 0, pv xb1 0, pv xb2 0, iv (↑i1 : Int), iv 0, Value.bool true, iv (↑i : Int), pv xb3 0, iv (↑xx5 : Int), iv (↑xx7 : Int), iv (↑xx3 : Int), iv 0, iv (↑xx3 : Int), iv 0, iv (↑jj : Int), Value.slice xx8.fst R.length xx8.snd, iv 0, Value.bool true, iv slots0, iv (↑xx1 : Int), iv ((1 : Int) + (↑xx1 : Int)), iv many0, iv (↑xx2 : Int), iv ((1 : Int) + (↑xx2 : Int)), iv who0, iv ((1 : Int) + (↑xx2 : Int)), iv (↑xx3 : Int), iv ((1 : Int) + (↑xx1 : Int)), iv ((1 : Int) + (↑xx2 : Int)), pv xx4 0, Value.bool true, Value.bool false, Value.bool false, pv xx4 0, Value.bool false, Value.bool false, iv (↑i1 : Int), iv ((1 : Int) + (↑xx2 : Int)), Value.bool (decide ((↑i1 : Int) < (1 : Int) + (↑xx2 : Int))), J (52 : Nat), J (53 : Nat), J (54 : Nat), J (55 : Nat), iv (↑i : Int), Value.slice a m c, iv (↑m : Int), Value.bool (decide ((↑i : Int) < (↑m : Int))), J2 (60 : Nat), J2 (61 : Nat), Value.slice a m c, iv (↑i : Int), Value.pointer (some (Addr.mk (blk a) (offA a + i * (2 : Nat)) none)), Value.agg #[iv (xs.getD i default).fst, iv (xs.getD i default).snd], pv xb3 1, iv (xs.getD i default).snd, iv ((1 : Int) + (↑xx2 : Int)), iv (↑xx5 : Int), pv xb3 0, iv (xs.getD i default).fst, iv (↑xx6 : Int), Value.bool (decide ((↑xx6 : Int) ≥ (6 : Int))), J2 (74 : Nat), J2 (75 : Nat), J2 (76 : Nat), J2 (77 : Nat), J2 (78 : Nat), J2 (79 : Nat), J2 (80 : Nat), J2 (81 : Nat), J2 (82 : Nat), J2 (83 : Nat), J2 (84 : Nat), J2 (85 : Nat), J2 (86 : Nat), J2 (87 : Nat), J2 (88 : Nat), J2 (89 : Nat), J2 (90 : Nat), J2 (91 : Nat), J2 (92 : Nat), J2 (93 : Nat), J2 (94 : Nat), pv xb3 1, iv (xs.getD i default).snd, iv ((1 : Int) + (↑xx1 : Int)), iv (↑xx7 : Int), Value.tuple #[iv (↑xx3 : Int), iv 0], pv xx4 0, iv (↑xx7 : Int), Value.tuple #[iv (↑xx3 : Int), iv 0], iv (↑xx3 : Int), iv 0, Value.tuple #[iv (↑xx3 : Int), iv 0], pv xx4 0, iv (↑xx7 : Int), Value.tuple #[iv (↑xx3 : Int), iv 0], iv (↑xx3 : Int), iv 0, iv 0, Value.bool false, Value.bool false, iv 0, Value.bool false, Value.bool false, Value.bool false, iv (↑xx3 : Int), Value.bool false, Value.bool false, Value.bool false, iv (↑xx3 : Int), iv ((1 : Int) + (↑xx2 : Int)), Value.bool false, Value.bool false, iv (↑w : Int), iv (IntKind.i64.wrap ((↑w : Int) + (1 : Int))), iv (↑xx3 : Int), iv (↑xx3 : Int), Value.bool !decide ((↑xx3 : Int) = (↑xx3 : Int)), J2 (131 : Nat), J2 (132 : Nat), J2 (133 : Nat), J2 (134 : Nat), J2 (135 : Nat), J2 (136 : Nat), J2 (137 : Nat), J2 (138 : Nat), iv (↑jj : Int), iv ((1 : Int) + (↑xx2 : Int)), Value.bool (decide ((↑jj : Int) < (1 : Int) + (↑xx2 : Int))), J3 142, J3 143, J3 144, J3 145, J3 146, J3 147, J3 148, J3 149, J3 150, J3 151, J3 152, J3 153, J3 154, J3 155, J3 156, J3 157, J3 158, J3 159, J3 160, J3 161, J3 162, J3 163, J3 164, pv xx4 0, Value.slice xx8.fst R.length xx8.snd, Value.slice xx8.fst R.length xx8.snd, iv (↑R.length : Int), iv ((1 : Int) + (↑xx2 : Int)), Value.bool !decide ((↑R.length : Int) = (1 : Int) + (↑xx2 : Int)), Value.bool false, Value.slice xx8.fst R.length xx8.snd, iv ((1 : Int) + (↑xx2 : Int)), iv ((1 : Int) + (↑xx2 : Int) - (1 : Int)), Value.pointer (some (Addr.mk (blk xx8.fst) ((1 : Int) + (↑xx2 : Int) - (1 : Int)).toNat none)), iv (R.getD ((1 : Int) + (↑xx2 : Int) - (1 : Int)).toNat (0 : Int)), iv (↑xx3 : Int), Value.bool false, Value.bool false, J2 (180 : Nat), J2 (181 : Nat), J2 (182 : Nat), J2 (183 : Nat), J2 (184 : Nat), J2 (185 : Nat), J2 (186 : Nat), J2 (187 : Nat), J2 (188 : Nat), J2 (189 : Nat), J2 (190 : Nat), J2 (191 : Nat), J2 (192 : Nat), J2 (193 : Nat), J2 (194 : Nat)] [180, 181, 182, 183, 184, 185, 186, 187, 188, 189, 190, 191, 192, 193, 194] (((fun x => [(29, .int .i64 (x.1 : Nat))]) : (Nat × (Nat → Bool)) → List (Nat × Go.Value)) x.1) x.2) (fun x => ((fun x => [SchedP xx4 (pre ++ (post ++ [((xx3 : Int), true)])) (List.replicate (1 + xx1) (-1)), row xb1 39 (arrI tu2), row xb2 40 (arrB x.2), A]) : (Nat × (Nat → Bool)) → List Go.Sl.HP) x.1) (((0, st2)), fun j9 => ([iv slots0, iv many0, iv who0, Value.slice a m c, tu, tu, tu, tu, J3 8, Value.bool true, iv ((1 : Int) + (↑xx1 : Int)), iv ((1 : Int) + (↑xx2 : Int)), iv (↑xx3 : Int), pv xx4 0, pv xb1 0, pv xb2 0, iv (↑i1 : Int), iv 0, Value.bool true, iv (↑i : Int), pv xb3 0, iv (↑xx5 : Int), iv (↑xx7 : Int), iv (↑xx3 : Int), iv 0, iv (↑xx3 : Int), iv 0, iv (↑jj : Int), Value.slice xx8.fst R.length xx8.snd, iv 0, Value.bool true, iv slots0, iv (↑xx1 : Int), iv ((1 : Int) + (↑xx1 : Int)), iv many0, iv (↑xx2 : Int), iv ((1 : Int) + (↑xx2 : Int)), iv who0, iv ((1 : Int) + (↑xx2 : Int)), iv (↑xx3 : Int), iv ((1 : Int) + (↑xx1 : Int)), iv ((1 : Int) + (↑xx2 : Int)), pv xx4 0, Value.bool true, Value.bool false, Value.bool false, pv xx4 0, Value.bool false, Value.bool false, iv (↑i1 : Int), iv ((1 : Int) + (↑xx2 : Int)), Value.bool (decide ((↑i1 : Int) < (1 : Int) + (↑xx2 : Int))), J (52 : Nat), J (53 : Nat), J (54 : Nat), J (55 : Nat), iv (↑i : Int), Value.slice a m c, iv (↑m : Int), Value.bool (decide ((↑i : Int) < (↑m : Int))), J2 (60 : Nat), J2 (61 : Nat), Value.slice a m c, iv (↑i : Int), Value.pointer (some (Addr.mk (blk a) (offA a + i * (2 : Nat)) none)), Value.agg #[iv (xs.getD i default).fst, iv (xs.getD i default).snd], pv xb3 1, iv (xs.getD i default).snd, iv ((1 : Int) + (↑xx2 : Int)), iv (↑xx5 : Int), pv xb3 0, iv (xs.getD i default).fst, iv (↑xx6 : Int), Value.bool (decide ((↑xx6 : Int) ≥ (6 : Int))), J2 (74 : Nat), J2 (75 : Nat), J2 (76 : Nat), J2 (77 : Nat), J2 (78 : Nat), J2 (79 : Nat), J2 (80 : Nat), J2 (81 : Nat), J2 (82 : Nat), J2 (83 : Nat), J2 (84 : Nat), J2 (85 : Nat), J2 (86 : Nat), J2 (87 : Nat), J2 (88 : Nat), J2 (89 : Nat), J2 (90 : Nat), J2 (91 : Nat), J2 (92 : Nat), J2 (93 : Nat), J2 (94 : Nat), pv xb3 1, iv (xs.getD i default).snd, iv ((1 : Int) + (↑xx1 : Int)), iv (↑xx7 : Int), Value.tuple #[iv (↑xx3 : Int), iv 0], pv xx4 0, iv (↑xx7 : Int), Value.tuple #[iv (↑xx3 : Int), iv 0], iv (↑xx3 : Int), iv 0, Value.tuple #[iv (↑xx3 : Int), iv 0], pv xx4 0, iv (↑xx7 : Int), Value.tuple #[iv (↑xx3 : Int), iv 0], iv (↑xx3 : Int), iv 0, iv 0, Value.bool false, Value.bool false, iv 0, Value.bool false, Value.bool false, Value.bool false, iv (↑xx3 : Int), Value.bool false, Value.bool false, Value.bool false, iv (↑xx3 : Int), iv ((1 : Int) + (↑xx2 : Int)), Value.bool false, Value.bool false, iv (↑w : Int), iv (IntKind.i64.wrap ((↑w : Int) + (1 : Int))), iv (↑xx3 : Int), iv (↑xx3 : Int), Value.bool !decide ((↑xx3 : Int) = (↑xx3 : Int)), J2 (131 : Nat), J2 (132 : Nat), J2 (133 : Nat), J2 (134 : Nat), J2 (135 : Nat), J2 (136 : Nat), J2 (137 : Nat), J2 (138 : Nat), iv (↑jj : Int), iv ((1 : Int) + (↑xx2 : Int)), Value.bool (decide ((↑jj : Int) < (1 : Int) + (↑xx2 : Int))), J3 142, J3 143, J3 144, J3 145, J3 146, J3 147, J3 148, J3 149, J3 150, J3 151, J3 152, J3 153, J3 154, J3 155, J3 156, J3 157, J3 158, J3 159, J3 160, J3 161, J3 162, J3 163, J3 164, pv xx4 0, Value.slice xx8.fst R.length xx8.snd, Value.slice xx8.fst R.length xx8.snd, iv (↑R.length : Int), iv ((1 : Int) + (↑xx2 : Int)), Value.bool !decide ((↑R.length : Int) = (1 : Int) + (↑xx2 : Int)), Value.bool false, Value.slice xx8.fst R.length xx8.snd, iv ((1 : Int) + (↑xx2 : Int)), iv ((1 : Int) + (↑xx2 : Int) - (1 : Int)), Value.pointer (some (Addr.mk (blk xx8.fst) ((1 : Int) + (↑xx2 : Int) - (1 : Int)).toNat none)), iv (R.getD ((1 : Int) + (↑xx2 : Int) - (1 : Int)).toNat (0 : Int)), iv (↑xx3 : Int), Value.bool false, Value.bool false, J2 (180 : Nat), J2 (181 : Nat), J2 (182 : Nat), J2 (183 : Nat), J2 (184 : Nat), J2 (185 : Nat), J2 (186 : Nat), J2 (187 : Nat), J2 (188 : Nat), J2 (189 : Nat), J2 (190 : Nat), J2 (191 : Nat), J2 (192 : Nat), J2 (193 : Nat), J2 (194 : Nat)] : List Value).getD j9 undef) (by kernel_rfl) (by kernel_rfl) ?_ ?_)
          · exact ⟨Nat.zero_le _, fun q h => absurd h (Nat.not_lt_zero _)⟩
          rintro ⟨⟨kk, st3⟩, J4⟩ ⟨hk, hk3⟩ ih3
          dsimp only at hk hk3
          (focus
            refine Xg.At.same (T' := [iv slots0, iv many0, iv who0, Value.slice a m c, tu, tu, tu, tu, J3 8, Value.bool true, iv ((1 : Int) + (↑xx1 : Int)), iv ((1 : Int) + (↑xx2 : Int)), iv (↑xx3 : Int), pv xx4 0, pv xb1 0, pv xb2 0, iv (↑i1 : Int), iv 0, Value.bool true, iv (↑i : Int), pv xb3 0, iv (↑xx5 : Int), iv (↑xx7 : Int), iv (↑xx3 : Int), iv 0, iv (↑xx3 : Int), iv 0, iv (↑jj : Int), Value.slice xx8.fst R.length xx8.snd, iv (↑kk : Int), Value.bool true, iv slots0, iv (↑xx1 : Int), iv ((1 : Int) + (↑xx1 : Int)), iv many0, iv (↑xx2 : Int), iv ((1 : Int) + (↑xx2 : Int)), iv who0, iv ((1 : Int) + (↑xx2 : Int)), iv (↑xx3 : Int), iv ((1 : Int) + (↑xx1 : Int)), iv ((1 : Int) + (↑xx2 : Int)), pv xx4 0, Value.bool true, Value.bool false, Value.bool false, pv xx4 0, Value.bool false, Value.bool false, iv (↑i1 : Int), iv ((1 : Int) + (↑xx2 : Int)), Value.bool (decide ((↑i1 : Int) < (1 : Int) + (↑xx2 : Int))), J (52 : Nat), J (53 : Nat), J (54 : Nat), J (55 : Nat), iv (↑i : Int), Value.slice a m c, iv (↑m : Int), Value.bool (decide ((↑i : Int) < (↑m : Int))), J2 (60 : Nat), J2 (61 : Nat), Value.slice a m c, iv (↑i : Int), Value.pointer (some (Addr.mk (blk a) (offA a + i * (2 : Nat)) none)), Value.agg #[iv (xs.getD i default).fst, iv (xs.getD i default).snd], pv xb3 1, iv (xs.getD i default).snd, iv ((1 : Int) + (↑xx2 : Int)), iv (↑xx5 : Int), pv xb3 0, iv (xs.getD i default).fst, iv (↑xx6 : Int), Value.bool (decide ((↑xx6 : Int) ≥ (6 : Int))), J2 (74 : Nat), J2 (75 : Nat), J2 (76 : Nat), J2 (77 : Nat), J2 (78 : Nat), J2 (79 : Nat), J2 (80 : Nat), J2 (81 : Nat), J2 (82 : Nat), J2 (83 : Nat), J2 (84 : Nat), J2 (85 : Nat), J2 (86 : Nat), J2 (87 : Nat), J2 (88 : Nat), J2 (89 : Nat), J2 (90 : Nat), J2 (91 : Nat), J2 (92 : Nat), J2 (93 : Nat), J2 (94 : Nat), pv xb3 1, iv (xs.getD i default).snd, iv ((1 : Int) + (↑xx1 : Int)), iv (↑xx7 : Int), Value.tuple #[iv (↑xx3 : Int), iv 0], pv xx4 0, iv (↑xx7 : Int), Value.tuple #[iv (↑xx3 : Int), iv 0], iv (↑xx3 : Int), iv 0, Value.tuple #[iv (↑xx3 : Int), iv 0], pv xx4 0, iv (↑xx7 : Int), Value.tuple #[iv (↑xx3 : Int), iv 0], iv (↑xx3 : Int), iv 0, iv 0, Value.bool false, Value.bool false, iv 0, Value.bool false, Value.bool false, Value.bool false, iv (↑xx3 : Int), Value.bool false, Value.bool false, Value.bool false, iv (↑xx3 : Int), iv ((1 : Int) + (↑xx2 : Int)), Value.bool false, Value.bool false, iv (↑w : Int), iv (IntKind.i64.wrap ((↑w : Int) + (1 : Int))), iv (↑xx3 : Int), iv (↑xx3 : Int), Value.bool !decide ((↑xx3 : Int) = (↑xx3 : Int)), J2 (131 : Nat), J2 (132 : Nat), J2 (133 : Nat), J2 (134 : Nat), J2 (135 : Nat), J2 (136 : Nat), J2 (137 : Nat), J2 (138 : Nat), iv (↑jj : Int), iv ((1 : Int) + (↑xx2 : Int)), Value.bool (decide ((↑jj : Int) < (1 : Int) + (↑xx2 : Int))), J3 142, J3 143, J3 144, J3 145, J3 146, J3 147, J3 148, J3 149, J3 150, J3 151, J3 152, J3 153, J3 154, J3 155, J3 156, J3 157, J3 158, J3 159, J3 160, J3 161, J3 162, J3 163, J3 164, pv xx4 0, Value.slice xx8.fst R.length xx8.snd, Value.slice xx8.fst R.length xx8.snd, iv (↑R.length : Int), iv ((1 : Int) + (↑xx2 : Int)), Value.bool !decide ((↑R.length : Int) = (1 : Int) + (↑xx2 : Int)), Value.bool false, Value.slice xx8.fst R.length xx8.snd, iv ((1 : Int) + (↑xx2 : Int)), iv ((1 : Int) + (↑xx2 : Int) - (1 : Int)), Value.pointer (some (Addr.mk (blk xx8.fst) ((1 : Int) + (↑xx2 : Int) - (1 : Int)).toNat none)), iv (R.getD ((1 : Int) + (↑xx2 : Int) - (1 : Int)).toNat (0 : Int)), iv (↑xx3 : Int), Value.bool false, Value.bool false, J4 180, J4 181, J4 182, J4 183, J4 184, J4 185, J4 186, J4 187, J4 188, J4 189, J4 190, J4 191, J4 192, J4 193, J4 194]) (L' := [SchedP xx4 (pre ++ (post ++ [((↑xx3 : Int), true)])) (List.replicate ((1 : Nat) + xx1) (-1 : Int)), row xb1 (39 : TypeId) (arrI tu2), row xb2 (40 : TypeId) (arrB ((kk, st3), J4).fst.snd), A]) (by kernel_rfl) rfl ?_)
          by_cases hlk : kk < (1 + xx2)
          · have hrk := hrd kk (by omega)
            (focus
              refine Xg.at_seq ?_
              refine Xg.at_seq ?_
              refine Xg.at_region ?_
              refine Xg.ops_op (by kernel_rfl) (Xg.opx_pure ((iv (↑kk : Int))) rfl (fun _ => by kernel_rfl) ?_)
              refine Xg.ops_op (by kernel_rfl) (Xg.opx_pure ((iv ((1 : Int) + (↑xx2 : Int)))) rfl (fun _ => by kernel_rfl) ?_)
              refine Xg.ops_op (by kernel_rfl) (Xg.opx_pure (.bool (decide ((((↑kk : Int)) : Int) < ((1 : Int) + (↑xx2 : Int))))) rfl (fun _ => by kernel_rfl) ?_)
              refine Xg.ops_nil ?_
              refine Xg.at_true (t := decide (((↑kk : Int) < (1 : Int) + (↑xx2 : Int)))) (by kernel_rfl) (decide_eq_true (by omega)) ?_
              refine Xg.at_skip ?_
              refine Xg.at_seq ?_
              refine Xg.at_block ?_
              refine Xg.at_region ?_
              refine Xg.ops_op (by kernel_rfl) (Xg.opx_pure ((iv (↑kk : Int))) rfl (fun _ => by kernel_rfl) ?_)
              refine Xg.ops_op (by kernel_rfl) (Xg.opx_pure ((Value.slice a m c)) rfl (fun _ => by kernel_rfl) ?_)
              refine Xg.ops_op (by kernel_rfl) (Xg.opx_pure ((iv (↑i : Int))) rfl (fun _ => by kernel_rfl) ?_)
              refine Xg.ops_op (by kernel_rfl) (Xg.opx_int .i64 (IntKind.wrap .i64 (((↑i : Int) + (1 : Int)))) rfl (fun _ => by kernel_rfl) (Xg.wrap_i64_in (by omega)) ?_)
              refine Xg.ops_op (by kernel_rfl) (Xg.opx_run (.slice a (((↑i : Int) + (1 : Int)).toNat) c) rfl (Xg.run_sl_hi (elem := 33) (a := a) (c := c) (len := m) (k2 := .i64) (e2 := ((↑i : Int) + (1 : Int))) 2 (((↑i : Int) + (1 : Int)).toNat) (by kernel_rfl) (by kernel_rfl) (by kernel_rfl) (by kernel_rfl) (by omega) (by omega)) ?_)
              refine Xg.ops_op (by kernel_rfl) (Xg.opx_pure ((iv (↑kk : Int))) rfl (fun _ => by kernel_rfl) ?_)
              refine Xg.ops_op (by kernel_rfl) (Xg.opx_pure ((iv ((1 : Int) + (↑xx2 : Int)))) rfl (fun _ => by kernel_rfl) ?_)
              refine Xg.ops_op (by kernel_rfl) (Xg.opx_pure ((iv (↑xx3 : Int))) rfl (fun _ => by kernel_rfl) ?_)
              refine Xg.ops_op (by kernel_rfl) (Xg.opx_call1' [3] [A, SchedP xx4 (pre ++ (post ++ [((↑xx3 : Int), true)])) (List.replicate ((1 : Nat) + xx1) (-1 : Int)), row xb1 (39 : TypeId) (arrI tu2), row xb2 (40 : TypeId) (arrB ((kk, st3), J4).fst.snd)] (fun _ => by kernel_rfl) (@hrk ) (by kernel_rfl) (by kernel_rfl) (by kernel_rfl) ?_)
              refine Xg.ops_op (by kernel_rfl) (Xg.opx_run (.pointer (some (Addr.mk xb2 kk none))) rfl (Xg.run_ix_array' (elem := 4) (len := 12) (b := xb2) (off := ((0 : Nat))) (kd := .i64) (e := ((↑kk : Int))) 1 kk kk (by kernel_rfl) (by kernel_rfl) (by kernel_rfl) (by kernel_rfl) rfl (by omega) (by omega)) ?_)
              refine Xg.ops_op (by kernel_rfl) (Xg.opx_store_c (off := kk) (cs' := (arrB (upd ((kk, st3), J4).fst.snd kk (rdyF ((1 : Nat) + xx2) xx3 xs (i + (1 : Nat)) kk)))) 3 (Value.bool (rdyF ((1 : Nat) + xx2) xx3 xs (i + (1 : Nat)) kk)) (by kernel_rfl) rfl (by kernel_rfl) (by kernel_rfl) (by kernel_rfl) (@Go.Proofs.Ytijjficnhpokdaa.s_boo ((((kk, st3), J4).fst.snd)) (kk) ((rdyF ((1 : Nat) + xx2) xx3 xs (i + (1 : Nat)) kk)) (by omega)) ?_)
              refine Xg.ops_nil ?_
              refine Xg.at_inBlock ?_
              refine Xg.at_region ?_
              refine Xg.ops_op (by kernel_rfl) (Xg.opx_pure ((iv (↑kk : Int))) rfl (fun _ => by kernel_rfl) ?_)
              refine Xg.ops_op (by kernel_rfl) (Xg.opx_int .i64 (IntKind.wrap .i64 (((↑kk : Int) + (1 : Int)))) rfl (fun _ => by kernel_rfl) (Xg.wrap_i64_in (by omega)) ?_)
              refine Xg.ops_op (by kernel_rfl) (Xg.opx_pure ((iv ((↑kk : Int) + (1 : Int)))) rfl (fun _ => by kernel_rfl) ?_)
              refine Xg.ops_nil ?_
              refine Xg.at_inLoop ?_)
            (focus
              refine Xg.at_keep [1, 2, 3, 0] (by kernel_rfl) ?_
              refine Xs.same ?_ (fun J9 => ih3 (((kk + 1, upd st3 kk (rdyF (1 + xx2) xx3 xs (i + 1) kk))), J9) ?_ ?_) (by kernel_rfl))
            · rfl
            · refine ⟨by dsimp only; omega, fun q hq => ?_⟩
              dsimp only at hq ⊢
              unfold upd
              split
              · rename_i e; rw [e]
              · exact hk3 q (by omega)
            · dsimp only; omega
          · clear ih3
            have hF2 := hF.mine_do hk6 tu2 hz0 st3 (fun q hq => hk3 q (by omega))
            rw [show pre ++ (post ++ [((xx3 : Int), true)]) = (pre ++ post) ++ ((xx3 : Int), true) :: [] from by simp]
            (focus
              refine Xg.at_seq ?_
              refine Xg.at_seq ?_
              refine Xg.at_region ?_
              refine Xg.ops_op (by kernel_rfl) (Xg.opx_pure ((iv (↑kk : Int))) rfl (fun _ => by kernel_rfl) ?_)
              refine Xg.ops_op (by kernel_rfl) (Xg.opx_pure ((iv ((1 : Int) + (↑xx2 : Int)))) rfl (fun _ => by kernel_rfl) ?_)
              refine Xg.ops_op (by kernel_rfl) (Xg.opx_pure (.bool (decide ((((↑kk : Int)) : Int) < ((1 : Int) + (↑xx2 : Int))))) rfl (fun _ => by kernel_rfl) ?_)
              refine Xg.ops_nil ?_
              refine Xg.at_false (t := decide (((↑kk : Int) < (1 : Int) + (↑xx2 : Int)))) (by kernel_rfl) (decide_eq_false (by omega)) ?_
              refine Xg.at_exit rfl ?_
              refine Xg.at_inBlock ?_
              refine Xg.at_region ?_
              refine Xg.ops_op (by kernel_rfl) (Xg.opx_pure ((iv (↑i : Int))) rfl (fun _ => by kernel_rfl) ?_)
              refine Xg.ops_op (by kernel_rfl) (Xg.opx_int .i64 (IntKind.wrap .i64 (((↑i : Int) + (1 : Int)))) rfl (fun _ => by kernel_rfl) (Xg.wrap_i64_in (by omega)) ?_)
              refine Xg.ops_op (by kernel_rfl) (Xg.opx_pure ((iv ((↑i : Int) + (1 : Int)))) rfl (fun _ => by kernel_rfl) ?_)
              refine Xg.ops_nil ?_
              refine Xg.at_inLoop ?_)
            (focus
              refine Xg.at_keep [0, 1, 2, 3] (by kernel_rfl) ?_
              refine Xs.same ?_ (fun J9 => ih (((i + 1, pre ++ post, [], tu2, st3, 0, true)), J9) ?_ ?_) (by kernel_rfl))
            · rfl
            · exact ⟨by dsimp only; omega, hF2⟩
            · dsimp only; omega
      · obtain ⟨q, hq2⟩ : ∃ q : Nat, fidx (fun x : Int × Bool => x.2) pre = q := ⟨(fidx (fun x : Int × Bool => x.2) pre).toNat, by omega⟩
        have hql : q < pre.length := by have := (fidx_ge (p := fun x : Int × Bool => x.2) pre).2; omega
        rw [if_pos (by omega), hq2] at hnx
        have hF2 := hF.oth q hq2 hk6
        have hwt := hF.wt
        have hlen := hF.len
        have hg : (pre ++ ((xx3 : Int), true) :: post).getD q default = pre.getD q default := by rw [List.getD_eq_getElem?_getD, List.getElem?_append_left hql, ← List.getD_eq_getElem?_getD]
        have hmem : pre.getD q default ∈ pre := by
          have : pre.getD q default = pre[q] := by simp [List.getD, hql]
          rw [this]; exact List.getElem_mem _
        have hid := hF.ids _ (List.mem_append_left _ hmem)
        have ht0 := hF.t0 _ hmem
        have hb := fair_b xx4 (1 + xx1) xx7 _ q h64 (by omega) hnx
        rw [hg, show (pre ++ ((xx3 : Int), true) :: post).eraseIdx q ++ [pre.getD q default] = pre.eraseIdx q ++ ((xx3 : Int), true) :: (post ++ [pre.getD q default]) from by rw [List.eraseIdx_append_of_lt_length hql]; simp] at hb
        obtain ⟨pre2, hpre2⟩ : ∃ l, pre.eraseIdx q = l := ⟨_, rfl⟩
        obtain ⟨post2, hpost2⟩ : ∃ l, post ++ [pre.getD q default] = l := ⟨_, rfl⟩
        obtain ⟨z, hz⟩ : ∃ z : Nat, (pre.getD q default).1 = z := ⟨(pre.getD q default).1.toNat, by omega⟩
        rw [hpre2, hpost2, hz] at hb
        rw [hpre2, hpost2, hz, Int.toNat_natCast] at hF2
        rw [hz, Int.toNat_natCast] at ht0
        rw [hz] at hid
        have he := fair_e xx4 (1 + xx1) xx7 (pre2 ++ ((xx3 : Int), true) :: post2) (z : Int) (by omega) (by omega)
        have hzm : z ≠ xx3 := by omega
        (focus
          refine Xg.at_region ?_
          refine Xg.ops_op (by kernel_rfl) (Xg.opx_pure ((pv xx4 0)) rfl (fun _ => by kernel_rfl) ?_)
          refine Xg.ops_op (by kernel_rfl) (Xg.opx_pure ((iv (↑xx7 : Int))) rfl (fun _ => by kernel_rfl) ?_)
          refine Xg.ops_op (by kernel_rfl) (Xg.opx_call1' [1] [SchedP xx4 (pre2 ++ ((↑xx3 : Int), true) :: post2) ((List.replicate ((1 : Nat) + xx1) (-1 : Int)).set xx7 (↑z : Int)), row xb3 (33 : Nat) [iv (xs.getD i default).fst, iv (xs.getD i default).snd], row xb1 (39 : TypeId) (arrI tq), row xb2 (40 : TypeId) (arrB st), A] (fun _ => by kernel_rfl) (@hb ) (by kernel_rfl) (by kernel_rfl) (by kernel_rfl) ?_)
          refine Xg.ops_op (by kernel_rfl) (Xg.opx_pure ((Value.tuple #[iv (↑z : Int), iv 0])) rfl (fun _ => by kernel_rfl) ?_)
          refine Xg.ops_op (by kernel_rfl) (Xg.opx_pure ((iv (↑z : Int))) rfl (fun _ => by kernel_rfl) ?_)
          refine Xg.ops_op (by kernel_rfl) (Xg.opx_pure ((iv 0)) rfl (fun _ => by kernel_rfl) ?_)
          refine Xg.ops_op (by kernel_rfl) (Xg.opx_pure ((iv (↑z : Int))) rfl (fun _ => by kernel_rfl) ?_)
          refine Xg.ops_op (by kernel_rfl) (Xg.opx_pure ((iv 0)) rfl (fun _ => by kernel_rfl) ?_)
          refine Xg.ops_nil ?_
          refine Xg.at_seq ?_
          refine Xg.at_region ?_
          refine Xg.ops_op (by kernel_rfl) (Xg.opx_pure ((pv xx4 0)) rfl (fun _ => by kernel_rfl) ?_)
          refine Xg.ops_op (by kernel_rfl) (Xg.opx_pure ((iv (↑xx7 : Int))) rfl (fun _ => by kernel_rfl) ?_)
          refine Xg.ops_op (by kernel_rfl) (Xg.opx_call1' [0] [SchedP xx4 (pre2 ++ ((↑xx3 : Int), true) :: post2) (List.replicate ((1 : Nat) + xx1) (-1 : Int)), row xb3 (33 : Nat) [iv (xs.getD i default).fst, iv (xs.getD i default).snd], row xb1 (39 : TypeId) (arrI tq), row xb2 (40 : TypeId) (arrB st), A] (fun _ => by kernel_rfl) (@he ) (by kernel_rfl) (by kernel_rfl) (by kernel_rfl) ?_)
          refine Xg.ops_op (by kernel_rfl) (Xg.opx_pure ((Value.tuple #[iv (↑z : Int), iv 0])) rfl (fun _ => by kernel_rfl) ?_)
          refine Xg.ops_op (by kernel_rfl) (Xg.opx_pure ((iv (↑z : Int))) rfl (fun _ => by kernel_rfl) ?_)
          refine Xg.ops_op (by kernel_rfl) (Xg.opx_pure ((iv 0)) rfl (fun _ => by kernel_rfl) ?_)
          refine Xg.ops_op (by kernel_rfl) (Xg.opx_pure ((iv (↑z : Int))) rfl (fun _ => by kernel_rfl) ?_)
          refine Xg.ops_op (by kernel_rfl) (Xg.opx_pure ((iv 0)) rfl (fun _ => by kernel_rfl) ?_)
          refine Xg.ops_nil ?_
          refine Xg.at_seq ?_
          refine Xg.at_seq ?_
          refine Xg.at_region ?_
          refine Xg.ops_op (by kernel_rfl) (Xg.opx_pure ((iv 0)) rfl (fun _ => by kernel_rfl) ?_)
          refine Xg.ops_op (by kernel_rfl) (Xg.opx_pure ((Value.bool false)) rfl (fun _ => by kernel_rfl) ?_)
          refine Xg.ops_op (by kernel_rfl) (Xg.opx_pure ((Value.bool false)) rfl (fun _ => by kernel_rfl) ?_)
          refine Xg.ops_op (by kernel_rfl) (Xg.opx_pure ((iv 0)) rfl (fun _ => by kernel_rfl) ?_)
          refine Xg.ops_op (by kernel_rfl) (Xg.opx_pure ((Value.bool false)) rfl (fun _ => by kernel_rfl) ?_)
          refine Xg.ops_op (by kernel_rfl) (Xg.opx_pure ((Value.bool false)) rfl (fun _ => by kernel_rfl) ?_)
          refine Xg.ops_op (by kernel_rfl) (Xg.opx_pure ((Value.bool false)) rfl (fun _ => by kernel_rfl) ?_)
          refine Xg.ops_op (by kernel_rfl) (Xg.opx_pure ((iv (↑z : Int))) rfl (fun _ => by kernel_rfl) ?_)
          refine Xg.ops_op (by kernel_rfl) (Xg.opx_pure (.bool (decide ((((↑z : Int)) : Int) < ((0 : Int))))) rfl (fun _ => by kernel_rfl) ?_)
          refine Xg.ops_flag (j := 119) (c := (decide ((↑z : Int) < (0 : Int)))) (by kernel_rfl) (fun xh8 => absurd (of_decide_eq_true xh8) (by omega)) (fun _ => ?_)
          refine Xg.ops_op (by kernel_rfl) (Xg.opx_pure ((Value.bool false)) rfl (fun _ => by kernel_rfl) ?_)
          refine Xg.ops_op (by kernel_rfl) (Xg.opx_pure ((Value.bool false)) rfl (fun _ => by kernel_rfl) ?_)
          refine Xg.ops_op (by kernel_rfl) (Xg.opx_pure ((iv (↑z : Int))) rfl (fun _ => by kernel_rfl) ?_)
          refine Xg.ops_op (by kernel_rfl) (Xg.opx_pure ((iv ((1 : Int) + (↑xx2 : Int)))) rfl (fun _ => by kernel_rfl) ?_)
          refine Xg.ops_op (by kernel_rfl) (Xg.opx_pure (.bool (decide ((((↑z : Int)) : Int) ≥ ((1 : Int) + (↑xx2 : Int))))) rfl (fun _ => by kernel_rfl) ?_)
          refine Xg.ops_flag (j := 124) (c := (decide ((↑z : Int) ≥ (1 : Int) + (↑xx2 : Int)))) (by kernel_rfl) (fun xh8 => absurd (of_decide_eq_true xh8) (by omega)) (fun _ => ?_)
          refine Xg.ops_op (by kernel_rfl) (Xg.opx_pure ((Value.bool false)) rfl (fun _ => by kernel_rfl) ?_)
          refine Xg.ops_nil ?_
          refine Xg.at_false (t := false) (by kernel_rfl) rfl ?_
          refine Xg.at_skip ?_
          refine Xg.at_seq ?_
          refine Xg.at_region ?_
          refine Xg.ops_op (by kernel_rfl) (Xg.opx_pure ((iv (↑w : Int))) rfl (fun _ => by kernel_rfl) ?_)
          refine Xg.ops_op (by kernel_rfl) (Xg.opx_int .i64 (IntKind.wrap .i64 (((↑w : Int) + (1 : Int)))) rfl (fun _ => by kernel_rfl) (Xg.wrap_i64_in (by omega)) ?_)
          refine Xg.ops_op (by kernel_rfl) (Xg.opx_pure ((iv ((↑w : Int) + (1 : Int)))) rfl (fun _ => by kernel_rfl) ?_)
          refine Xg.ops_nil ?_
          refine Xg.at_seq ?_
          refine Xg.at_seq ?_
          refine Xg.at_region ?_
          refine Xg.ops_op (by kernel_rfl) (Xg.opx_pure ((iv (↑z : Int))) rfl (fun _ => by kernel_rfl) ?_)
          refine Xg.ops_op (by kernel_rfl) (Xg.opx_pure ((iv (↑xx3 : Int))) rfl (fun _ => by kernel_rfl) ?_)
          refine Xg.ops_op (by kernel_rfl) (Xg.opx_pure (.bool (!decide ((((↑z : Int)) : Int) = ((↑xx3 : Int))))) rfl (fun _ => by kernel_rfl) ?_)
          refine Xg.ops_nil ?_
          refine Xg.at_true (t := !decide (((↑z : Int) = (↑xx3 : Int)))) (by kernel_rfl) (by rw [decide_eq_false (by omega)]; rfl) ?_
          refine Xg.at_seq ?_
          refine Xg.at_region ?_
          refine Xg.ops_op (by kernel_rfl) (Xg.opx_pure ((iv (↑z : Int))) rfl (fun _ => by kernel_rfl) ?_)
          refine Xg.ops_op (by kernel_rfl) (Xg.opx_run (.pointer (some (Addr.mk xb1 z none))) rfl (Xg.run_ix_array' (elem := 3) (len := 12) (b := xb1) (off := ((0 : Nat))) (kd := .i64) (e := ((↑z : Int))) 1 z z (by kernel_rfl) (by kernel_rfl) (by kernel_rfl) (by kernel_rfl) rfl (by omega) (by omega)) ?_)
          refine Xg.ops_op (by kernel_rfl) (Xg.opx_load (b := xb1) (off := z) 2 (iv (tq z)) rfl (by kernel_rfl) (@Go.Proofs.Ytijjficnhpokdaa.g_int (tq) (z) (by omega)) (by kernel_rfl) ?_)
          refine Xg.ops_op (by kernel_rfl) (Xg.opx_int .i64 (IntKind.wrap .i64 ((tq z + (1 : Int)))) rfl (fun _ => by kernel_rfl) (Xg.wrap_i64_in (by omega)) ?_)
          refine Xg.ops_op (by kernel_rfl) (Xg.opx_run (.pointer (some (Addr.mk xb1 z none))) rfl (Xg.run_ix_array' (elem := 3) (len := 12) (b := xb1) (off := ((0 : Nat))) (kd := .i64) (e := ((↑z : Int))) 1 z z (by kernel_rfl) (by kernel_rfl) (by kernel_rfl) (by kernel_rfl) rfl (by omega) (by omega)) ?_)
          refine Xg.ops_op (by kernel_rfl) (Xg.opx_store_c (off := z) (cs' := (arrI (upd tq z (tq z + (1 : Int))))) 2 (iv (tq z + (1 : Int))) (by kernel_rfl) rfl (by kernel_rfl) (by kernel_rfl) (by kernel_rfl) (@Go.Proofs.Ytijjficnhpokdaa.s_int (tq) (z) ((tq z + (1 : Int))) (by omega)) ?_)
          refine Xg.ops_nil ?_
          refine Xg.at_seq ?_
          refine Xg.at_seq ?_
          refine Xg.at_region ?_
          refine Xg.ops_op (by kernel_rfl) (Xg.opx_pure ((iv ((↑w : Int) + (1 : Int)))) rfl (fun _ => by kernel_rfl) ?_)
          refine Xg.ops_op (by kernel_rfl) (Xg.opx_pure ((iv ((1 : Int) + (↑xx2 : Int)))) rfl (fun _ => by kernel_rfl) ?_)
          refine Xg.ops_op (by kernel_rfl) (Xg.opx_pure (.bool (decide ((((↑w : Int) + (1 : Int)) : Int) ≥ ((1 : Int) + (↑xx2 : Int))))) rfl (fun _ => by kernel_rfl) ?_)
          refine Xg.ops_nil ?_
          refine Xg.at_false (t := decide (((↑w : Int) + (1 : Int) ≥ (1 : Int) + (↑xx2 : Int)))) (by kernel_rfl) (decide_eq_false (by omega)) ?_
          refine Xg.at_skip ?_
          refine Xg.at_exit rfl ?_
          refine Xg.at_region ?_
          refine Xg.ops_op (by kernel_rfl) (Xg.opx_pure ((iv (↑i : Int))) rfl (fun _ => by kernel_rfl) ?_)
          refine Xg.ops_op (by kernel_rfl) (Xg.opx_int .i64 (IntKind.wrap .i64 (((↑i : Int) + (1 : Int)))) rfl (fun _ => by kernel_rfl) (Xg.wrap_i64_in (by omega)) ?_)
          refine Xg.ops_op (by kernel_rfl) (Xg.opx_pure ((iv ((↑i : Int) + (1 : Int)))) rfl (fun _ => by kernel_rfl) ?_)
          refine Xg.ops_nil ?_
          refine Xg.at_inLoop ?_)
        rw [show (1 : Int) = tq z + 1 from by omega] at hF2
        (focus
          refine Xg.at_keep [0, 2, 3, 4] (by kernel_rfl) ?_
          refine Xs.same ?_ (fun J9 => ih (((i + 1, pre2, post2, upd tq z (tq z + 1), st, w + 1, mine)), J9) ?_ ?_) (by kernel_rfl))
        · rfl
        · exact ⟨by dsimp only; omega, hF2⟩
        · dsimp only; omega
  · clear ih
    (focus
      refine Xg.at_seq ?_
      refine Xg.at_seq ?_
      refine Xg.at_region ?_
      refine Xg.ops_op (by kernel_rfl) (Xg.opx_pure ((iv (↑i : Int))) rfl (fun _ => by kernel_rfl) ?_)
      refine Xg.ops_op (by kernel_rfl) (Xg.opx_pure ((Value.slice a m c)) rfl (fun _ => by kernel_rfl) ?_)
      refine Xg.ops_op (by kernel_rfl) (Xg.opx_pure ((iv (↑m : Int))) rfl (fun _ => by kernel_rfl) ?_)
      refine Xg.ops_op (by kernel_rfl) (Xg.opx_pure (.bool (decide ((((↑i : Int)) : Int) < ((↑m : Int))))) rfl (fun _ => by kernel_rfl) ?_)
      refine Xg.ops_nil ?_
      refine Xg.at_false (t := decide (((↑i : Int) < (↑m : Int)))) (by kernel_rfl) (decide_eq_false (by omega)) ?_
      refine Xg.at_exit rfl ?_
      refine Xg.at_seq ?_
      refine Xg.at_region ?_
      refine Xg.ops_op (by kernel_rfl) (Xg.opx_pure ((Value.bool true)) rfl (fun _ => by kernel_rfl) ?_)
      refine Xg.ops_nil ?_
      refine Xg.at_ret_ps (v := (Value.bool true)) [3] [A] Go.Proofs.Try.func6 (fun _ => by kernel_rfl) (by kernel_rfl) (by kernel_rfl) ?_
      exact ⟨by kernel_rfl, by kernel_rfl⟩)
end Go.Proofs.Ytijjficnhpokdaa
