/- The law ArenaSpans: bytes are where they were stored. -/
import Derived.Test.YtmplimmcjdkhlaaKPD1
import Derived.Test.YtmplimmcjdkhlaaKS
import Derived.Test.YtmplimmcjdkhlaaKP11
namespace Go.Proofs.Ytmplimmcjdkhlaa
open Go.Sl Go.Xg
set_option linter.unusedVariables false
set_option linter.unusedSimpArgs false
set_option linter.unnecessarySimpa false
set_option maxHeartbeats 4000000
set_option maxRecDepth 100000

def pickN (c : Int) (n : Nat) : Nat := ((if c < 0 then -(c + 1) else c) % (n : Int)).toNat
theorem pickN_lt (c : Int) (n : Nat) (h : 0 < n) : pickN c n < n := by
  unfold pickN
  have h1 := Int.emod_lt_of_pos (if c < 0 then -(c + 1) else c) (b := (n : Int)) (by omega)
  have h2 := Int.emod_nonneg (if c < 0 then -(c + 1) else c) (b := (n : Int)) (by omega)
  omega
theorem pickN_eq (c : Int) (n : Nat) (h : 0 < n) : ((pickN c n : Nat) : Int) = (if c < 0 then -(c + 1) else c) % (n : Int) := by
  unfold pickN
  have h2 := Int.emod_nonneg (if c < 0 then -(c + 1) else c) (b := (n : Int)) (by omega)
  omega
theorem pick_d (c : Int) (n : Nat) (hc : i64ok c) (hn : 0 < n) : Does Try.prog 13 [.int .i64 c, .int .i64 (n : Nat)] []
    (RetE (fun x : Nat => x = pickN c n ∧ x < n) (fun x => .int .i64 (x : Nat)) (fun _ => [])) := by
  refine Does.mono (post := Ret (.int .i64 ((if c < 0 then -(c + 1) else c) % (n : Int))) []) ?_ fun v ps ⟨e1, e2⟩ => ⟨pickN c n, ⟨rfl, pickN_lt c n hn⟩, by rw [e1, ← pickN_eq c n hn], e2⟩
  obtain ⟨h1, h2⟩ := hc
  (focus
    refine Xg.spec_of Go.Proofs.Try.func13 rfl Go.Proofs.Try.ntmps13 fun g F => ?_)
  (focus
    refine Xg.at_seq ?_
    refine Xg.at_region ?_
    refine Xg.ops_op (by kernel_rfl) (Xg.opx_pure ((iv 0)) rfl (fun _ => by kernel_rfl) ?_)
    refine Xg.ops_nil ?_
    refine Xg.at_seq ?_
    refine Xg.at_seq ?_
    refine Xg.at_region ?_
    refine Xg.ops_op (by kernel_rfl) (Xg.opx_pure ((iv c)) rfl (fun _ => by kernel_rfl) ?_)
    refine Xg.ops_op (by kernel_rfl) (Xg.opx_pure (.bool (decide ((c : Int) < ((0 : Int))))) rfl (fun _ => by kernel_rfl) ?_)
    refine Xg.ops_nil ?_
    refine Xg.at_dec (p := (c < (0 : Int))) (by kernel_rfl) (fun xh1 => ?_) (fun xh1 => ?_)
    refine Xg.at_region ?_
    refine Xg.ops_op (by kernel_rfl) (Xg.opx_pure ((iv c)) rfl (fun _ => by kernel_rfl) ?_)
    refine Xg.ops_op (by kernel_rfl) (Xg.opx_int .i64 (IntKind.wrap .i64 ((c + (1 : Int)))) rfl (fun _ => by kernel_rfl) (Xg.wrap_i64_in (by omega)) ?_)
    refine Xg.ops_op (by kernel_rfl) (Xg.opx_int .i64 (IntKind.wrap .i64 (((0 : Int) - (c + (1 : Int))))) rfl (fun _ => by kernel_rfl) (Xg.wrap_i64_in (by omega)) ?_)
    refine Xg.ops_op (by kernel_rfl) (Xg.opx_pure ((iv ((0 : Int) - (c + (1 : Int))))) rfl (fun _ => by kernel_rfl) ?_)
    refine Xg.ops_nil ?_
    refine Xg.at_seq ?_
    refine Xg.at_region ?_
    refine Xg.ops_op (by kernel_rfl) (Xg.opx_pure ((iv ((0 : Int) - (c + (1 : Int))))) rfl (fun _ => by kernel_rfl) ?_)
    refine Xg.ops_op (by kernel_rfl) (Xg.opx_pure ((iv (↑n : Int))) rfl (fun _ => by kernel_rfl) ?_)
    refine Xg.ops_op (by kernel_rfl) (Xg.opx_run (.int .i64 (((0 : Int) - (c + (1 : Int))) % ((↑n : Int)))) rfl (fun _ => Xg.run_rem (k1 := .i64) (m := ((0 : Int) - (c + (1 : Int)))) (e := ((↑n : Int))) (by kernel_rfl) (by kernel_rfl) (by omega) (by omega)) ?_)
    refine Xg.ops_op (by kernel_rfl) (Xg.opx_pure ((iv (((0 : Int) - (c + (1 : Int))) % (↑n : Int)))) rfl (fun _ => by kernel_rfl) ?_)
    refine Xg.ops_nil ?_
    refine Xg.at_ret_ps (v := (iv (((0 : Int) - (c + (1 : Int))) % (↑n : Int)))) [] [] Go.Proofs.Try.func13 (fun _ => by kernel_rfl) (by kernel_rfl) (by kernel_rfl) ?_
    rotate_left
    refine Xg.at_skip ?_
    refine Xg.at_seq ?_
    refine Xg.at_region ?_
    refine Xg.ops_op (by kernel_rfl) (Xg.opx_pure ((iv c)) rfl (fun _ => by kernel_rfl) ?_)
    refine Xg.ops_op (by kernel_rfl) (Xg.opx_pure ((iv (↑n : Int))) rfl (fun _ => by kernel_rfl) ?_)
    refine Xg.ops_op (by kernel_rfl) (Xg.opx_run (.int .i64 (c % ((↑n : Int)))) rfl (fun _ => Xg.run_rem (k1 := .i64) (m := c) (e := ((↑n : Int))) (by kernel_rfl) (by kernel_rfl) (by omega) (by omega)) ?_)
    refine Xg.ops_op (by kernel_rfl) (Xg.opx_pure ((iv (c % (↑n : Int)))) rfl (fun _ => by kernel_rfl) ?_)
    refine Xg.ops_nil ?_
    refine Xg.at_ret_ps (v := (iv (c % (↑n : Int)))) [] [] Go.Proofs.Try.func13 (fun _ => by kernel_rfl) (by kernel_rfl) (by kernel_rfl) ?_)
  all_goals exact ⟨by first | (rw [if_pos (by omega), Int.zero_sub]; done) | (rw [if_neg (by omega)]; done), rfl⟩



theorem zeros_d (n : Nat) (hn : n ≤ 300) : Does Try.prog 20 [.int .i64 (n : Nat)] [] (RetE (fun z : Option Addr => z.isNone = false) (fun z => .slice z (List.replicate n (0 : Int)).length n) (fun z => [Y2 z n (List.replicate n 0)])) := by
  rw [List.length_replicate]
  (focus
    refine Xg.spec_of Go.Proofs.Try.func20 rfl Go.Proofs.Try.ntmps20 fun g F => ?_)
  (focus
    refine Xg.at_seq ?_
    refine Xg.at_region ?_
    refine Xg.ops_op (by kernel_rfl) (Xg.opx_pure ((Value.slice none (0 : Nat) (0 : Nat))) rfl (fun _ => by kernel_rfl) ?_)
    refine Xg.ops_nil ?_
    refine Xg.at_seq ?_
    refine Xg.at_region ?_
    refine Xg.ops_op (by kernel_rfl) (Xg.opx_pure ((iv (↑n : Int))) rfl (fun _ => by kernel_rfl) ?_)
    refine Xg.ops_op (by kernel_rfl) (Xg.opx_make_hid (elem := 5) (kd := .u8) (by_ := 1) (k1 := .i64) (k2 := .i64) (n := ((↑n : Int))) (c := ((↑n : Int))) n n (by kernel_rfl) (by kernel_rfl) (by kernel_rfl) (by kernel_rfl) rfl rfl (by omega) (by omega) fun xa1 xs1 xh1 xl1 xz1 => ?_)
    refine Xg.ops_op (by kernel_rfl) (Xg.opx_pure ((Value.slice xa1 xs1.length n)) rfl (fun _ => by kernel_rfl) ?_)
    refine Xg.ops_nil ?_)
  have hxl : xs1.length = n := by assumption
  have hxz : ∀ i : Nat, xs1.getD i 0 = 0 := by assumption
  have hxr : xs1 = List.replicate n 0 := by
    apply List.ext_getElem (by rw [hxl, List.length_replicate])
    intro i g1 g2
    have := hxz i
    simpa [List.getD, g1] using this
  rw [hxl]
  subst hxr
  (focus
    refine Xg.at_ret_ps (v := (Value.slice xa1 n n)) [0] [ints (5 : TypeId) IntKind.u8 xa1 n (List.replicate n (0 : Int))] Go.Proofs.Try.func20 (fun _ => by kernel_rfl) (by kernel_rfl) (by kernel_rfl) ?_
    refine ⟨xa1, ?_, by kernel_rfl, by kernel_rfl⟩)
  assumption

theorem reads_hi_any {A : HP} {sz n c : Nat} {a : Option Addr} {vs : List Value} (hR : Reads A sz (.slice a n c) n vs) (h : Nat) (hh : h ≤ n) : Reads A sz (.slice a h c) h (vs.take (h * sz)) := by
  refine ⟨fun g F w hS => ?_⟩
  obtain ⟨a', c', e, hl, hc⟩ := hR.run g F w hS
  cases e
  refine ⟨_, _, rfl, ?_, fun j u hu => ?_⟩
  · rw [List.length_take, hl]
    exact Nat.min_eq_left (Nat.mul_le_mul_right _ hh)
  · rw [List.getElem?_take] at hu
    split at hu
    · exact hc j u hu
    · cases hu

theorem sEq_refl (xs : List Int) : sEq xs xs = true := by simp [sEq]

set_option maxHeartbeats 0 in
theorem pspans_d (A : HP) (size0 : Int) (hsi : i64ok size0) (at1 : Int) (hat : i64ok at1) (a : Option Addr) (m c : Nat) (xs : List Int) (hm : xs.length = m) (hmx : m ≤ maxLen) (hR : Reads A 1 (.slice a m c) m (xs.map (Value.int .u8))) (hB : m ≤ c ∧ ∀ i, i < m → 0 ≤ xs.getD i 0 ∧ xs.getD i 0 ≤ 255) (far0 : Int) (hfa : i64ok far0) :
    Does Try.prog 5 [.int .i64 size0, .int .i64 at1, .slice a m c, .int .i64 far0] [A] (Ret (.bool true) [A]) := by
  unfold maxLen at hmx
  (focus
    refine Xg.spec_of Go.Proofs.Try.func5 rfl Go.Proofs.Try.ntmps5 fun g F => ?_)
  (focus
    refine Xg.at_seq ?_
    refine Xg.at_region ?_
    refine Xg.ops_op (by kernel_rfl) (Xg.opx_pure ((Value.bool false)) rfl (fun _ => by kernel_rfl) ?_)
    refine Xg.ops_nil ?_
    refine Xg.at_seq ?_
    refine Xg.at_region ?_
    refine Xg.ops_op (by kernel_rfl) (Xg.opx_pure ((iv size0)) rfl (fun _ => by kernel_rfl) ?_)
    refine Xg.ops_op (by kernel_rfl) (Xg.opx_callE' [] (fun xx1 => [A]) (fun _ => by kernel_rfl) (@Go.Proofs.Ytmplimmcjdkhlaa.pick_d (size0) ((nat_lit 300)) (by omega) (by first | rfl | decide | (constructor <;> omega) | (simp; done) | (simp; omega))) (by kernel_rfl) (by kernel_rfl) (by kernel_rfl) fun xx1 xh1 => ?_)
    try dsimp only at xh1
    obtain ⟨xh1_0, xh1_1⟩ := xh1
    refine Xg.ops_op (by kernel_rfl) (Xg.opx_int .i64 (IntKind.wrap .i64 (((1 : Int) + (↑xx1 : Int)))) rfl (fun _ => by kernel_rfl) (Xg.wrap_i64_in (by omega)) ?_)
    refine Xg.ops_op (by kernel_rfl) (Xg.opx_pure ((iv ((1 : Int) + (↑xx1 : Int)))) rfl (fun _ => by kernel_rfl) ?_)
    refine Xg.ops_nil ?_
    refine Xg.at_seq ?_)
  obtain ⟨N, hN⟩ : ∃ N : Nat, 1 + xx1 = N := ⟨_, rfl⟩
  have hN1 : 1 ≤ N := by omega
  have hN3 : N ≤ 300 := by omega
  rw [show (1 : Int) + (xx1 : Int) = (N : Int) from by omega]
  (focus
    refine Xg.at_region ?_
    refine Xg.ops_op (by kernel_rfl) (Xg.opx_pure ((iv (↑N : Int))) rfl (fun _ => by kernel_rfl) ?_)
    refine Xg.ops_op (by kernel_rfl) (Xg.opx_pure ((Value.agg #[iv (↑N : Int), iv 2])) rfl (fun _ => by kernel_rfl) ?_)
    refine Xg.ops_op (by kernel_rfl) (Xg.opx_bs (elem := 32) 2 [Value.agg #[iv (↑N : Int), iv 2]] [iv (↑N : Int), iv 2] (by kernel_rfl) (by kernel_rfl) (by decide) rfl (by kernel_rfl) (by kernel_rfl) (by kernel_rfl) (by kernel_rfl) fun xb1 => ?_)
    refine Xg.ops_op (by kernel_rfl) (Xg.opx_pure ((Value.agg #[Value.slice (some (Addr.mk xb1 (0 : Nat) none)) (1 : Nat) (1 : Nat), iv 1])) rfl (fun _ => by kernel_rfl) ?_)
    refine Xg.ops_op (by kernel_rfl) (Xg.opx_callE' [0] (fun xx2 => [row xx2.fst (94 : TypeId) [Value.slice xx2.snd.snd.fst.fst (1 : Nat) xx2.snd.snd.fst.snd, Value.slice xx2.snd.snd.snd.fst.fst (2 : Nat) xx2.snd.snd.snd.fst.snd, Value.slice (some (Addr.mk xx2.snd.fst (0 : Nat) none)) (1 : Nat) (1 : Nat)], recsO (98 : Nat) (3 : Nat) clC xx2.snd.snd.fst.fst xx2.snd.snd.fst.snd [((↑N : Int), xx2.snd.snd.snd.snd.fst, (2 : Nat), xx2.snd.snd.snd.snd.snd)], recsO (101 : Nat) (2 : Nat) bfC xx2.snd.snd.snd.fst.fst xx2.snd.snd.snd.fst.snd [((0 : Int), none, (0 : Nat), (0 : Nat)), ((0 : Int), none, (0 : Nat), (0 : Nat))], row xx2.snd.fst (102 : TypeId) [Value.pointer none], ints (3 : TypeId) IntKind.i64 xx2.snd.snd.snd.snd.fst xx2.snd.snd.snd.snd.snd [(0 : Int), (1 : Int)], A]) (fun _ => by kernel_rfl) (@Go.Proofs.Ytmplimmcjdkhlaa.new2_d (xb1) (N) (by omega) (by omega)) (by kernel_rfl) (by kernel_rfl) (by kernel_rfl) fun xx2 xh2 => ?_)
    try dsimp only at xh2
    refine Xg.ops_op (by kernel_rfl) (Xg.opx_pure ((Value.tuple #[pv xx2.fst 0, iv 0])) rfl (fun _ => by kernel_rfl) ?_)
    refine Xg.ops_op (by kernel_rfl) (Xg.opx_pure ((pv xx2.fst 0)) rfl (fun _ => by kernel_rfl) ?_)
    refine Xg.ops_op (by kernel_rfl) (Xg.opx_pure ((iv 0)) rfl (fun _ => by kernel_rfl) ?_)
    refine Xg.ops_op (by kernel_rfl) (Xg.opx_pure ((pv xx2.fst 0)) rfl (fun _ => by kernel_rfl) ?_)
    refine Xg.ops_op (by kernel_rfl) (Xg.opx_pure ((iv 0)) rfl (fun _ => by kernel_rfl) ?_)
    refine Xg.ops_nil ?_
    refine Xg.at_seq ?_
    refine Xg.at_seq ?_
    refine Xg.at_region ?_
    refine Xg.ops_op (by kernel_rfl) (Xg.opx_pure ((pv xx2.fst 0)) rfl (fun _ => by kernel_rfl) ?_)
    refine Xg.ops_op (by kernel_rfl) (Xg.opx_pure ((Value.bool false)) rfl (fun _ => by kernel_rfl) ?_)
    refine Xg.ops_op (by kernel_rfl) (Xg.opx_pure ((Value.bool false)) rfl (fun _ => by kernel_rfl) ?_)
    refine Xg.ops_op (by kernel_rfl) (Xg.opx_pure ((iv 0)) rfl (fun _ => by kernel_rfl) ?_)
    refine Xg.ops_op (by kernel_rfl) (Xg.opx_pure ((Value.bool false)) rfl (fun _ => by kernel_rfl) ?_)
    refine Xg.ops_op (by kernel_rfl) (Xg.opx_pure ((Value.bool false)) rfl (fun _ => by kernel_rfl) ?_)
    refine Xg.ops_nil ?_
    refine Xg.at_false (t := false) (by kernel_rfl) rfl ?_
    refine Xg.at_skip ?_
    refine Xg.at_seq ?_
    refine Xg.at_region ?_
    refine Xg.ops_op (by kernel_rfl) (Xg.opx_pure ((pv xx2.fst 0)) rfl (fun _ => by kernel_rfl) ?_)
    refine Xg.ops_op (by kernel_rfl) (Xg.opx_pure ((iv (↑N : Int))) rfl (fun _ => by kernel_rfl) ?_)
    refine Xg.ops_op (by kernel_rfl) (Xg.opx_int .i64 (IntKind.wrap .i64 (((2 : Int) * (↑N : Int)))) rfl (fun _ => by kernel_rfl) (Xg.wrap_i64_in (by omega)) ?_)
    refine Xg.ops_op (by kernel_rfl) (Xg.opx_callE' [0, 3] (fun xx3 => [H2 xx2.fst xx2.snd.fst xx2.snd.snd.fst.fst xx2.snd.snd.fst.snd xx2.snd.snd.snd.fst.fst xx2.snd.snd.snd.fst.snd, A2 xx2.snd.fst xx3, R2 xx3 ((2 : Int) * (↑N : Int)) (0 : Int) none (0 : Nat) (0 : Nat), recsO (98 : Nat) (3 : Nat) clC xx2.snd.snd.fst.fst xx2.snd.snd.fst.snd [((↑N : Int), xx2.snd.snd.snd.snd.fst, (2 : Nat), xx2.snd.snd.snd.snd.snd)], recsO (101 : Nat) (2 : Nat) bfC xx2.snd.snd.snd.fst.fst xx2.snd.snd.snd.fst.snd [((0 : Int), none, (0 : Nat), (0 : Nat)), ((0 : Int), none, (0 : Nat), (0 : Nat))], ints (3 : TypeId) IntKind.i64 xx2.snd.snd.snd.snd.fst xx2.snd.snd.snd.snd.snd [(0 : Int), (1 : Int)], A]) (fun _ => by kernel_rfl) (@Go.Proofs.Ytmplimmcjdkhlaa.open1_d (xx2.fst) (xx2.snd.fst) (xx2.snd.snd.fst.fst) (xx2.snd.snd.fst.snd) (xx2.snd.snd.snd.fst.fst) (xx2.snd.snd.snd.fst.snd) (((2 : Int) * (↑N : Int))) (by omega)) (by kernel_rfl) (by kernel_rfl) (by kernel_rfl) fun xx3 xh3 => ?_)
    try dsimp only at xh3
    refine Xg.ops_op (by kernel_rfl) (Xg.opx_pure ((Value.tuple #[iv 0, iv 0])) rfl (fun _ => by kernel_rfl) ?_)
    refine Xg.ops_op (by kernel_rfl) (Xg.opx_pure ((iv 0)) rfl (fun _ => by kernel_rfl) ?_)
    refine Xg.ops_op (by kernel_rfl) (Xg.opx_pure ((iv 0)) rfl (fun _ => by kernel_rfl) ?_)
    refine Xg.ops_op (by kernel_rfl) (Xg.opx_pure ((iv 0)) rfl (fun _ => by kernel_rfl) ?_)
    refine Xg.ops_op (by kernel_rfl) (Xg.opx_pure ((iv 0)) rfl (fun _ => by kernel_rfl) ?_)
    refine Xg.ops_nil ?_
    refine Xg.at_seq ?_
    refine Xg.at_region ?_
    refine Xg.ops_op (by kernel_rfl) (Xg.opx_pure ((pv xx2.fst 0)) rfl (fun _ => by kernel_rfl) ?_)
    refine Xg.ops_op (by kernel_rfl) (Xg.opx_pure ((iv 0)) rfl (fun _ => by kernel_rfl) ?_)
    refine Xg.ops_op (by kernel_rfl) (Xg.opx_pure ((iv (↑N : Int))) rfl (fun _ => by kernel_rfl) ?_)
    refine Xg.ops_op (by kernel_rfl) (Xg.opx_callE' [0, 3, 4, 1, 2, 5] (fun xx4 => [H2 xx2.fst xx2.snd.fst xx2.snd.snd.fst.fst xx2.snd.snd.fst.snd xx2.snd.snd.snd.fst.fst xx2.snd.snd.snd.fst.snd, C2 xx2.snd.snd.fst.fst xx2.snd.snd.fst.snd (↑N : Int) xx2.snd.snd.snd.snd.fst (1 : Nat) xx2.snd.snd.snd.snd.snd, B2 xx2.snd.snd.snd.fst.fst xx2.snd.snd.snd.fst.snd ((0 : Int), xx4.fst, N, N) ((0 : Int), nA, (0 : Nat), (0 : Nat)), A2 xx2.snd.fst xx3, R2 xx3 ((2 : Int) * (↑N : Int)) (↑N : Int) xx4.snd.fst (1 : Nat) xx4.snd.snd, I2 xx2.snd.snd.snd.snd.fst xx2.snd.snd.snd.snd.snd [(1 : Int)], Y2 xx4.fst N (List.replicate N (0 : Int)), I2 xx4.snd.fst xx4.snd.snd [(0 : Int)], A]) (fun _ => by kernel_rfl) (@Go.Proofs.Ytmplimmcjdkhlaa.take0_d (xx2.fst) (xx2.snd.fst) (xx3) (xx2.snd.snd.fst.fst) (xx2.snd.snd.fst.snd) (xx2.snd.snd.snd.fst.fst) (xx2.snd.snd.snd.fst.snd) (N) (by omega) (by omega) (xx2.snd.snd.snd.snd.fst) (xx2.snd.snd.snd.snd.snd) (((2 : Int) * (↑N : Int))) (by omega) (((↑N : Int))) (by omega)) (by kernel_rfl) (by kernel_rfl) (by kernel_rfl) fun xx4 xh4 => ?_)
    try dsimp only at xh4
    refine Xg.ops_op (by kernel_rfl) (Xg.opx_pure ((Value.tuple #[Value.agg #[iv 0, iv 0, iv (↑N : Int)], iv 0])) rfl (fun _ => by kernel_rfl) ?_)
    refine Xg.ops_op (by kernel_rfl) (Xg.opx_pure ((Value.agg #[iv 0, iv 0, iv (↑N : Int)])) rfl (fun _ => by kernel_rfl) ?_)
    refine Xg.ops_op (by kernel_rfl) (Xg.opx_pure ((iv 0)) rfl (fun _ => by kernel_rfl) ?_)
    refine Xg.ops_op (by kernel_rfl) (Xg.opx_new 3 [iv 0, iv 0, iv 0] (by kernel_rfl) (by kernel_rfl) fun xb2 => ?_)
    refine Xg.ops_op (by kernel_rfl) (Xg.opx_storen 3 (off := 0) 0 [iv 0, iv 0, iv (↑N : Int)] (by kernel_rfl) rfl (by kernel_rfl) (by kernel_rfl) rfl (by kernel_rfl) (Nat.le_of_ble_eq_true (by kernel_rfl)) ?_)
    refine Xg.ops_op (by kernel_rfl) (Xg.opx_pure ((iv 0)) rfl (fun _ => by kernel_rfl) ?_)
    refine Xg.ops_nil ?_
    refine Xg.at_seq ?_
    refine Xg.at_region ?_
    refine Xg.ops_op (by kernel_rfl) (Xg.opx_pure ((pv xx2.fst 0)) rfl (fun _ => by kernel_rfl) ?_)
    refine Xg.ops_op (by kernel_rfl) (Xg.opx_pure ((iv 0)) rfl (fun _ => by kernel_rfl) ?_)
    refine Xg.ops_op (by kernel_rfl) (Xg.opx_callE' [1, 2, 3, 4, 5, 6, 8] (fun xx5 => [H2 xx2.fst xx2.snd.fst xx2.snd.snd.fst.fst xx2.snd.snd.fst.snd xx2.snd.snd.snd.fst.fst xx2.snd.snd.snd.fst.snd, C2 xx2.snd.snd.fst.fst xx2.snd.snd.fst.snd (↑N : Int) xx2.snd.snd.snd.snd.fst (0 : Nat) xx2.snd.snd.snd.snd.snd, B2 xx2.snd.snd.snd.fst.fst xx2.snd.snd.snd.fst.snd ((0 : Int), xx4.fst, N, N) ((0 : Int), xx5.fst, N, N), A2 xx2.snd.fst xx3, R2 xx3 ((2 : Int) * (↑N : Int)) ((↑N : Int) + (↑N : Int)) xx5.snd.fst (2 : Nat) xx5.snd.snd, I2 xx2.snd.snd.snd.snd.fst xx2.snd.snd.snd.snd.snd [], Y2 xx5.fst N (List.replicate N (0 : Int)), I2 xx5.snd.fst xx5.snd.snd [(0 : Int), (1 : Int)], row xb2 (42 : Nat) [iv 0, iv 0, iv (↑N : Int)], Y2 xx4.fst N (List.replicate N (0 : Int)), A]) (fun _ => by kernel_rfl) (@Go.Proofs.Ytmplimmcjdkhlaa.take1_d (xx2.fst) (xx2.snd.fst) (xx3) (xx2.snd.snd.fst.fst) (xx2.snd.snd.fst.snd) (xx2.snd.snd.snd.fst.fst) (xx2.snd.snd.snd.fst.snd) (N) (by omega) (by omega) (xx2.snd.snd.snd.snd.fst) (xx2.snd.snd.snd.snd.snd) (((2 : Int) * (↑N : Int))) (by omega) (xx4.fst) (xx4.snd.fst) (xx4.snd.snd) (((1 : Int))) (by omega)) (by kernel_rfl) (by kernel_rfl) (by kernel_rfl) fun xx5 xh5 => ?_)
    try dsimp only at xh5
    refine Xg.ops_op (by kernel_rfl) (Xg.opx_pure ((Value.tuple #[Value.agg #[iv 1, iv 0, iv (↑N : Int)], iv 0])) rfl (fun _ => by kernel_rfl) ?_)
    refine Xg.ops_op (by kernel_rfl) (Xg.opx_pure ((Value.agg #[iv 1, iv 0, iv (↑N : Int)])) rfl (fun _ => by kernel_rfl) ?_)
    refine Xg.ops_op (by kernel_rfl) (Xg.opx_pure ((iv 0)) rfl (fun _ => by kernel_rfl) ?_)
    refine Xg.ops_op (by kernel_rfl) (Xg.opx_new 3 [iv 0, iv 0, iv 0] (by kernel_rfl) (by kernel_rfl) fun xb3 => ?_)
    refine Xg.ops_op (by kernel_rfl) (Xg.opx_storen 3 (off := 0) 0 [iv 1, iv 0, iv (↑N : Int)] (by kernel_rfl) rfl (by kernel_rfl) (by kernel_rfl) rfl (by kernel_rfl) (Nat.le_of_ble_eq_true (by kernel_rfl)) ?_)
    refine Xg.ops_op (by kernel_rfl) (Xg.opx_pure ((iv 0)) rfl (fun _ => by kernel_rfl) ?_)
    refine Xg.ops_nil ?_
    refine Xg.at_seq ?_
    refine Xg.at_seq ?_
    refine Xg.at_region ?_
    refine Xg.ops_op (by kernel_rfl) (Xg.opx_pure ((iv 0)) rfl (fun _ => by kernel_rfl) ?_)
    refine Xg.ops_op (by kernel_rfl) (Xg.opx_pure ((Value.bool false)) rfl (fun _ => by kernel_rfl) ?_)
    refine Xg.ops_op (by kernel_rfl) (Xg.opx_pure ((Value.bool false)) rfl (fun _ => by kernel_rfl) ?_)
    refine Xg.ops_op (by kernel_rfl) (Xg.opx_pure ((iv 0)) rfl (fun _ => by kernel_rfl) ?_)
    refine Xg.ops_op (by kernel_rfl) (Xg.opx_pure ((Value.bool false)) rfl (fun _ => by kernel_rfl) ?_)
    refine Xg.ops_op (by kernel_rfl) (Xg.opx_pure ((Value.bool false)) rfl (fun _ => by kernel_rfl) ?_)
    refine Xg.ops_op (by kernel_rfl) (Xg.opx_pure ((Value.bool false)) rfl (fun _ => by kernel_rfl) ?_)
    refine Xg.ops_op (by kernel_rfl) (Xg.opx_pure ((iv 0)) rfl (fun _ => by kernel_rfl) ?_)
    refine Xg.ops_op (by kernel_rfl) (Xg.opx_pure ((Value.bool false)) rfl (fun _ => by kernel_rfl) ?_)
    refine Xg.ops_op (by kernel_rfl) (Xg.opx_pure ((Value.bool false)) rfl (fun _ => by kernel_rfl) ?_)
    refine Xg.ops_op (by kernel_rfl) (Xg.opx_pure ((Value.bool false)) rfl (fun _ => by kernel_rfl) ?_)
    refine Xg.ops_op (by kernel_rfl) (Xg.opx_pure ((pv xb2 0)) rfl (fun _ => by kernel_rfl) ?_)
    refine Xg.ops_op (by kernel_rfl) (Xg.opx_load (b := xb2) (off := ((0 : Nat))) 9 (iv 0) rfl (by kernel_rfl) (by kernel_rfl) (by kernel_rfl) ?_)
    refine Xg.ops_op (by kernel_rfl) (Xg.opx_pure ((pv xb3 0)) rfl (fun _ => by kernel_rfl) ?_)
    refine Xg.ops_op (by kernel_rfl) (Xg.opx_load (b := xb3) (off := ((0 : Nat))) 0 (iv 1) rfl (by kernel_rfl) (by kernel_rfl) (by kernel_rfl) ?_)
    refine Xg.ops_op (by kernel_rfl) (Xg.opx_pure ((Value.bool false)) rfl (fun _ => by kernel_rfl) ?_)
    refine Xg.ops_op (by kernel_rfl) (Xg.opx_pure ((Value.bool false)) rfl (fun _ => by kernel_rfl) ?_)
    refine Xg.ops_nil ?_
    refine Xg.at_false (t := false) (by kernel_rfl) rfl ?_
    refine Xg.at_skip ?_
    refine Xg.at_seq ?_)
  (focus
    refine Xg.at_region ?_
    refine Xg.ops_op (by kernel_rfl) (Xg.opx_pure ((iv at1)) rfl (fun _ => by kernel_rfl) ?_)
    refine Xg.ops_op (by kernel_rfl) (Xg.opx_pure ((iv (↑N : Int))) rfl (fun _ => by kernel_rfl) ?_)
    refine Xg.ops_op (by kernel_rfl) (Xg.opx_int .i64 (IntKind.wrap .i64 (((↑N : Int) + (1 : Int)))) rfl (fun _ => by kernel_rfl) (Xg.wrap_i64_in (by omega)) ?_)
    refine Xg.ops_op (by kernel_rfl) (Xg.opx_callE' [] (fun xx6 => [row xb3 (42 : Nat) [iv 1, iv 0, iv (↑N : Int)], H2 xx2.fst xx2.snd.fst xx2.snd.snd.fst.fst xx2.snd.snd.fst.snd xx2.snd.snd.snd.fst.fst xx2.snd.snd.snd.fst.snd, C2 xx2.snd.snd.fst.fst xx2.snd.snd.fst.snd (↑N : Int) xx2.snd.snd.snd.snd.fst (0 : Nat) xx2.snd.snd.snd.snd.snd, B2 xx2.snd.snd.snd.fst.fst xx2.snd.snd.snd.fst.snd ((0 : Int), xx4.fst, N, N) ((0 : Int), xx5.fst, N, N), A2 xx2.snd.fst xx3, R2 xx3 ((2 : Int) * (↑N : Int)) ((↑N : Int) + (↑N : Int)) xx5.snd.fst (2 : Nat) xx5.snd.snd, I2 xx2.snd.snd.snd.snd.fst xx2.snd.snd.snd.snd.snd [], Y2 xx5.fst N (List.replicate N (0 : Int)), I2 xx5.snd.fst xx5.snd.snd [(0 : Int), (1 : Int)], row xb2 (42 : Nat) [iv 0, iv 0, iv (↑N : Int)], Y2 xx4.fst N (List.replicate N (0 : Int)), A]) (fun _ => by kernel_rfl) (@Go.Proofs.Ytmplimmcjdkhlaa.pick_d (at1) ((N + nat_lit 1)) (by omega) (by omega)) (by kernel_rfl) (by kernel_rfl) (by kernel_rfl) fun xx6 xh6 => ?_)
    try dsimp only at xh6
    obtain ⟨xh6_0, xh6_1⟩ := xh6
    refine Xg.ops_op (by kernel_rfl) (Xg.opx_pure ((iv (↑xx6 : Int))) rfl (fun _ => by kernel_rfl) ?_)
    refine Xg.ops_nil ?_
    refine Xg.at_seq ?_
    refine Xg.at_region ?_
    refine Xg.ops_op (by kernel_rfl) (Xg.opx_pure ((Value.slice a m c)) rfl (fun _ => by kernel_rfl) ?_)
    refine Xg.ops_op (by kernel_rfl) (Xg.opx_pure ((Value.slice a m c)) rfl (fun _ => by kernel_rfl) ?_)
    refine Xg.ops_nil ?_
    refine Xg.at_seq ?_
    refine Xg.at_seq ?_
    refine Xg.at_region ?_
    refine Xg.ops_op (by kernel_rfl) (Xg.opx_pure ((Value.slice a m c)) rfl (fun _ => by kernel_rfl) ?_)
    refine Xg.ops_op (by kernel_rfl) (Xg.opx_pure ((iv (↑m : Int))) rfl (fun _ => by kernel_rfl) ?_)
    refine Xg.ops_op (by kernel_rfl) (Xg.opx_pure ((iv (↑N : Int))) rfl (fun _ => by kernel_rfl) ?_)
    refine Xg.ops_op (by kernel_rfl) (Xg.opx_pure ((iv (↑xx6 : Int))) rfl (fun _ => by kernel_rfl) ?_)
    refine Xg.ops_op (by kernel_rfl) (Xg.opx_int .i64 (IntKind.wrap .i64 (((↑N : Int) - (↑xx6 : Int)))) rfl (fun _ => by kernel_rfl) (Xg.wrap_i64_in (by omega)) ?_)
    refine Xg.ops_op (by kernel_rfl) (Xg.opx_pure (.bool (decide ((((↑m : Int)) : Int) > ((↑N : Int) - (↑xx6 : Int))))) rfl (fun _ => by kernel_rfl) ?_)
    refine Xg.ops_nil ?_)
  (focus
    refine Xg.at_cut (α := (Nat) × (Nat → Value)) (fun x9 => ((fun kk => kk = min m (N - xx6)) : (Nat) → Prop) x9.1) (fun x9 => Xg.headT [iv size0, iv at1, Value.slice a m c, iv far0, tu, tu, tu, tu, Value.bool false, iv (↑N : Int), pv xx2.fst 0, iv 0, iv 0, iv 0, pv xb2 0, iv 0, pv xb3 0, iv 0, iv (↑xx6 : Int), Value.slice a m c, tu, tu, tu, tu, tu, tu, iv size0, iv (↑xx1 : Int), iv (↑N : Int), Value.tuple #[pv xx2.fst 0, iv 0], iv (↑N : Int), Value.agg #[iv (↑N : Int), iv 2], Value.slice (some (Addr.mk xb1 (0 : Nat) none)) (1 : Nat) (1 : Nat), Value.agg #[Value.slice (some (Addr.mk xb1 (0 : Nat) none)) (1 : Nat) (1 : Nat), iv 1], Value.tuple #[pv xx2.fst 0, iv 0], pv xx2.fst 0, iv 0, pv xx2.fst 0, Value.bool false, Value.bool false, iv 0, Value.bool false, Value.bool false, Value.tuple #[iv 0, iv 0], pv xx2.fst 0, iv (↑N : Int), iv ((2 : Int) * (↑N : Int)), Value.tuple #[iv 0, iv 0], iv 0, iv 0, Value.tuple #[Value.agg #[iv 0, iv 0, iv (↑N : Int)], iv 0], pv xx2.fst 0, iv 0, iv (↑N : Int), Value.tuple #[Value.agg #[iv 0, iv 0, iv (↑N : Int)], iv 0], Value.agg #[iv 0, iv 0, iv (↑N : Int)], iv 0, Value.tuple #[Value.agg #[iv 1, iv 0, iv (↑N : Int)], iv 0], pv xx2.fst 0, iv 0, Value.tuple #[Value.agg #[iv 1, iv 0, iv (↑N : Int)], iv 0], Value.agg #[iv 1, iv 0, iv (↑N : Int)], iv 0, iv 0, Value.bool false, Value.bool false, iv 0, Value.bool false, Value.bool false, Value.bool false, iv 0, Value.bool false, Value.bool false, Value.bool false, pv xb2 0, iv 0, pv xb3 0, iv 1, Value.bool false, Value.bool false, iv at1, iv (↑N : Int), iv ((↑N : Int) + (1 : Int)), iv (↑xx6 : Int), Value.slice a m c, Value.slice a m c, iv (↑m : Int), iv (↑N : Int), iv (↑xx6 : Int), iv ((↑N : Int) - (↑xx6 : Int)), Value.bool (decide ((↑m : Int) > (↑N : Int) - (↑xx6 : Int))), tu, tu, tu, tu, tu, tu, tu, tu, tu, tu, tu, tu, tu, tu, tu, tu, tu, tu, tu, tu, tu, tu, tu, tu, tu, tu, tu, tu, tu, tu, tu, tu, tu, tu, tu, tu, tu, tu, tu, tu, tu, tu, tu, tu, tu, tu, tu, tu, tu, tu, tu, tu, tu, tu, tu, tu, tu, tu, tu, tu, tu, tu, tu, tu, tu, tu, tu, tu, tu, tu, tu, tu, tu, tu, tu, tu, tu, tu, tu, tu, tu, tu, tu, tu, tu, tu, tu, tu, tu, tu, tu, tu, tu, tu, tu, tu, tu, tu, tu, tu, tu, tu, tu, tu, tu, tu, tu, tu, tu, tu, tu, tu, tu, tu, tu, tu, tu, tu, tu, tu, tu, tu, tu, tu, tu, tu, tu, tu, tu, tu, tu, tu, tu, tu, tu, tu, tu, tu, tu, tu, tu, tu, tu, tu, tu, tu, tu, tu, tu, tu, tu, tu, tu, tu, tu, tu, tu] [91, 92, 93, 94, 95] (((fun kk => [(19, .slice a kk c)]) : (Nat) → List (Nat × Go.Value)) x9.1) x9.2) (fun x9 => ((fun kk => [H2 xx2.fst xx2.snd.fst xx2.snd.snd.fst.fst xx2.snd.snd.fst.snd xx2.snd.snd.snd.fst.fst xx2.snd.snd.snd.fst.snd, B2 xx2.snd.snd.snd.fst.fst xx2.snd.snd.snd.fst.snd (0, xx4.fst, N, N) (0, xx5.fst, N, N), A2 xx2.snd.fst xx3, R2 xx3 (2 * (N : Int)) ((N : Int) + N) xx5.snd.fst 2 xx5.snd.snd, Y2 xx5.fst N (List.replicate N 0), I2 xx5.snd.fst xx5.snd.snd [0, 1], row xb3 42 [.int .i64 1, .int .i64 0, .int .i64 (N : Nat)], row xb2 42 [.int .i64 0, .int .i64 0, .int .i64 (N : Nat)], Y2 xx4.fst N (List.replicate N 0), A]) : (Nat) → List Go.Sl.HP) x9.1) (fun kk hk => ?_) ?_)
  · (focus
      refine Xg.at_dec (p := ((↑m : Int) > (↑N : Int) - (↑xx6 : Int))) (by kernel_rfl) (fun xh7 => ?_) (fun xh7 => ?_)
      refine Xg.at_region ?_
      refine Xg.ops_op (by kernel_rfl) (Xg.opx_pure ((Value.slice a m c)) rfl (fun _ => by kernel_rfl) ?_)
      refine Xg.ops_op (by kernel_rfl) (Xg.opx_pure ((iv (↑N : Int))) rfl (fun _ => by kernel_rfl) ?_)
      refine Xg.ops_op (by kernel_rfl) (Xg.opx_pure ((iv (↑xx6 : Int))) rfl (fun _ => by kernel_rfl) ?_)
      refine Xg.ops_op (by kernel_rfl) (Xg.opx_int .i64 (IntKind.wrap .i64 (((↑N : Int) - (↑xx6 : Int)))) rfl (fun _ => by kernel_rfl) (Xg.wrap_i64_in (by omega)) ?_)
      refine Xg.ops_op (by kernel_rfl) (Xg.opx_run (.slice a (((↑N : Int) - (↑xx6 : Int)).toNat) c) rfl (Xg.run_sl_hi (elem := 5) (a := a) (c := c) (len := m) (k2 := .i64) (e2 := ((↑N : Int) - (↑xx6 : Int))) 1 (((↑N : Int) - (↑xx6 : Int)).toNat) (by kernel_rfl) (by kernel_rfl) (by kernel_rfl) (by kernel_rfl) (by omega) (by omega)) ?_)
      refine Xg.ops_op (by kernel_rfl) (Xg.opx_pure ((Value.slice a ((↑N : Int) - (↑xx6 : Int)).toNat c)) rfl (fun _ => by kernel_rfl) ?_)
      refine Xg.ops_nil ?_
      rotate_left
      refine Xg.at_skip ?_)
    · (focus
        refine Xg.at_keep [1, 3, 4, 5, 7, 8, 0, 9, 10, 11] (by kernel_rfl) ?_
        refine Xg.At.same (by kernel_rfl) ?_ (hk ((m), fun j9 => ([iv size0, iv at1, Value.slice a m c, iv far0, tu, tu, tu, tu, Value.bool false, iv (↑N : Int), pv xx2.fst 0, iv 0, iv 0, iv 0, pv xb2 0, iv 0, pv xb3 0, iv 0, iv (↑xx6 : Int), Value.slice a m c, tu, tu, tu, tu, tu, tu, iv size0, iv (↑xx1 : Int), iv (↑N : Int), Value.tuple #[pv xx2.fst 0, iv 0], iv (↑N : Int), Value.agg #[iv (↑N : Int), iv 2], Value.slice (some (Addr.mk xb1 (0 : Nat) none)) (1 : Nat) (1 : Nat), Value.agg #[Value.slice (some (Addr.mk xb1 (0 : Nat) none)) (1 : Nat) (1 : Nat), iv 1], Value.tuple #[pv xx2.fst 0, iv 0], pv xx2.fst 0, iv 0, pv xx2.fst 0, Value.bool false, Value.bool false, iv 0, Value.bool false, Value.bool false, Value.tuple #[iv 0, iv 0], pv xx2.fst 0, iv (↑N : Int), iv ((2 : Int) * (↑N : Int)), Value.tuple #[iv 0, iv 0], iv 0, iv 0, Value.tuple #[Value.agg #[iv 0, iv 0, iv (↑N : Int)], iv 0], pv xx2.fst 0, iv 0, iv (↑N : Int), Value.tuple #[Value.agg #[iv 0, iv 0, iv (↑N : Int)], iv 0], Value.agg #[iv 0, iv 0, iv (↑N : Int)], iv 0, Value.tuple #[Value.agg #[iv 1, iv 0, iv (↑N : Int)], iv 0], pv xx2.fst 0, iv 0, Value.tuple #[Value.agg #[iv 1, iv 0, iv (↑N : Int)], iv 0], Value.agg #[iv 1, iv 0, iv (↑N : Int)], iv 0, iv 0, Value.bool false, Value.bool false, iv 0, Value.bool false, Value.bool false, Value.bool false, iv 0, Value.bool false, Value.bool false, Value.bool false, pv xb2 0, iv 0, pv xb3 0, iv 1, Value.bool false, Value.bool false, iv at1, iv (↑N : Int), iv ((↑N : Int) + (1 : Int)), iv (↑xx6 : Int), Value.slice a m c, Value.slice a m c, iv (↑m : Int), iv (↑N : Int), iv (↑xx6 : Int), iv ((↑N : Int) - (↑xx6 : Int)), Value.bool (decide ((↑m : Int) > (↑N : Int) - (↑xx6 : Int))), tu, tu, tu, tu, tu, tu, tu, tu, tu, tu, tu, tu, tu, tu, tu, tu, tu, tu, tu, tu, tu, tu, tu, tu, tu, tu, tu, tu, tu, tu, tu, tu, tu, tu, tu, tu, tu, tu, tu, tu, tu, tu, tu, tu, tu, tu, tu, tu, tu, tu, tu, tu, tu, tu, tu, tu, tu, tu, tu, tu, tu, tu, tu, tu, tu, tu, tu, tu, tu, tu, tu, tu, tu, tu, tu, tu, tu, tu, tu, tu, tu, tu, tu, tu, tu, tu, tu, tu, tu, tu, tu, tu, tu, tu, tu, tu, tu, tu, tu, tu, tu, tu, tu, tu, tu, tu, tu, tu, tu, tu, tu, tu, tu, tu, tu, tu, tu, tu, tu, tu, tu, tu, tu, tu, tu, tu, tu, tu, tu, tu, tu, tu, tu, tu, tu, tu, tu, tu, tu, tu, tu, tu, tu, tu, tu, tu, tu, tu, tu, tu, tu, tu, tu, tu, tu, tu, tu] : List Value).getD j9 undef) ?_))
      · rfl
      · dsimp only; omega
    · (focus
        refine Xg.at_keep [1, 3, 4, 5, 7, 8, 0, 9, 10, 11] (by kernel_rfl) ?_
        refine Xg.At.same (by kernel_rfl) ?_ (hk ((((N : Int) - (xx6 : Int)).toNat), fun j9 => ([iv size0, iv at1, Value.slice a m c, iv far0, tu, tu, tu, tu, Value.bool false, iv (↑N : Int), pv xx2.fst 0, iv 0, iv 0, iv 0, pv xb2 0, iv 0, pv xb3 0, iv 0, iv (↑xx6 : Int), Value.slice a ((↑N : Int) - (↑xx6 : Int)).toNat c, tu, tu, tu, tu, tu, tu, iv size0, iv (↑xx1 : Int), iv (↑N : Int), Value.tuple #[pv xx2.fst 0, iv 0], iv (↑N : Int), Value.agg #[iv (↑N : Int), iv 2], Value.slice (some (Addr.mk xb1 (0 : Nat) none)) (1 : Nat) (1 : Nat), Value.agg #[Value.slice (some (Addr.mk xb1 (0 : Nat) none)) (1 : Nat) (1 : Nat), iv 1], Value.tuple #[pv xx2.fst 0, iv 0], pv xx2.fst 0, iv 0, pv xx2.fst 0, Value.bool false, Value.bool false, iv 0, Value.bool false, Value.bool false, Value.tuple #[iv 0, iv 0], pv xx2.fst 0, iv (↑N : Int), iv ((2 : Int) * (↑N : Int)), Value.tuple #[iv 0, iv 0], iv 0, iv 0, Value.tuple #[Value.agg #[iv 0, iv 0, iv (↑N : Int)], iv 0], pv xx2.fst 0, iv 0, iv (↑N : Int), Value.tuple #[Value.agg #[iv 0, iv 0, iv (↑N : Int)], iv 0], Value.agg #[iv 0, iv 0, iv (↑N : Int)], iv 0, Value.tuple #[Value.agg #[iv 1, iv 0, iv (↑N : Int)], iv 0], pv xx2.fst 0, iv 0, Value.tuple #[Value.agg #[iv 1, iv 0, iv (↑N : Int)], iv 0], Value.agg #[iv 1, iv 0, iv (↑N : Int)], iv 0, iv 0, Value.bool false, Value.bool false, iv 0, Value.bool false, Value.bool false, Value.bool false, iv 0, Value.bool false, Value.bool false, Value.bool false, pv xb2 0, iv 0, pv xb3 0, iv 1, Value.bool false, Value.bool false, iv at1, iv (↑N : Int), iv ((↑N : Int) + (1 : Int)), iv (↑xx6 : Int), Value.slice a m c, Value.slice a m c, iv (↑m : Int), iv (↑N : Int), iv (↑xx6 : Int), iv ((↑N : Int) - (↑xx6 : Int)), Value.bool (decide ((↑m : Int) > (↑N : Int) - (↑xx6 : Int))), Value.slice a m c, iv (↑N : Int), iv (↑xx6 : Int), iv ((↑N : Int) - (↑xx6 : Int)), Value.slice a ((↑N : Int) - (↑xx6 : Int)).toNat c, tu, tu, tu, tu, tu, tu, tu, tu, tu, tu, tu, tu, tu, tu, tu, tu, tu, tu, tu, tu, tu, tu, tu, tu, tu, tu, tu, tu, tu, tu, tu, tu, tu, tu, tu, tu, tu, tu, tu, tu, tu, tu, tu, tu, tu, tu, tu, tu, tu, tu, tu, tu, tu, tu, tu, tu, tu, tu, tu, tu, tu, tu, tu, tu, tu, tu, tu, tu, tu, tu, tu, tu, tu, tu, tu, tu, tu, tu, tu, tu, tu, tu, tu, tu, tu, tu, tu, tu, tu, tu, tu, tu, tu, tu, tu, tu, tu, tu, tu, tu, tu, tu, tu, tu, tu, tu, tu, tu, tu, tu, tu, tu, tu, tu, tu, tu, tu, tu, tu, tu, tu, tu, tu, tu, tu, tu, tu, tu, tu, tu, tu, tu, tu, tu, tu, tu, tu, tu, tu, tu, tu, tu, tu, tu, tu, tu, tu, tu, tu, tu, tu, tu] : List Value).getD j9 undef) ?_))
      · rfl
      · dsimp only; omega
  rintro ⟨kk, J⟩ hkk
  dsimp only at hkk
  (focus
    refine Xg.At.same (T' := [iv size0, iv at1, Value.slice a m c, iv far0, tu, tu, tu, tu, Value.bool false, iv (↑N : Int), pv xx2.fst 0, iv 0, iv 0, iv 0, pv xb2 0, iv 0, pv xb3 0, iv 0, iv (↑xx6 : Int), Value.slice a kk c, tu, tu, tu, tu, tu, tu, iv size0, iv (↑xx1 : Int), iv (↑N : Int), Value.tuple #[pv xx2.fst 0, iv 0], iv (↑N : Int), Value.agg #[iv (↑N : Int), iv 2], Value.slice (some (Addr.mk xb1 (0 : Nat) none)) (1 : Nat) (1 : Nat), Value.agg #[Value.slice (some (Addr.mk xb1 (0 : Nat) none)) (1 : Nat) (1 : Nat), iv 1], Value.tuple #[pv xx2.fst 0, iv 0], pv xx2.fst 0, iv 0, pv xx2.fst 0, Value.bool false, Value.bool false, iv 0, Value.bool false, Value.bool false, Value.tuple #[iv 0, iv 0], pv xx2.fst 0, iv (↑N : Int), iv ((2 : Int) * (↑N : Int)), Value.tuple #[iv 0, iv 0], iv 0, iv 0, Value.tuple #[Value.agg #[iv 0, iv 0, iv (↑N : Int)], iv 0], pv xx2.fst 0, iv 0, iv (↑N : Int), Value.tuple #[Value.agg #[iv 0, iv 0, iv (↑N : Int)], iv 0], Value.agg #[iv 0, iv 0, iv (↑N : Int)], iv 0, Value.tuple #[Value.agg #[iv 1, iv 0, iv (↑N : Int)], iv 0], pv xx2.fst 0, iv 0, Value.tuple #[Value.agg #[iv 1, iv 0, iv (↑N : Int)], iv 0], Value.agg #[iv 1, iv 0, iv (↑N : Int)], iv 0, iv 0, Value.bool false, Value.bool false, iv 0, Value.bool false, Value.bool false, Value.bool false, iv 0, Value.bool false, Value.bool false, Value.bool false, pv xb2 0, iv 0, pv xb3 0, iv 1, Value.bool false, Value.bool false, iv at1, iv (↑N : Int), iv ((↑N : Int) + (1 : Int)), iv (↑xx6 : Int), Value.slice a m c, Value.slice a m c, iv (↑m : Int), iv (↑N : Int), iv (↑xx6 : Int), iv ((↑N : Int) - (↑xx6 : Int)), Value.bool (decide ((↑m : Int) > (↑N : Int) - (↑xx6 : Int))), J 91, J 92, J 93, J 94, J 95, tu, tu, tu, tu, tu, tu, tu, tu, tu, tu, tu, tu, tu, tu, tu, tu, tu, tu, tu, tu, tu, tu, tu, tu, tu, tu, tu, tu, tu, tu, tu, tu, tu, tu, tu, tu, tu, tu, tu, tu, tu, tu, tu, tu, tu, tu, tu, tu, tu, tu, tu, tu, tu, tu, tu, tu, tu, tu, tu, tu, tu, tu, tu, tu, tu, tu, tu, tu, tu, tu, tu, tu, tu, tu, tu, tu, tu, tu, tu, tu, tu, tu, tu, tu, tu, tu, tu, tu, tu, tu, tu, tu, tu, tu, tu, tu, tu, tu, tu, tu, tu, tu, tu, tu, tu, tu, tu, tu, tu, tu, tu, tu, tu, tu, tu, tu, tu, tu, tu, tu, tu, tu, tu, tu, tu, tu, tu, tu, tu, tu, tu, tu, tu, tu, tu, tu, tu, tu, tu, tu, tu, tu, tu, tu, tu, tu, tu, tu, tu, tu, tu, tu]) (L' := [H2 xx2.fst xx2.snd.fst xx2.snd.snd.fst.fst xx2.snd.snd.fst.snd xx2.snd.snd.snd.fst.fst xx2.snd.snd.snd.fst.snd, B2 xx2.snd.snd.snd.fst.fst xx2.snd.snd.snd.fst.snd ((0 : Int), xx4.fst, N, N) ((0 : Int), xx5.fst, N, N), A2 xx2.snd.fst xx3, R2 xx3 ((2 : Int) * (↑N : Int)) ((↑N : Int) + (↑N : Int)) xx5.snd.fst (2 : Nat) xx5.snd.snd, Y2 xx5.fst N (List.replicate N (0 : Int)), I2 xx5.snd.fst xx5.snd.snd [(0 : Int), (1 : Int)], row xb3 (42 : TypeId) [iv 1, iv 0, iv (↑N : Int)], row xb2 (42 : TypeId) [iv 0, iv 0, iv (↑N : Int)], Y2 xx4.fst N (List.replicate N (0 : Int)), A]) (by kernel_rfl) rfl ?_)
  obtain ⟨ys, hys⟩ : ∃ ys, xs.take kk = ys := ⟨_, rfl⟩
  have hyl : ys.length = kk := by rw [← hys, List.length_take]; omega
  have hRk : Reads A 1 (.slice a kk c) kk (ys.map (Value.int .u8)) := by
    have := reads_hi_any hR kk (by omega)
    rwa [Nat.mul_one, ← List.map_take, hys] at this
  have hyb : ∀ x ∈ ys, 0 ≤ x ∧ x ≤ 255 := fun x hx => by
    rw [← hys] at hx
    obtain ⟨i, hi, e⟩ := List.getElem_of_mem (List.mem_of_mem_take hx)
    have := hB.2 i (by omega)
    simpa [List.getD, hi, e] using this
  obtain ⟨hmc, hB⟩ := hB
  clear hR hB
  obtain ⟨zz, hzz⟩ : ∃ zz, List.replicate N (0 : Int) = zz := ⟨_, rfl⟩
  have hzl : zz.length = N := by rw [← hzz]; simp
  obtain ⟨ws, hws⟩ : ∃ ws, zz.take xx6 ++ ys ++ zz.drop (xx6 + kk) = ws := ⟨_, rfl⟩
  have hwl : ws.length = N := by rw [← hws, List.length_append, List.length_append, List.length_take, List.length_drop]; omega
  have hst := store_ok xx2.1 xx2.2.1 xx3 xx2.2.2.1.1 xx2.2.2.1.2 xx2.2.2.2.1.1 xx2.2.2.2.1.2 N hN1 hN3 (2 * (N : Int)) ((N : Int) + N) xx4.1 xx5.1 xx5.2.1 xx5.2.2 A a c xx6 kk (by omega) zz ys hzl hyl hRk
  have hl0 := load_ok xx2.1 xx2.2.1 xx3 xx2.2.2.1.1 xx2.2.2.1.2 xx2.2.2.2.1.1 xx2.2.2.2.1.2 N hN1 hN3 (2 * (N : Int)) ((N : Int) + N) xx4.1 xx5.1 xx5.2.1 xx5.2.2 0 (by decide) xx4.1 rfl xh4 ws hwl
  have hl1 := load_ok xx2.1 xx2.2.1 xx3 xx2.2.2.1.1 xx2.2.2.1.2 xx2.2.2.2.1.1 xx2.2.2.2.1.2 N hN1 hN3 (2 * (N : Int)) ((N : Int) + N) xx4.1 xx5.1 xx5.2.1 xx5.2.2 1 (by decide) xx5.1 rfl xh5 zz hzl
  have hzd := zeros_d N hN3
  rw [hws] at hst
  rw [hzz] at hzd ⊢
  have hzb : isB zz := fun x hx => by rw [← hzz] at hx; rw [List.eq_of_mem_replicate hx]; decide
  have hwb : isB ws := fun x hx => by
    rw [← hws] at hx
    rcases List.mem_append.1 hx with h | h
    · rcases List.mem_append.1 h with h | h
      · exact hzb x (List.mem_of_mem_take h)
      · exact hyb x h
    · exact hzb x (List.mem_of_mem_drop h)
  (focus
    refine Xg.at_seq ?_
    refine Xg.at_region ?_
    refine Xg.ops_op (by kernel_rfl) (Xg.opx_pure ((pv xx2.fst 0)) rfl (fun _ => by kernel_rfl) ?_)
    refine Xg.ops_op (by kernel_rfl) (Xg.opx_pure ((iv 0)) rfl (fun _ => by kernel_rfl) ?_)
    refine Xg.ops_op (by kernel_rfl) (Xg.opx_pure ((pv xb2 0)) rfl (fun _ => by kernel_rfl) ?_)
    refine Xg.ops_op (by kernel_rfl) (Xg.opx_load (b := xb2) (off := ((0 : Nat))) 7 (iv 0) rfl (by kernel_rfl) (by kernel_rfl) (by kernel_rfl) ?_)
    refine Xg.ops_op (by kernel_rfl) (Xg.opx_pure ((iv (↑xx6 : Int))) rfl (fun _ => by kernel_rfl) ?_)
    refine Xg.ops_op (by kernel_rfl) (Xg.opx_pure ((Value.slice a kk c)) rfl (fun _ => by kernel_rfl) ?_)
    refine Xg.ops_op (by kernel_rfl) (Xg.opx_call1' [0, 1, 2, 3, 5, 8, 9] [H2 xx2.fst xx2.snd.fst xx2.snd.snd.fst.fst xx2.snd.snd.fst.snd xx2.snd.snd.snd.fst.fst xx2.snd.snd.snd.fst.snd, B2 xx2.snd.snd.snd.fst.fst xx2.snd.snd.snd.fst.snd ((0 : Int), xx4.fst, N, N) ((0 : Int), xx5.fst, N, N), A2 xx2.snd.fst xx3, R2 xx3 ((2 : Int) * (↑N : Int)) ((↑N : Int) + (↑N : Int)) xx5.snd.fst (2 : Nat) xx5.snd.snd, I2 xx5.snd.fst xx5.snd.snd [(0 : Int), (1 : Int)], Y2 xx4.fst N ws, A, Y2 xx5.fst N zz, row xb3 (42 : TypeId) [iv 1, iv 0, iv (↑N : Int)], row xb2 (42 : TypeId) [iv 0, iv 0, iv (↑N : Int)]] (fun _ => by kernel_rfl) (@hst ) (by kernel_rfl) (by kernel_rfl) (by kernel_rfl) ?_)
    refine Xg.ops_op (by kernel_rfl) (Xg.opx_pure ((iv 0)) rfl (fun _ => by kernel_rfl) ?_)
    refine Xg.ops_nil ?_
    refine Xg.at_seq ?_
    refine Xg.at_region ?_
    refine Xg.ops_op (by kernel_rfl) (Xg.opx_pure ((pv xx2.fst 0)) rfl (fun _ => by kernel_rfl) ?_)
    refine Xg.ops_op (by kernel_rfl) (Xg.opx_pure ((iv 0)) rfl (fun _ => by kernel_rfl) ?_)
    refine Xg.ops_op (by kernel_rfl) (Xg.opx_pure ((pv xb2 0)) rfl (fun _ => by kernel_rfl) ?_)
    refine Xg.ops_op (by kernel_rfl) (Xg.opx_load (b := xb2) (off := ((0 : Nat))) 9 (iv 0) rfl (by kernel_rfl) (by kernel_rfl) (by kernel_rfl) ?_)
    refine Xg.ops_op (by kernel_rfl) (Xg.opx_pure ((iv (↑N : Int))) rfl (fun _ => by kernel_rfl) ?_)
    refine Xg.ops_op (by kernel_rfl) (Xg.opx_callE' [0, 1, 2, 3, 4, 5] (fun xx7 => [H2 xx2.fst xx2.snd.fst xx2.snd.snd.fst.fst xx2.snd.snd.fst.snd xx2.snd.snd.snd.fst.fst xx2.snd.snd.snd.fst.snd, B2 xx2.snd.snd.snd.fst.fst xx2.snd.snd.snd.fst.snd ((0 : Int), xx4.fst, N, N) ((0 : Int), xx5.fst, N, N), A2 xx2.snd.fst xx3, R2 xx3 ((2 : Int) * (↑N : Int)) ((↑N : Int) + (↑N : Int)) xx5.snd.fst (2 : Nat) xx5.snd.snd, I2 xx5.snd.fst xx5.snd.snd [(0 : Int), (1 : Int)], Y2 xx4.fst N ws, Y2 xx7.fst xx7.snd ws, A, Y2 xx5.fst N zz, row xb3 (42 : TypeId) [iv 1, iv 0, iv (↑N : Int)], row xb2 (42 : TypeId) [iv 0, iv 0, iv (↑N : Int)]]) (fun _ => by kernel_rfl) (@hl0 ) (by kernel_rfl) (by kernel_rfl) (by kernel_rfl) fun xx7 xh7 => ?_)
    try dsimp only at xh7
    refine Xg.ops_op (by kernel_rfl) (Xg.opx_pure ((Value.tuple #[Value.slice xx7.fst ws.length xx7.snd, iv 0])) rfl (fun _ => by kernel_rfl) ?_)
    refine Xg.ops_op (by kernel_rfl) (Xg.opx_pure ((Value.slice xx7.fst ws.length xx7.snd)) rfl (fun _ => by kernel_rfl) ?_)
    refine Xg.ops_op (by kernel_rfl) (Xg.opx_pure ((iv 0)) rfl (fun _ => by kernel_rfl) ?_)
    refine Xg.ops_op (by kernel_rfl) (Xg.opx_pure ((Value.slice xx7.fst ws.length xx7.snd)) rfl (fun _ => by kernel_rfl) ?_)
    refine Xg.ops_op (by kernel_rfl) (Xg.opx_pure ((iv 0)) rfl (fun _ => by kernel_rfl) ?_)
    refine Xg.ops_nil ?_
    refine Xg.at_seq ?_
    refine Xg.at_region ?_
    refine Xg.ops_op (by kernel_rfl) (Xg.opx_pure ((pv xx2.fst 0)) rfl (fun _ => by kernel_rfl) ?_)
    refine Xg.ops_op (by kernel_rfl) (Xg.opx_pure ((iv 0)) rfl (fun _ => by kernel_rfl) ?_)
    refine Xg.ops_op (by kernel_rfl) (Xg.opx_pure ((pv xb3 0)) rfl (fun _ => by kernel_rfl) ?_)
    refine Xg.ops_op (by kernel_rfl) (Xg.opx_load (b := xb3) (off := ((0 : Nat))) 9 (iv 1) rfl (by kernel_rfl) (by kernel_rfl) (by kernel_rfl) ?_)
    refine Xg.ops_op (by kernel_rfl) (Xg.opx_pure ((iv (↑N : Int))) rfl (fun _ => by kernel_rfl) ?_)
    refine Xg.ops_op (by kernel_rfl) (Xg.opx_callE' [0, 1, 2, 3, 4, 8] (fun xx8 => [H2 xx2.fst xx2.snd.fst xx2.snd.snd.fst.fst xx2.snd.snd.fst.snd xx2.snd.snd.snd.fst.fst xx2.snd.snd.snd.fst.snd, B2 xx2.snd.snd.snd.fst.fst xx2.snd.snd.snd.fst.snd ((0 : Int), xx4.fst, N, N) ((0 : Int), xx5.fst, N, N), A2 xx2.snd.fst xx3, R2 xx3 ((2 : Int) * (↑N : Int)) ((↑N : Int) + (↑N : Int)) xx5.snd.fst (2 : Nat) xx5.snd.snd, I2 xx5.snd.fst xx5.snd.snd [(0 : Int), (1 : Int)], Y2 xx5.fst N zz, Y2 xx8.fst xx8.snd zz, Y2 xx4.fst N ws, Y2 xx7.fst xx7.snd ws, A, row xb3 (42 : TypeId) [iv 1, iv 0, iv (↑N : Int)], row xb2 (42 : TypeId) [iv 0, iv 0, iv (↑N : Int)]]) (fun _ => by kernel_rfl) (@hl1 ) (by kernel_rfl) (by kernel_rfl) (by kernel_rfl) fun xx8 xh8 => ?_)
    try dsimp only at xh8
    refine Xg.ops_op (by kernel_rfl) (Xg.opx_pure ((Value.tuple #[Value.slice xx8.fst zz.length xx8.snd, iv 0])) rfl (fun _ => by kernel_rfl) ?_)
    refine Xg.ops_op (by kernel_rfl) (Xg.opx_pure ((Value.slice xx8.fst zz.length xx8.snd)) rfl (fun _ => by kernel_rfl) ?_)
    refine Xg.ops_op (by kernel_rfl) (Xg.opx_pure ((iv 0)) rfl (fun _ => by kernel_rfl) ?_)
    refine Xg.ops_op (by kernel_rfl) (Xg.opx_pure ((Value.slice xx8.fst zz.length xx8.snd)) rfl (fun _ => by kernel_rfl) ?_)
    refine Xg.ops_op (by kernel_rfl) (Xg.opx_pure ((iv 0)) rfl (fun _ => by kernel_rfl) ?_)
    refine Xg.ops_nil ?_
    refine Xg.at_seq ?_
    refine Xg.at_seq ?_
    refine Xg.at_draw [14, 15] [(12, [0, 1, 2, 3, 4, 5, 6, 7, 8, 9, 10, 11, 12, 13, 14, 15], (RdIs (1 : Nat) (Value.slice xx8.fst zz.length xx8.snd) zz.length (List.map (Value.int IntKind.u8) zz)))] (by kernel_rfl) ?_
    refine Xg.any_pure ((iv 0)) 0 (by kernel_rfl) rfl (by kernel_rfl) (by kernel_rfl) (by kernel_rfl) (by kernel_rfl) rfl (fun _ => by kernel_rfl) ?_
    refine Xg.any_pure ((Value.bool false)) 1 (by kernel_rfl) rfl (by kernel_rfl) (by kernel_rfl) (by kernel_rfl) (by kernel_rfl) rfl (fun _ => by kernel_rfl) ?_
    refine Xg.any_pure ((Value.bool false)) 2 (by kernel_rfl) rfl (by kernel_rfl) (by kernel_rfl) (by kernel_rfl) (by kernel_rfl) rfl (fun _ => by kernel_rfl) ?_
    refine Xg.any_pure ((iv 0)) 3 (by kernel_rfl) rfl (by kernel_rfl) (by kernel_rfl) (by kernel_rfl) (by kernel_rfl) rfl (fun _ => by kernel_rfl) ?_
    refine Xg.any_pure ((Value.bool false)) 4 (by kernel_rfl) rfl (by kernel_rfl) (by kernel_rfl) (by kernel_rfl) (by kernel_rfl) rfl (fun _ => by kernel_rfl) ?_
    refine Xg.any_pure ((Value.bool false)) 5 (by kernel_rfl) rfl (by kernel_rfl) (by kernel_rfl) (by kernel_rfl) (by kernel_rfl) rfl (fun _ => by kernel_rfl) ?_
    refine Xg.any_pure ((Value.bool false)) 6 (by kernel_rfl) rfl (by kernel_rfl) (by kernel_rfl) (by kernel_rfl) (by kernel_rfl) rfl (fun _ => by kernel_rfl) ?_
    refine Xg.any_pure ((iv 0)) 7 (by kernel_rfl) rfl (by kernel_rfl) (by kernel_rfl) (by kernel_rfl) (by kernel_rfl) rfl (fun _ => by kernel_rfl) ?_
    refine Xg.any_pure ((Value.bool false)) 8 (by kernel_rfl) rfl (by kernel_rfl) (by kernel_rfl) (by kernel_rfl) (by kernel_rfl) rfl (fun _ => by kernel_rfl) ?_
    refine Xg.any_pure ((Value.bool false)) 9 (by kernel_rfl) rfl (by kernel_rfl) (by kernel_rfl) (by kernel_rfl) (by kernel_rfl) rfl (fun _ => by kernel_rfl) ?_
    refine Xg.any_pure ((Value.bool false)) 10 (by kernel_rfl) rfl (by kernel_rfl) (by kernel_rfl) (by kernel_rfl) (by kernel_rfl) rfl (fun _ => by kernel_rfl) ?_
    refine Xg.any_pure ((Value.slice xx8.fst zz.length xx8.snd)) 11 (by kernel_rfl) rfl (by kernel_rfl) (by kernel_rfl) (by kernel_rfl) (by kernel_rfl) rfl (fun _ => by kernel_rfl) ?_
    refine Xg.any_reads (.string (Xg.St zz)) 12 0 (by kernel_rfl) rfl (by kernel_rfl) (by kernel_rfl) (by kernel_rfl) (by kernel_rfl) rfl rfl (by kernel_rfl) (Xg.rd_now 6 (Xg.reads_own (E := ((5 : TypeId))) (sz := ((1 : Nat))) (n := zz.length) (c := xx8.snd) (a := xx8.fst) (vs := (List.map (Value.int IntKind.u8) zz))) (by kernel_rfl)) (Xg.run_str_rd (e := 5) (a := xx8.fst) (n := zz.length) (c := xx8.snd) (xs := zz) (by kernel_rfl) (by kernel_rfl) (by kernel_rfl) (by kernel_rfl)) ?_
    refine Xg.any_pure ((iv (↑N : Int))) 13 (by kernel_rfl) rfl (by kernel_rfl) (by kernel_rfl) (by kernel_rfl) (by kernel_rfl) rfl (fun _ => by kernel_rfl) ?_
    refine Xg.any_each [14] (by kernel_rfl) rfl ⟨?_, trivial⟩
    refine Xg.comes_act rfl (by kernel_rfl) (by kernel_rfl) (Xg.opx_callE' [] (fun xx9 => [Y2 xx9 N zz, H2 xx2.fst xx2.snd.fst xx2.snd.snd.fst.fst xx2.snd.snd.fst.snd xx2.snd.snd.snd.fst.fst xx2.snd.snd.snd.fst.snd, B2 xx2.snd.snd.snd.fst.fst xx2.snd.snd.snd.fst.snd ((0 : Int), xx4.fst, N, N) ((0 : Int), xx5.fst, N, N), A2 xx2.snd.fst xx3, R2 xx3 ((2 : Int) * (↑N : Int)) ((↑N : Int) + (↑N : Int)) xx5.snd.fst (2 : Nat) xx5.snd.snd, I2 xx5.snd.fst xx5.snd.snd [(0 : Int), (1 : Int)], Y2 xx5.fst N zz, Y2 xx8.fst xx8.snd zz, Y2 xx4.fst N ws, Y2 xx7.fst xx7.snd ws, A, row xb3 (42 : TypeId) [iv 1, iv 0, iv (↑N : Int)], row xb2 (42 : TypeId) [iv 0, iv 0, iv (↑N : Int)]]) (fun _ => by kernel_rfl) (@hzd ) (by kernel_rfl) (by kernel_rfl) (by kernel_rfl) fun xx9 xh9 => ?_)
    try dsimp only at xh9
    refine Xg.acts (Xg.owes_rd 7 (Xg.reads_own (E := ((5 : TypeId))) (sz := ((1 : Nat))) (n := zz.length) (c := xx8.snd) (a := xx8.fst) (vs := (List.map (Value.int IntKind.u8) zz))) (by kernel_rfl) Xg.owes_nil) ?_
    refine Xg.any_each [15] (by kernel_rfl) rfl ⟨?_, trivial⟩
    refine Xg.comes_act rfl (by kernel_rfl) (by kernel_rfl) (Xg.opx_rd 0 (.string (Xg.St zz)) rfl (Xg.reads_own (E := ((5 : TypeId))) (sz := ((1 : Nat))) (n := zz.length) (c := N) (a := xx9) (vs := (List.map (Value.int IntKind.u8) zz))) (by kernel_rfl) (Xg.run_str_rd (e := 5) (a := xx9) (n := zz.length) (c := N) (xs := zz) (by kernel_rfl) (by kernel_rfl) (by kernel_rfl) (by kernel_rfl)) ?_)
    refine Xg.acts (Xg.owes_rd 7 (Xg.reads_own (E := ((5 : TypeId))) (sz := ((1 : Nat))) (n := zz.length) (c := xx8.snd) (a := xx8.fst) (vs := (List.map (Value.int IntKind.u8) zz))) (by kernel_rfl) Xg.owes_nil) ?_
    refine Xg.any_pure (.bool (!Xg.sEq zz zz)) 16 (by kernel_rfl) rfl (by kernel_rfl) (by kernel_rfl) (by kernel_rfl) (by kernel_rfl) rfl (Xg.run_str_ne (xs := zz) (ys := zz) (by kernel_rfl) (by kernel_rfl) (by kernel_rfl)) ?_
    refine Xg.any_flag (j := 137) (c := (!sEq zz zz)) (by kernel_rfl) (fun xh10 => ?_) (fun xh10 => ?_)
    replace xh10 : (sEq zz zz) = false := by simpa using xh10
    rotate_left
    replace xh10 : (sEq zz zz) = true := by simpa using xh10
    rotate_right
    refine Xg.any_pure ((Value.bool true)) 17 (by kernel_rfl) rfl (by kernel_rfl) (by kernel_rfl) (by kernel_rfl) (by kernel_rfl) rfl (fun _ => by kernel_rfl) ?_
    refine Xg.any_nil (by kernel_rfl) ?_
    refine Xg.at_true (t := true) (by kernel_rfl) rfl ?_
    refine Xg.at_seq ?_
    refine Xg.at_region ?_
    refine Xg.ops_op (by kernel_rfl) (Xg.opx_pure ((Value.bool false)) rfl (fun _ => by kernel_rfl) ?_)
    refine Xg.ops_nil ?_
    refine Xg.at_ret_ps (v := (Value.bool false)) [10] [A] Go.Proofs.Try.func5 (fun _ => by kernel_rfl) (by kernel_rfl) (by kernel_rfl) ?_
    rotate_left
    refine Xg.any_pure ((Value.bool false)) 17 (by kernel_rfl) rfl (by kernel_rfl) (by kernel_rfl) (by kernel_rfl) (by kernel_rfl) rfl (fun _ => by kernel_rfl) ?_
    refine Xg.any_nil (by kernel_rfl) ?_
    refine Xg.at_false (t := false) (by kernel_rfl) rfl ?_
    refine Xg.at_skip ?_
    refine Xg.at_seq ?_
    refine Xg.at_region ?_
    refine Xg.ops_op (by kernel_rfl) (Xg.opx_pure ((iv (↑N : Int))) rfl (fun _ => by kernel_rfl) ?_)
    refine Xg.ops_op (by kernel_rfl) (Xg.opx_callE' [] (fun xx10 => [Y2 xx10 N zz, Y2 xx9 N zz, H2 xx2.fst xx2.snd.fst xx2.snd.snd.fst.fst xx2.snd.snd.fst.snd xx2.snd.snd.snd.fst.fst xx2.snd.snd.snd.fst.snd, B2 xx2.snd.snd.snd.fst.fst xx2.snd.snd.snd.fst.snd ((0 : Int), xx4.fst, N, N) ((0 : Int), xx5.fst, N, N), A2 xx2.snd.fst xx3, R2 xx3 ((2 : Int) * (↑N : Int)) ((↑N : Int) + (↑N : Int)) xx5.snd.fst (2 : Nat) xx5.snd.snd, I2 xx5.snd.fst xx5.snd.snd [(0 : Int), (1 : Int)], Y2 xx5.fst N zz, Y2 xx8.fst xx8.snd zz, Y2 xx4.fst N ws, Y2 xx7.fst xx7.snd ws, A, row xb3 (42 : TypeId) [iv 1, iv 0, iv (↑N : Int)], row xb2 (42 : TypeId) [iv 0, iv 0, iv (↑N : Int)]]) (fun _ => by kernel_rfl) (@hzd ) (by kernel_rfl) (by kernel_rfl) (by kernel_rfl) fun xx10 xh11 => ?_)
    try dsimp only at xh11
    refine Xg.ops_op (by kernel_rfl) (Xg.opx_pure ((Value.slice xx10 zz.length N)) rfl (fun _ => by kernel_rfl) ?_)
    refine Xg.ops_nil ?_
    refine Xg.at_seq ?_
    refine Xg.at_region ?_
    refine Xg.ops_op (by kernel_rfl) (Xg.opx_pure ((Value.slice xx10 zz.length N)) rfl (fun _ => by kernel_rfl) ?_)
    refine Xg.ops_op (by kernel_rfl) (Xg.opx_pure ((iv (↑xx6 : Int))) rfl (fun _ => by kernel_rfl) ?_)
    refine Xg.ops_op (by kernel_rfl) (Xg.opx_run (.slice (Xg.subA xx10 N xx6 1) (zz.length - xx6) (N - xx6)) rfl (Xg.run_sl_lo (elem := 5) (a := xx10) (c := N) (len := zz.length) (k1 := .i64) (e1 := ((↑xx6 : Int))) 1 xx6 (by kernel_rfl) (by kernel_rfl) (by kernel_rfl) (by kernel_rfl) rfl (by omega)) ?_)
    refine Xg.ops_op (by kernel_rfl) (Xg.opx_pure ((Value.slice a kk c)) rfl (fun _ => by kernel_rfl) ?_))
  · have hle1 := load_err xx2.1 xx2.2.1 xx3 xx2.2.2.1.1 xx2.2.2.1.2 xx2.2.2.2.1.1 xx2.2.2.2.1.2 N hN1 hN3 (2 * (N : Int)) ((N : Int) + N) xx4.1 xx5.1 xx5.2.1 xx5.2.2
    have hse := fun xb => store_err xx2.1 xx2.2.1 xx3 xx2.2.2.1.1 xx2.2.2.1.2 xx2.2.2.2.1.1 xx2.2.2.2.1.2 N hN1 hN3 (2 * (N : Int)) ((N : Int) + N) xx4.1 xx5.1 xx5.2.1 xx5.2.2 (row xb 5 [.int .u8 1]) (some ⟨xb, 0, none⟩) 1 (N : Int) 1 (by decide) (by decide) rfl [1] rfl (reads_row rfl (has_all rfl))
    by_cases hkN : xx6 = N
    · have hk0 : kk = 0 := by omega
      have hy0 : ys = [] := List.length_eq_zero_iff.1 (by omega)
      have hwz : ws = zz := by rw [← hws, hy0, hk0, List.append_nil, Nat.add_zero, List.take_append_drop]
      refine Xg.ops_op (by kernel_rfl) (Xg.opx_copy_in (elem := 5) (kd := .u8) (xs := zz) (ys := ys) (a := xx10) (c := N) (ax := Xg.subA xx10 N xx6 1) (cx := N - xx6) (yv := .slice a kk c) 0 1 0 (zz.length - xx6) ws kk rfl (by kernel_rfl) (by kernel_rfl) (by kernel_rfl) (fun b e => by unfold subA; rw [if_pos hkN.symm, e]) (by kernel_rfl) (fun w hS => by rw [hyl]; exact reads_rd hRk 11 rfl hS) (by omega) (by omega) (by rw [hy0, hwz]; simp) (hwl.trans hzl.symm) (by rw [hyl, hzl, Nat.min_eq_left (by omega)]) ?_)
      (focus
        refine Xg.ops_nil ?_
        refine Xg.at_seq ?_
        refine Xg.at_seq ?_)
      rw [show zz.length = ws.length from by omega]
      (focus
        refine Xg.at_region ?_
        refine Xg.ops_op (by kernel_rfl) (Xg.opx_pure ((Value.slice xx7.fst ws.length xx7.snd)) rfl (fun _ => by kernel_rfl) ?_)
        refine Xg.ops_op (by kernel_rfl) (Xg.opx_rd 10 (.string (Xg.St ws)) rfl (Xg.reads_own (E := ((5 : TypeId))) (sz := ((1 : Nat))) (n := ws.length) (c := xx7.snd) (a := xx7.fst) (vs := (List.map (Value.int IntKind.u8) ws))) (by kernel_rfl) (Xg.run_str_rd (e := 5) (a := xx7.fst) (n := ws.length) (c := xx7.snd) (xs := ws) (by kernel_rfl) (by kernel_rfl) (by kernel_rfl) (by kernel_rfl)) ?_)
        refine Xg.ops_op (by kernel_rfl) (Xg.opx_pure ((Value.slice xx10 ws.length N)) rfl (fun _ => by kernel_rfl) ?_)
        refine Xg.ops_op (by kernel_rfl) (Xg.opx_rd 0 (.string (Xg.St ws)) rfl (Xg.reads_own (E := ((5 : TypeId))) (sz := ((1 : Nat))) (n := ws.length) (c := N) (a := xx10) (vs := (List.map (Value.int IntKind.u8) ws))) (by kernel_rfl) (Xg.run_str_rd (e := 5) (a := xx10) (n := ws.length) (c := N) (xs := ws) (by kernel_rfl) (by kernel_rfl) (by kernel_rfl) (by kernel_rfl)) ?_)
        refine Xg.ops_op (by kernel_rfl) (Xg.opx_run (.bool (!Xg.sEq ws ws)) rfl (Xg.run_str_ne (xs := ws) (ys := ws) (by kernel_rfl) (by kernel_rfl) (by kernel_rfl)) ?_)
        refine Xg.ops_nil ?_
        refine Xg.at_cond (t := (!sEq ws ws)) (by kernel_rfl) (fun xh12 => ?_) (fun xh12 => ?_)
        replace xh12 : (sEq ws ws) = false := by simpa using xh12
        rotate_left
        replace xh12 : (sEq ws ws) = true := by simpa using xh12
        rotate_right
        refine Xg.at_seq ?_
        refine Xg.at_region ?_
        refine Xg.ops_op (by kernel_rfl) (Xg.opx_pure ((Value.bool false)) rfl (fun _ => by kernel_rfl) ?_)
        refine Xg.ops_nil ?_
        refine Xg.at_ret_ps (v := (Value.bool false)) [11] [A] Go.Proofs.Try.func5 (fun _ => by kernel_rfl) (by kernel_rfl) (by kernel_rfl) ?_
        rotate_left
        refine Xg.at_skip ?_
        refine Xg.at_seq ?_
        refine Xg.at_draw [10, 12] [(0, [0, 1, 2, 3, 4, 5, 6, 7, 8, 9, 10, 11], (RdIs (1 : Nat) (Value.slice xx7.fst ws.length xx7.snd) ws.length (List.map (Value.int IntKind.u8) ws))), (3, [0, 1, 2, 3, 4, 5, 6, 7, 8, 9, 10, 11], Xg.CellIs (xb2) (((0 : Nat))) ((iv 0)))] (by kernel_rfl) ?_
        refine Xg.any_pure ((pv xx2.fst 0)) 0 (by kernel_rfl) rfl (by kernel_rfl) (by kernel_rfl) (by kernel_rfl) (by kernel_rfl) rfl (fun _ => by kernel_rfl) ?_
        refine Xg.any_pure ((iv 0)) 1 (by kernel_rfl) rfl (by kernel_rfl) (by kernel_rfl) (by kernel_rfl) (by kernel_rfl) rfl (fun _ => by kernel_rfl) ?_
        refine Xg.any_pure ((pv xb2 0)) 2 (by kernel_rfl) rfl (by kernel_rfl) (by kernel_rfl) (by kernel_rfl) (by kernel_rfl) rfl (fun _ => by kernel_rfl) ?_
        refine Xg.any_reads (iv 0) 3 1 (by kernel_rfl) rfl (by kernel_rfl) (by kernel_rfl) (by kernel_rfl) (by kernel_rfl) rfl rfl (by kernel_rfl) (Xg.cell_now (b := xb2) (off := ((0 : Nat))) 13 rfl (by kernel_rfl)) (fun _ h => Xg.run_load (by kernel_rfl) (by kernel_rfl) h) ?_
        refine Xg.any_pure ((iv (↑xx6 : Int))) 4 (by kernel_rfl) rfl (by kernel_rfl) (by kernel_rfl) (by kernel_rfl) (by kernel_rfl) rfl (fun _ => by kernel_rfl) ?_
        refine Xg.any_pure ((iv (↑N : Int))) 5 (by kernel_rfl) rfl (by kernel_rfl) (by kernel_rfl) (by kernel_rfl) (by kernel_rfl) rfl (fun _ => by kernel_rfl) ?_
        refine Xg.any_pure ((iv (↑xx6 : Int))) 6 (by kernel_rfl) rfl (by kernel_rfl) (by kernel_rfl) (by kernel_rfl) (by kernel_rfl) rfl (fun _ => by kernel_rfl) ?_
        refine Xg.any_int .i64 (IntKind.wrap .i64 (((↑N : Int) - (↑xx6 : Int)))) 7 (by kernel_rfl) rfl (by kernel_rfl) (by kernel_rfl) (by kernel_rfl) (by kernel_rfl) rfl (fun _ => by kernel_rfl) (Xg.wrap_i64_in (by omega)) ?_
        refine Xg.any_int .i64 (IntKind.wrap .i64 (((↑N : Int) - (↑xx6 : Int) + (1 : Int)))) 8 (by kernel_rfl) rfl (by kernel_rfl) (by kernel_rfl) (by kernel_rfl) (by kernel_rfl) rfl (fun _ => by kernel_rfl) (Xg.wrap_i64_in (by omega)) ?_
        refine Xg.any_pure ((iv far0)) 9 (by kernel_rfl) rfl (by kernel_rfl) (by kernel_rfl) (by kernel_rfl) (by kernel_rfl) rfl (fun _ => by kernel_rfl) ?_
        refine Xg.any_each [10] (by kernel_rfl) rfl ⟨?_, trivial⟩
        refine Xg.comes_act rfl (by kernel_rfl) (by kernel_rfl) (Xg.opx_callE' [] (fun xx11 => [ints (5 : TypeId) IntKind.u8 xx10 N ws, Y2 xx9 N zz, H2 xx2.fst xx2.snd.fst xx2.snd.snd.fst.fst xx2.snd.snd.fst.snd xx2.snd.snd.snd.fst.fst xx2.snd.snd.snd.fst.snd, B2 xx2.snd.snd.snd.fst.fst xx2.snd.snd.snd.fst.snd ((0 : Int), xx4.fst, N, N) ((0 : Int), xx5.fst, N, N), A2 xx2.snd.fst xx3, R2 xx3 ((2 : Int) * (↑N : Int)) ((↑N : Int) + (↑N : Int)) xx5.snd.fst (2 : Nat) xx5.snd.snd, I2 xx5.snd.fst xx5.snd.snd [(0 : Int), (1 : Int)], Y2 xx5.fst N zz, Y2 xx8.fst xx8.snd zz, Y2 xx4.fst N ws, Y2 xx7.fst xx7.snd ws, A, row xb3 (42 : TypeId) [iv 1, iv 0, iv (↑N : Int)], row xb2 (42 : TypeId) [iv 0, iv 0, iv (↑N : Int)]]) (fun _ => by kernel_rfl) (@Go.Proofs.Ytmplimmcjdkhlaa.pick_d (far0) ((nat_lit 1099511627776)) (by omega) (by first | rfl | decide | (constructor <;> omega) | (simp; done) | (simp; omega))) (by kernel_rfl) (by kernel_rfl) (by kernel_rfl) fun xx11 xh13 => ?_)
        try dsimp only at xh13
        obtain ⟨xh13_0, xh13_1⟩ := xh13
        refine Xg.acts (Xg.owes_rd 10 (Xg.reads_own (E := ((5 : TypeId))) (sz := ((1 : Nat))) (n := ws.length) (c := xx7.snd) (a := xx7.fst) (vs := (List.map (Value.int IntKind.u8) ws))) (by kernel_rfl) (Xg.owes_cell 13 rfl (by kernel_rfl) Xg.owes_nil)) ?_
        refine Xg.any_int .i64 (IntKind.wrap .i64 (((↑N : Int) - (↑xx6 : Int) + (1 : Int) + (↑xx11 : Int)))) 11 (by kernel_rfl) rfl (by kernel_rfl) (by kernel_rfl) (by kernel_rfl) (by kernel_rfl) rfl (fun _ => by kernel_rfl) (Xg.wrap_i64_in (by omega)) ?_
        refine Xg.any_each [12] (by kernel_rfl) rfl ⟨?_, trivial⟩
        refine Xg.comes_act rfl (by kernel_rfl) (by kernel_rfl) (Xg.opx_call1' [2, 3, 4, 5, 6] [H2 xx2.fst xx2.snd.fst xx2.snd.snd.fst.fst xx2.snd.snd.fst.snd xx2.snd.snd.snd.fst.fst xx2.snd.snd.snd.fst.snd, B2 xx2.snd.snd.snd.fst.fst xx2.snd.snd.snd.fst.snd ((0 : Int), xx4.fst, N, N) ((0 : Int), xx5.fst, N, N), A2 xx2.snd.fst xx3, R2 xx3 ((2 : Int) * (↑N : Int)) ((↑N : Int) + (↑N : Int)) xx5.snd.fst (2 : Nat) xx5.snd.snd, I2 xx5.snd.fst xx5.snd.snd [(0 : Int), (1 : Int)], ints (5 : TypeId) IntKind.u8 xx10 N ws, Y2 xx9 N zz, Y2 xx5.fst N zz, Y2 xx8.fst xx8.snd zz, Y2 xx4.fst N ws, Y2 xx7.fst xx7.snd ws, A, row xb3 (42 : TypeId) [iv 1, iv 0, iv (↑N : Int)], row xb2 (42 : TypeId) [iv 0, iv 0, iv (↑N : Int)]] (fun _ => by kernel_rfl) (@hle1 (((↑xx6 : Int))) (((↑N : Int) - (↑xx6 : Int) + (1 : Int) + (↑xx11 : Int))) (by omega) (by omega) (by omega)) (by kernel_rfl) (by kernel_rfl) (by kernel_rfl) ?_)
        refine Xg.acts (Xg.owes_skip (by kernel_rfl) (Xg.owes_skip (by kernel_rfl) Xg.owes_nil)) ?_
        refine Xg.any_pure ((Value.tuple #[Value.slice none (0 : Nat) (0 : Nat), iv 98])) 13 (by kernel_rfl) rfl (by kernel_rfl) (by kernel_rfl) (by kernel_rfl) (by kernel_rfl) rfl (fun _ => by kernel_rfl) ?_
        refine Xg.any_pure ((Value.slice none (0 : Nat) (0 : Nat))) 14 (by kernel_rfl) rfl (by kernel_rfl) (by kernel_rfl) (by kernel_rfl) (by kernel_rfl) rfl (fun _ => by kernel_rfl) ?_
        refine Xg.any_pure ((iv 98)) 15 (by kernel_rfl) rfl (by kernel_rfl) (by kernel_rfl) (by kernel_rfl) (by kernel_rfl) rfl (fun _ => by kernel_rfl) ?_
        refine Xg.any_pure ((iv 98)) 16 (by kernel_rfl) rfl (by kernel_rfl) (by kernel_rfl) (by kernel_rfl) (by kernel_rfl) rfl (fun _ => by kernel_rfl) ?_
        refine Xg.any_nil (by kernel_rfl) ?_
        refine Xg.at_seq ?_
        refine Xg.at_draw [7, 9] [(3, [0, 1, 2, 3, 4, 5, 6, 7, 8], Xg.CellIs (xb2) (((0 : Nat))) ((iv 0)))] (by kernel_rfl) ?_
        refine Xg.any_pure ((pv xx2.fst 0)) 0 (by kernel_rfl) rfl (by kernel_rfl) (by kernel_rfl) (by kernel_rfl) (by kernel_rfl) rfl (fun _ => by kernel_rfl) ?_
        refine Xg.any_pure ((iv 0)) 1 (by kernel_rfl) rfl (by kernel_rfl) (by kernel_rfl) (by kernel_rfl) (by kernel_rfl) rfl (fun _ => by kernel_rfl) ?_
        refine Xg.any_pure ((pv xb2 0)) 2 (by kernel_rfl) rfl (by kernel_rfl) (by kernel_rfl) (by kernel_rfl) (by kernel_rfl) rfl (fun _ => by kernel_rfl) ?_
        refine Xg.any_reads (iv 0) 3 0 (by kernel_rfl) rfl (by kernel_rfl) (by kernel_rfl) (by kernel_rfl) (by kernel_rfl) rfl rfl (by kernel_rfl) (Xg.cell_now (b := xb2) (off := ((0 : Nat))) 13 rfl (by kernel_rfl)) (fun _ h => Xg.run_load (by kernel_rfl) (by kernel_rfl) h) ?_
        refine Xg.any_pure ((iv (↑N : Int))) 4 (by kernel_rfl) rfl (by kernel_rfl) (by kernel_rfl) (by kernel_rfl) (by kernel_rfl) rfl (fun _ => by kernel_rfl) ?_
        refine Xg.any_int .i64 (IntKind.wrap .i64 (((↑N : Int) + (1 : Int)))) 5 (by kernel_rfl) rfl (by kernel_rfl) (by kernel_rfl) (by kernel_rfl) (by kernel_rfl) rfl (fun _ => by kernel_rfl) (Xg.wrap_i64_in (by omega)) ?_
        refine Xg.any_pure ((iv far0)) 6 (by kernel_rfl) rfl (by kernel_rfl) (by kernel_rfl) (by kernel_rfl) (by kernel_rfl) rfl (fun _ => by kernel_rfl) ?_
        refine Xg.any_each [7] (by kernel_rfl) rfl ⟨?_, trivial⟩
        refine Xg.comes_act rfl (by kernel_rfl) (by kernel_rfl) (Xg.opx_callE' [] (fun xx12 => [H2 xx2.fst xx2.snd.fst xx2.snd.snd.fst.fst xx2.snd.snd.fst.snd xx2.snd.snd.snd.fst.fst xx2.snd.snd.snd.fst.snd, B2 xx2.snd.snd.snd.fst.fst xx2.snd.snd.snd.fst.snd ((0 : Int), xx4.fst, N, N) ((0 : Int), xx5.fst, N, N), A2 xx2.snd.fst xx3, R2 xx3 ((2 : Int) * (↑N : Int)) ((↑N : Int) + (↑N : Int)) xx5.snd.fst (2 : Nat) xx5.snd.snd, I2 xx5.snd.fst xx5.snd.snd [(0 : Int), (1 : Int)], ints (5 : TypeId) IntKind.u8 xx10 N ws, Y2 xx9 N zz, Y2 xx5.fst N zz, Y2 xx8.fst xx8.snd zz, Y2 xx4.fst N ws, Y2 xx7.fst xx7.snd ws, A, row xb3 (42 : TypeId) [iv 1, iv 0, iv (↑N : Int)], row xb2 (42 : TypeId) [iv 0, iv 0, iv (↑N : Int)]]) (fun _ => by kernel_rfl) (@Go.Proofs.Ytmplimmcjdkhlaa.pick_d (far0) ((nat_lit 1099511627776)) (by omega) (by first | rfl | decide | (constructor <;> omega) | (simp; done) | (simp; omega))) (by kernel_rfl) (by kernel_rfl) (by kernel_rfl) fun xx12 xh14 => ?_)
        try dsimp only at xh14
        obtain ⟨xh14_0, xh14_1⟩ := xh14
        refine Xg.acts (Xg.owes_cell 13 rfl (by kernel_rfl) Xg.owes_nil) ?_
        refine Xg.any_int .i64 (IntKind.wrap .i64 (((↑N : Int) + (1 : Int) + (↑xx12 : Int)))) 8 (by kernel_rfl) rfl (by kernel_rfl) (by kernel_rfl) (by kernel_rfl) (by kernel_rfl) rfl (fun _ => by kernel_rfl) (Xg.wrap_i64_in (by omega)) ?_
        refine Xg.any_each [9] (by kernel_rfl) rfl ⟨?_, trivial⟩
        refine Xg.comes_act rfl (by kernel_rfl) (by kernel_rfl) (Xg.opx_call1' [0, 1, 2, 3, 4] [H2 xx2.fst xx2.snd.fst xx2.snd.snd.fst.fst xx2.snd.snd.fst.snd xx2.snd.snd.snd.fst.fst xx2.snd.snd.snd.fst.snd, B2 xx2.snd.snd.snd.fst.fst xx2.snd.snd.snd.fst.snd ((0 : Int), xx4.fst, N, N) ((0 : Int), xx5.fst, N, N), A2 xx2.snd.fst xx3, R2 xx3 ((2 : Int) * (↑N : Int)) ((↑N : Int) + (↑N : Int)) xx5.snd.fst (2 : Nat) xx5.snd.snd, I2 xx5.snd.fst xx5.snd.snd [(0 : Int), (1 : Int)], ints (5 : TypeId) IntKind.u8 xx10 N ws, Y2 xx9 N zz, Y2 xx5.fst N zz, Y2 xx8.fst xx8.snd zz, Y2 xx4.fst N ws, Y2 xx7.fst xx7.snd ws, A, row xb3 (42 : TypeId) [iv 1, iv 0, iv (↑N : Int)], row xb2 (42 : TypeId) [iv 0, iv 0, iv (↑N : Int)]] (fun _ => by kernel_rfl) (@hle1 (((↑N : Int) + (1 : Int) + (↑xx12 : Int))) (((0 : Int))) (by omega) (by omega) (by omega)) (by kernel_rfl) (by kernel_rfl) (by kernel_rfl) ?_)
        refine Xg.acts (Xg.owes_skip (by kernel_rfl) Xg.owes_nil) ?_
        refine Xg.any_pure ((Value.tuple #[Value.slice none (0 : Nat) (0 : Nat), iv 98])) 10 (by kernel_rfl) rfl (by kernel_rfl) (by kernel_rfl) (by kernel_rfl) (by kernel_rfl) rfl (fun _ => by kernel_rfl) ?_
        refine Xg.any_pure ((Value.slice none (0 : Nat) (0 : Nat))) 11 (by kernel_rfl) rfl (by kernel_rfl) (by kernel_rfl) (by kernel_rfl) (by kernel_rfl) rfl (fun _ => by kernel_rfl) ?_
        refine Xg.any_pure ((iv 98)) 12 (by kernel_rfl) rfl (by kernel_rfl) (by kernel_rfl) (by kernel_rfl) (by kernel_rfl) rfl (fun _ => by kernel_rfl) ?_
        refine Xg.any_pure ((iv 98)) 13 (by kernel_rfl) rfl (by kernel_rfl) (by kernel_rfl) (by kernel_rfl) (by kernel_rfl) rfl (fun _ => by kernel_rfl) ?_
        refine Xg.any_nil (by kernel_rfl) ?_
        refine Xg.at_seq ?_
        refine Xg.at_draw [5, 7] [(3, [0, 1, 2, 3, 4, 5, 6], Xg.CellIs (xb2) (((0 : Nat))) ((iv 0)))] (by kernel_rfl) ?_
        refine Xg.any_pure ((pv xx2.fst 0)) 0 (by kernel_rfl) rfl (by kernel_rfl) (by kernel_rfl) (by kernel_rfl) (by kernel_rfl) rfl (fun _ => by kernel_rfl) ?_
        refine Xg.any_pure ((iv 0)) 1 (by kernel_rfl) rfl (by kernel_rfl) (by kernel_rfl) (by kernel_rfl) (by kernel_rfl) rfl (fun _ => by kernel_rfl) ?_
        refine Xg.any_pure ((pv xb2 0)) 2 (by kernel_rfl) rfl (by kernel_rfl) (by kernel_rfl) (by kernel_rfl) (by kernel_rfl) rfl (fun _ => by kernel_rfl) ?_
        refine Xg.any_reads (iv 0) 3 0 (by kernel_rfl) rfl (by kernel_rfl) (by kernel_rfl) (by kernel_rfl) (by kernel_rfl) rfl rfl (by kernel_rfl) (Xg.cell_now (b := xb2) (off := ((0 : Nat))) 13 rfl (by kernel_rfl)) (fun _ h => Xg.run_load (by kernel_rfl) (by kernel_rfl) h) ?_
        refine Xg.any_pure ((iv far0)) 4 (by kernel_rfl) rfl (by kernel_rfl) (by kernel_rfl) (by kernel_rfl) (by kernel_rfl) rfl (fun _ => by kernel_rfl) ?_
        refine Xg.any_each [5] (by kernel_rfl) rfl ⟨?_, trivial⟩
        refine Xg.comes_act rfl (by kernel_rfl) (by kernel_rfl) (Xg.opx_callE' [] (fun xx13 => [H2 xx2.fst xx2.snd.fst xx2.snd.snd.fst.fst xx2.snd.snd.fst.snd xx2.snd.snd.snd.fst.fst xx2.snd.snd.snd.fst.snd, B2 xx2.snd.snd.snd.fst.fst xx2.snd.snd.snd.fst.snd ((0 : Int), xx4.fst, N, N) ((0 : Int), xx5.fst, N, N), A2 xx2.snd.fst xx3, R2 xx3 ((2 : Int) * (↑N : Int)) ((↑N : Int) + (↑N : Int)) xx5.snd.fst (2 : Nat) xx5.snd.snd, I2 xx5.snd.fst xx5.snd.snd [(0 : Int), (1 : Int)], ints (5 : TypeId) IntKind.u8 xx10 N ws, Y2 xx9 N zz, Y2 xx5.fst N zz, Y2 xx8.fst xx8.snd zz, Y2 xx4.fst N ws, Y2 xx7.fst xx7.snd ws, A, row xb3 (42 : TypeId) [iv 1, iv 0, iv (↑N : Int)], row xb2 (42 : TypeId) [iv 0, iv 0, iv (↑N : Int)]]) (fun _ => by kernel_rfl) (@Go.Proofs.Ytmplimmcjdkhlaa.pick_d (far0) ((nat_lit 1099511627776)) (by omega) (by first | rfl | decide | (constructor <;> omega) | (simp; done) | (simp; omega))) (by kernel_rfl) (by kernel_rfl) (by kernel_rfl) fun xx13 xh15 => ?_)
        try dsimp only at xh15
        obtain ⟨xh15_0, xh15_1⟩ := xh15
        refine Xg.acts (Xg.owes_cell 13 rfl (by kernel_rfl) Xg.owes_nil) ?_
        refine Xg.any_int .i64 (IntKind.wrap .i64 (((-1 : Int) - (↑xx13 : Int)))) 6 (by kernel_rfl) rfl (by kernel_rfl) (by kernel_rfl) (by kernel_rfl) (by kernel_rfl) rfl (fun _ => by kernel_rfl) (Xg.wrap_i64_in (by omega)) ?_
        refine Xg.any_each [7] (by kernel_rfl) rfl ⟨?_, trivial⟩
        refine Xg.comes_act rfl (by kernel_rfl) (by kernel_rfl) (Xg.opx_call1' [0, 1, 2, 3, 4] [H2 xx2.fst xx2.snd.fst xx2.snd.snd.fst.fst xx2.snd.snd.fst.snd xx2.snd.snd.snd.fst.fst xx2.snd.snd.snd.fst.snd, B2 xx2.snd.snd.snd.fst.fst xx2.snd.snd.snd.fst.snd ((0 : Int), xx4.fst, N, N) ((0 : Int), xx5.fst, N, N), A2 xx2.snd.fst xx3, R2 xx3 ((2 : Int) * (↑N : Int)) ((↑N : Int) + (↑N : Int)) xx5.snd.fst (2 : Nat) xx5.snd.snd, I2 xx5.snd.fst xx5.snd.snd [(0 : Int), (1 : Int)], ints (5 : TypeId) IntKind.u8 xx10 N ws, Y2 xx9 N zz, Y2 xx5.fst N zz, Y2 xx8.fst xx8.snd zz, Y2 xx4.fst N ws, Y2 xx7.fst xx7.snd ws, A, row xb3 (42 : TypeId) [iv 1, iv 0, iv (↑N : Int)], row xb2 (42 : TypeId) [iv 0, iv 0, iv (↑N : Int)]] (fun _ => by kernel_rfl) (@hle1 (((-1 : Int) - (↑xx13 : Int))) (((1 : Int))) (by omega) (by omega) (by omega)) (by kernel_rfl) (by kernel_rfl) (by kernel_rfl) ?_)
        refine Xg.acts (Xg.owes_skip (by kernel_rfl) Xg.owes_nil) ?_
        refine Xg.any_pure ((Value.tuple #[Value.slice none (0 : Nat) (0 : Nat), iv 98])) 8 (by kernel_rfl) rfl (by kernel_rfl) (by kernel_rfl) (by kernel_rfl) (by kernel_rfl) rfl (fun _ => by kernel_rfl) ?_
        refine Xg.any_pure ((Value.slice none (0 : Nat) (0 : Nat))) 9 (by kernel_rfl) rfl (by kernel_rfl) (by kernel_rfl) (by kernel_rfl) (by kernel_rfl) rfl (fun _ => by kernel_rfl) ?_
        refine Xg.any_pure ((iv 98)) 10 (by kernel_rfl) rfl (by kernel_rfl) (by kernel_rfl) (by kernel_rfl) (by kernel_rfl) rfl (fun _ => by kernel_rfl) ?_
        refine Xg.any_pure ((iv 98)) 11 (by kernel_rfl) rfl (by kernel_rfl) (by kernel_rfl) (by kernel_rfl) (by kernel_rfl) rfl (fun _ => by kernel_rfl) ?_
        refine Xg.any_nil (by kernel_rfl) ?_
        refine Xg.at_seq ?_
        refine Xg.at_draw [6, 8] [(3, [0, 1, 2, 3, 4, 5, 6, 7], Xg.CellIs (xb2) (((0 : Nat))) ((iv 0)))] (by kernel_rfl) ?_
        refine Xg.any_pure ((pv xx2.fst 0)) 0 (by kernel_rfl) rfl (by kernel_rfl) (by kernel_rfl) (by kernel_rfl) (by kernel_rfl) rfl (fun _ => by kernel_rfl) ?_
        refine Xg.any_pure ((iv 0)) 1 (by kernel_rfl) rfl (by kernel_rfl) (by kernel_rfl) (by kernel_rfl) (by kernel_rfl) rfl (fun _ => by kernel_rfl) ?_
        refine Xg.any_pure ((pv xb2 0)) 2 (by kernel_rfl) rfl (by kernel_rfl) (by kernel_rfl) (by kernel_rfl) (by kernel_rfl) rfl (fun _ => by kernel_rfl) ?_
        refine Xg.any_reads (iv 0) 3 0 (by kernel_rfl) rfl (by kernel_rfl) (by kernel_rfl) (by kernel_rfl) (by kernel_rfl) rfl rfl (by kernel_rfl) (Xg.cell_now (b := xb2) (off := ((0 : Nat))) 13 rfl (by kernel_rfl)) (fun _ h => Xg.run_load (by kernel_rfl) (by kernel_rfl) h) ?_
        refine Xg.any_pure ((iv (↑xx6 : Int))) 4 (by kernel_rfl) rfl (by kernel_rfl) (by kernel_rfl) (by kernel_rfl) (by kernel_rfl) rfl (fun _ => by kernel_rfl) ?_
        refine Xg.any_pure ((iv far0)) 5 (by kernel_rfl) rfl (by kernel_rfl) (by kernel_rfl) (by kernel_rfl) (by kernel_rfl) rfl (fun _ => by kernel_rfl) ?_
        refine Xg.any_each [6] (by kernel_rfl) rfl ⟨?_, trivial⟩
        refine Xg.comes_act rfl (by kernel_rfl) (by kernel_rfl) (Xg.opx_callE' [] (fun xx14 => [H2 xx2.fst xx2.snd.fst xx2.snd.snd.fst.fst xx2.snd.snd.fst.snd xx2.snd.snd.snd.fst.fst xx2.snd.snd.snd.fst.snd, B2 xx2.snd.snd.snd.fst.fst xx2.snd.snd.snd.fst.snd ((0 : Int), xx4.fst, N, N) ((0 : Int), xx5.fst, N, N), A2 xx2.snd.fst xx3, R2 xx3 ((2 : Int) * (↑N : Int)) ((↑N : Int) + (↑N : Int)) xx5.snd.fst (2 : Nat) xx5.snd.snd, I2 xx5.snd.fst xx5.snd.snd [(0 : Int), (1 : Int)], ints (5 : TypeId) IntKind.u8 xx10 N ws, Y2 xx9 N zz, Y2 xx5.fst N zz, Y2 xx8.fst xx8.snd zz, Y2 xx4.fst N ws, Y2 xx7.fst xx7.snd ws, A, row xb3 (42 : TypeId) [iv 1, iv 0, iv (↑N : Int)], row xb2 (42 : TypeId) [iv 0, iv 0, iv (↑N : Int)]]) (fun _ => by kernel_rfl) (@Go.Proofs.Ytmplimmcjdkhlaa.pick_d (far0) ((nat_lit 1099511627776)) (by omega) (by first | rfl | decide | (constructor <;> omega) | (simp; done) | (simp; omega))) (by kernel_rfl) (by kernel_rfl) (by kernel_rfl) fun xx14 xh16 => ?_)
        try dsimp only at xh16
        obtain ⟨xh16_0, xh16_1⟩ := xh16
        refine Xg.acts (Xg.owes_cell 13 rfl (by kernel_rfl) Xg.owes_nil) ?_
        refine Xg.any_int .i64 (IntKind.wrap .i64 (((-1 : Int) - (↑xx14 : Int)))) 7 (by kernel_rfl) rfl (by kernel_rfl) (by kernel_rfl) (by kernel_rfl) (by kernel_rfl) rfl (fun _ => by kernel_rfl) (Xg.wrap_i64_in (by omega)) ?_
        refine Xg.any_each [8] (by kernel_rfl) rfl ⟨?_, trivial⟩
        refine Xg.comes_act rfl (by kernel_rfl) (by kernel_rfl) (Xg.opx_call1' [0, 1, 2, 3, 4] [H2 xx2.fst xx2.snd.fst xx2.snd.snd.fst.fst xx2.snd.snd.fst.snd xx2.snd.snd.snd.fst.fst xx2.snd.snd.snd.fst.snd, B2 xx2.snd.snd.snd.fst.fst xx2.snd.snd.snd.fst.snd ((0 : Int), xx4.fst, N, N) ((0 : Int), xx5.fst, N, N), A2 xx2.snd.fst xx3, R2 xx3 ((2 : Int) * (↑N : Int)) ((↑N : Int) + (↑N : Int)) xx5.snd.fst (2 : Nat) xx5.snd.snd, I2 xx5.snd.fst xx5.snd.snd [(0 : Int), (1 : Int)], ints (5 : TypeId) IntKind.u8 xx10 N ws, Y2 xx9 N zz, Y2 xx5.fst N zz, Y2 xx8.fst xx8.snd zz, Y2 xx4.fst N ws, Y2 xx7.fst xx7.snd ws, A, row xb3 (42 : TypeId) [iv 1, iv 0, iv (↑N : Int)], row xb2 (42 : TypeId) [iv 0, iv 0, iv (↑N : Int)]] (fun _ => by kernel_rfl) (@hle1 (((↑xx6 : Int))) (((-1 : Int) - (↑xx14 : Int))) (by omega) (by omega) (by omega)) (by kernel_rfl) (by kernel_rfl) (by kernel_rfl) ?_)
        refine Xg.acts (Xg.owes_skip (by kernel_rfl) Xg.owes_nil) ?_
        refine Xg.any_pure ((Value.tuple #[Value.slice none (0 : Nat) (0 : Nat), iv 98])) 9 (by kernel_rfl) rfl (by kernel_rfl) (by kernel_rfl) (by kernel_rfl) (by kernel_rfl) rfl (fun _ => by kernel_rfl) ?_
        refine Xg.any_pure ((Value.slice none (0 : Nat) (0 : Nat))) 10 (by kernel_rfl) rfl (by kernel_rfl) (by kernel_rfl) (by kernel_rfl) (by kernel_rfl) rfl (fun _ => by kernel_rfl) ?_
        refine Xg.any_pure ((iv 98)) 11 (by kernel_rfl) rfl (by kernel_rfl) (by kernel_rfl) (by kernel_rfl) (by kernel_rfl) rfl (fun _ => by kernel_rfl) ?_
        refine Xg.any_pure ((iv 98)) 12 (by kernel_rfl) rfl (by kernel_rfl) (by kernel_rfl) (by kernel_rfl) (by kernel_rfl) rfl (fun _ => by kernel_rfl) ?_
        refine Xg.any_nil (by kernel_rfl) ?_
        refine Xg.at_seq ?_
        refine Xg.at_region ?_
        refine Xg.ops_op (by kernel_rfl) (Xg.opx_pure ((pv xx2.fst 0)) rfl (fun _ => by kernel_rfl) ?_)
        refine Xg.ops_op (by kernel_rfl) (Xg.opx_pure ((iv 0)) rfl (fun _ => by kernel_rfl) ?_)
        refine Xg.ops_op (by kernel_rfl) (Xg.opx_pure ((pv xb2 0)) rfl (fun _ => by kernel_rfl) ?_)
        refine Xg.ops_op (by kernel_rfl) (Xg.opx_load (b := xb2) (off := ((0 : Nat))) 13 (iv 0) rfl (by kernel_rfl) (by kernel_rfl) (by kernel_rfl) ?_)
        refine Xg.ops_op (by kernel_rfl) (Xg.opx_pure ((iv (↑N : Int))) rfl (fun _ => by kernel_rfl) ?_)
        refine Xg.ops_op (by kernel_rfl) (Xg.opx_bs (elem := 5) 1 [uv 1] [uv 1] (by kernel_rfl) (by kernel_rfl) (by decide) rfl (by kernel_rfl) (by kernel_rfl) (by kernel_rfl) (by kernel_rfl) fun xb4 => ?_)
        refine Xg.ops_op (by kernel_rfl) (Xg.opx_call1' [1, 2, 3, 4, 5, 0] [H2 xx2.fst xx2.snd.fst xx2.snd.snd.fst.fst xx2.snd.snd.fst.snd xx2.snd.snd.snd.fst.fst xx2.snd.snd.snd.fst.snd, B2 xx2.snd.snd.snd.fst.fst xx2.snd.snd.snd.fst.snd ((0 : Int), xx4.fst, N, N) ((0 : Int), xx5.fst, N, N), A2 xx2.snd.fst xx3, R2 xx3 ((2 : Int) * (↑N : Int)) ((↑N : Int) + (↑N : Int)) xx5.snd.fst (2 : Nat) xx5.snd.snd, I2 xx5.snd.fst xx5.snd.snd [(0 : Int), (1 : Int)], row xb4 (5 : TypeId) [uv 1], ints (5 : TypeId) IntKind.u8 xx10 N ws, Y2 xx9 N zz, Y2 xx5.fst N zz, Y2 xx8.fst xx8.snd zz, Y2 xx4.fst N ws, Y2 xx7.fst xx7.snd ws, A, row xb3 (42 : TypeId) [iv 1, iv 0, iv (↑N : Int)], row xb2 (42 : TypeId) [iv 0, iv 0, iv (↑N : Int)]] (fun _ => by kernel_rfl) (@hse (xb4)) (by kernel_rfl) (by kernel_rfl) (by kernel_rfl) ?_)
        refine Xg.ops_op (by kernel_rfl) (Xg.opx_pure ((iv 98)) rfl (fun _ => by kernel_rfl) ?_)
        refine Xg.ops_nil ?_
        refine Xg.at_seq ?_
        refine Xg.at_region ?_
        refine Xg.ops_op (by kernel_rfl) (Xg.opx_pure ((pv xx2.fst 0)) rfl (fun _ => by kernel_rfl) ?_)
        refine Xg.ops_op (by kernel_rfl) (Xg.opx_pure ((iv 0)) rfl (fun _ => by kernel_rfl) ?_)
        refine Xg.ops_op (by kernel_rfl) (Xg.opx_pure ((pv xb2 0)) rfl (fun _ => by kernel_rfl) ?_)
        refine Xg.ops_op (by kernel_rfl) (Xg.opx_load (b := xb2) (off := ((0 : Nat))) 14 (iv 0) rfl (by kernel_rfl) (by kernel_rfl) (by kernel_rfl) ?_)
        refine Xg.ops_op (by kernel_rfl) (Xg.opx_pure ((iv (↑N : Int))) rfl (fun _ => by kernel_rfl) ?_)
        refine Xg.ops_op (by kernel_rfl) (Xg.opx_callE' [0, 1, 2, 3, 4, 10] (fun xx15 => [H2 xx2.fst xx2.snd.fst xx2.snd.snd.fst.fst xx2.snd.snd.fst.snd xx2.snd.snd.snd.fst.fst xx2.snd.snd.snd.fst.snd, B2 xx2.snd.snd.snd.fst.fst xx2.snd.snd.snd.fst.snd ((0 : Int), xx4.fst, N, N) ((0 : Int), xx5.fst, N, N), A2 xx2.snd.fst xx3, R2 xx3 ((2 : Int) * (↑N : Int)) ((↑N : Int) + (↑N : Int)) xx5.snd.fst (2 : Nat) xx5.snd.snd, I2 xx5.snd.fst xx5.snd.snd [(0 : Int), (1 : Int)], Y2 xx4.fst N ws, Y2 xx15.fst xx15.snd ws, row xb4 (5 : TypeId) [uv 1], ints (5 : TypeId) IntKind.u8 xx10 N ws, Y2 xx9 N zz, Y2 xx5.fst N zz, Y2 xx8.fst xx8.snd zz, Y2 xx7.fst xx7.snd ws, A, row xb3 (42 : TypeId) [iv 1, iv 0, iv (↑N : Int)], row xb2 (42 : TypeId) [iv 0, iv 0, iv (↑N : Int)]]) (fun _ => by kernel_rfl) (@hl0 ) (by kernel_rfl) (by kernel_rfl) (by kernel_rfl) fun xx15 xh17 => ?_)
        try dsimp only at xh17
        refine Xg.ops_op (by kernel_rfl) (Xg.opx_pure ((Value.tuple #[Value.slice xx15.fst ws.length xx15.snd, iv 0])) rfl (fun _ => by kernel_rfl) ?_)
        refine Xg.ops_op (by kernel_rfl) (Xg.opx_pure ((Value.slice xx15.fst ws.length xx15.snd)) rfl (fun _ => by kernel_rfl) ?_)
        refine Xg.ops_op (by kernel_rfl) (Xg.opx_pure ((iv 0)) rfl (fun _ => by kernel_rfl) ?_)
        refine Xg.ops_op (by kernel_rfl) (Xg.opx_pure ((Value.slice xx15.fst ws.length xx15.snd)) rfl (fun _ => by kernel_rfl) ?_)
        refine Xg.ops_op (by kernel_rfl) (Xg.opx_pure ((iv 0)) rfl (fun _ => by kernel_rfl) ?_)
        refine Xg.ops_nil ?_
        refine Xg.at_seq ?_
        refine Xg.at_region ?_
        refine Xg.ops_op (by kernel_rfl) (Xg.opx_pure ((iv 98)) rfl (fun _ => by kernel_rfl) ?_)
        refine Xg.ops_op (by kernel_rfl) (Xg.opx_pure ((Value.bool true)) rfl (fun _ => by kernel_rfl) ?_)
        refine Xg.ops_op (by kernel_rfl) (Xg.opx_pure ((Value.bool true)) rfl (fun _ => by kernel_rfl) ?_)
        refine Xg.ops_op (by kernel_rfl) (Xg.opx_pure ((iv 98)) rfl (fun _ => by kernel_rfl) ?_)
        refine Xg.ops_op (by kernel_rfl) (Xg.opx_pure ((Value.bool true)) rfl (fun _ => by kernel_rfl) ?_)
        refine Xg.ops_op (by kernel_rfl) (Xg.opx_pure ((Value.bool true)) rfl (fun _ => by kernel_rfl) ?_)
        refine Xg.ops_op (by kernel_rfl) (Xg.opx_pure ((Value.bool true)) rfl (fun _ => by kernel_rfl) ?_)
        refine Xg.ops_op (by kernel_rfl) (Xg.opx_pure ((iv 98)) rfl (fun _ => by kernel_rfl) ?_)
        refine Xg.ops_op (by kernel_rfl) (Xg.opx_pure ((Value.bool true)) rfl (fun _ => by kernel_rfl) ?_)
        refine Xg.ops_op (by kernel_rfl) (Xg.opx_pure ((Value.bool true)) rfl (fun _ => by kernel_rfl) ?_)
        refine Xg.ops_op (by kernel_rfl) (Xg.opx_pure ((Value.bool true)) rfl (fun _ => by kernel_rfl) ?_)
        refine Xg.ops_op (by kernel_rfl) (Xg.opx_pure ((iv 98)) rfl (fun _ => by kernel_rfl) ?_)
        refine Xg.ops_op (by kernel_rfl) (Xg.opx_pure ((Value.bool true)) rfl (fun _ => by kernel_rfl) ?_)
        refine Xg.ops_op (by kernel_rfl) (Xg.opx_pure ((Value.bool true)) rfl (fun _ => by kernel_rfl) ?_)
        refine Xg.ops_op (by kernel_rfl) (Xg.opx_pure ((Value.bool true)) rfl (fun _ => by kernel_rfl) ?_)
        refine Xg.ops_op (by kernel_rfl) (Xg.opx_pure ((iv 98)) rfl (fun _ => by kernel_rfl) ?_)
        refine Xg.ops_op (by kernel_rfl) (Xg.opx_pure ((Value.bool true)) rfl (fun _ => by kernel_rfl) ?_)
        refine Xg.ops_op (by kernel_rfl) (Xg.opx_pure ((Value.bool true)) rfl (fun _ => by kernel_rfl) ?_)
        refine Xg.ops_op (by kernel_rfl) (Xg.opx_pure ((Value.bool true)) rfl (fun _ => by kernel_rfl) ?_)
        refine Xg.ops_op (by kernel_rfl) (Xg.opx_pure ((iv 0)) rfl (fun _ => by kernel_rfl) ?_)
        refine Xg.ops_op (by kernel_rfl) (Xg.opx_pure ((Value.bool true)) rfl (fun _ => by kernel_rfl) ?_)
        refine Xg.ops_op (by kernel_rfl) (Xg.opx_pure ((Value.bool true)) rfl (fun _ => by kernel_rfl) ?_)
        refine Xg.ops_op (by kernel_rfl) (Xg.opx_pure ((Value.bool true)) rfl (fun _ => by kernel_rfl) ?_)
        refine Xg.ops_op (by kernel_rfl) (Xg.opx_pure ((Value.slice xx15.fst ws.length xx15.snd)) rfl (fun _ => by kernel_rfl) ?_)
        refine Xg.ops_op (by kernel_rfl) (Xg.opx_rd 6 (.string (Xg.St ws)) rfl (Xg.reads_own (E := ((5 : TypeId))) (sz := ((1 : Nat))) (n := ws.length) (c := xx15.snd) (a := xx15.fst) (vs := (List.map (Value.int IntKind.u8) ws))) (by kernel_rfl) (Xg.run_str_rd (e := 5) (a := xx15.fst) (n := ws.length) (c := xx15.snd) (xs := ws) (by kernel_rfl) (by kernel_rfl) (by kernel_rfl) (by kernel_rfl)) ?_)
        refine Xg.ops_op (by kernel_rfl) (Xg.opx_pure ((Value.slice xx10 ws.length N)) rfl (fun _ => by kernel_rfl) ?_)
        refine Xg.ops_op (by kernel_rfl) (Xg.opx_rd 8 (.string (Xg.St ws)) rfl (Xg.reads_own (E := ((5 : TypeId))) (sz := ((1 : Nat))) (n := ws.length) (c := N) (a := xx10) (vs := (List.map (Value.int IntKind.u8) ws))) (by kernel_rfl) (Xg.run_str_rd (e := 5) (a := xx10) (n := ws.length) (c := N) (xs := ws) (by kernel_rfl) (by kernel_rfl) (by kernel_rfl) (by kernel_rfl)) ?_)
        refine Xg.ops_op (by kernel_rfl) (Xg.opx_run (.bool true) rfl (Xg.run_str_same (xs := ws) (ys := ws) (by kernel_rfl) (by kernel_rfl) (by kernel_rfl) rfl) ?_)
        refine Xg.ops_op (by kernel_rfl) (Xg.opx_pure ((Value.bool true)) rfl (fun _ => by kernel_rfl) ?_)
        refine Xg.ops_op (by kernel_rfl) (Xg.opx_pure ((Value.bool true)) rfl (fun _ => by kernel_rfl) ?_)
        refine Xg.ops_nil ?_
        refine Xg.at_ret_ps (v := (Value.bool true)) [13] [A] Go.Proofs.Try.func5 (fun _ => by kernel_rfl) (by kernel_rfl) (by kernel_rfl) ?_
        exact ⟨by kernel_rfl, by kernel_rfl⟩)
      have h0 : sEq ws ws = false := by assumption
      rw [sEq_refl] at h0; cases h0
    · refine Xg.ops_op (by kernel_rfl) (Xg.opx_copy_in (elem := 5) (kd := .u8) (xs := zz) (ys := ys) (a := xx10) (c := N) (ax := Xg.subA xx10 N xx6 1) (cx := N - xx6) (yv := .slice a kk c) 0 1 xx6 (zz.length - xx6) ws kk rfl (by kernel_rfl) (by kernel_rfl) (by kernel_rfl) (fun b e => by rw [e]; exact sub_at (by omega)) (by kernel_rfl) (fun w hS => by rw [hyl]; exact reads_rd hRk 11 rfl hS) (by omega) (by omega) (by rw [hyl, hzl, Nat.min_eq_left (by omega), List.take_of_length_le (l := ys) (by omega)]; exact hws) (hwl.trans hzl.symm) (by rw [hyl, hzl, Nat.min_eq_left (by omega)]) ?_)
      (focus
        refine Xg.ops_nil ?_
        refine Xg.at_seq ?_
        refine Xg.at_seq ?_)
      rw [show zz.length = ws.length from by omega]
      (focus
        refine Xg.at_region ?_
        refine Xg.ops_op (by kernel_rfl) (Xg.opx_pure ((Value.slice xx7.fst ws.length xx7.snd)) rfl (fun _ => by kernel_rfl) ?_)
        refine Xg.ops_op (by kernel_rfl) (Xg.opx_rd 10 (.string (Xg.St ws)) rfl (Xg.reads_own (E := ((5 : TypeId))) (sz := ((1 : Nat))) (n := ws.length) (c := xx7.snd) (a := xx7.fst) (vs := (List.map (Value.int IntKind.u8) ws))) (by kernel_rfl) (Xg.run_str_rd (e := 5) (a := xx7.fst) (n := ws.length) (c := xx7.snd) (xs := ws) (by kernel_rfl) (by kernel_rfl) (by kernel_rfl) (by kernel_rfl)) ?_)
        refine Xg.ops_op (by kernel_rfl) (Xg.opx_pure ((Value.slice xx10 ws.length N)) rfl (fun _ => by kernel_rfl) ?_)
        refine Xg.ops_op (by kernel_rfl) (Xg.opx_rd 0 (.string (Xg.St ws)) rfl (Xg.reads_own (E := ((5 : TypeId))) (sz := ((1 : Nat))) (n := ws.length) (c := N) (a := xx10) (vs := (List.map (Value.int IntKind.u8) ws))) (by kernel_rfl) (Xg.run_str_rd (e := 5) (a := xx10) (n := ws.length) (c := N) (xs := ws) (by kernel_rfl) (by kernel_rfl) (by kernel_rfl) (by kernel_rfl)) ?_)
        refine Xg.ops_op (by kernel_rfl) (Xg.opx_run (.bool (!Xg.sEq ws ws)) rfl (Xg.run_str_ne (xs := ws) (ys := ws) (by kernel_rfl) (by kernel_rfl) (by kernel_rfl)) ?_)
        refine Xg.ops_nil ?_
        refine Xg.at_cond (t := (!sEq ws ws)) (by kernel_rfl) (fun xh12 => ?_) (fun xh12 => ?_)
        replace xh12 : (sEq ws ws) = false := by simpa using xh12
        rotate_left
        replace xh12 : (sEq ws ws) = true := by simpa using xh12
        rotate_right
        refine Xg.at_seq ?_
        refine Xg.at_region ?_
        refine Xg.ops_op (by kernel_rfl) (Xg.opx_pure ((Value.bool false)) rfl (fun _ => by kernel_rfl) ?_)
        refine Xg.ops_nil ?_
        refine Xg.at_ret_ps (v := (Value.bool false)) [11] [A] Go.Proofs.Try.func5 (fun _ => by kernel_rfl) (by kernel_rfl) (by kernel_rfl) ?_
        rotate_left
        refine Xg.at_skip ?_
        refine Xg.at_seq ?_
        refine Xg.at_draw [10, 12] [(0, [0, 1, 2, 3, 4, 5, 6, 7, 8, 9, 10, 11], (RdIs (1 : Nat) (Value.slice xx7.fst ws.length xx7.snd) ws.length (List.map (Value.int IntKind.u8) ws))), (3, [0, 1, 2, 3, 4, 5, 6, 7, 8, 9, 10, 11], Xg.CellIs (xb2) (((0 : Nat))) ((iv 0)))] (by kernel_rfl) ?_
        refine Xg.any_pure ((pv xx2.fst 0)) 0 (by kernel_rfl) rfl (by kernel_rfl) (by kernel_rfl) (by kernel_rfl) (by kernel_rfl) rfl (fun _ => by kernel_rfl) ?_
        refine Xg.any_pure ((iv 0)) 1 (by kernel_rfl) rfl (by kernel_rfl) (by kernel_rfl) (by kernel_rfl) (by kernel_rfl) rfl (fun _ => by kernel_rfl) ?_
        refine Xg.any_pure ((pv xb2 0)) 2 (by kernel_rfl) rfl (by kernel_rfl) (by kernel_rfl) (by kernel_rfl) (by kernel_rfl) rfl (fun _ => by kernel_rfl) ?_
        refine Xg.any_reads (iv 0) 3 1 (by kernel_rfl) rfl (by kernel_rfl) (by kernel_rfl) (by kernel_rfl) (by kernel_rfl) rfl rfl (by kernel_rfl) (Xg.cell_now (b := xb2) (off := ((0 : Nat))) 13 rfl (by kernel_rfl)) (fun _ h => Xg.run_load (by kernel_rfl) (by kernel_rfl) h) ?_
        refine Xg.any_pure ((iv (↑xx6 : Int))) 4 (by kernel_rfl) rfl (by kernel_rfl) (by kernel_rfl) (by kernel_rfl) (by kernel_rfl) rfl (fun _ => by kernel_rfl) ?_
        refine Xg.any_pure ((iv (↑N : Int))) 5 (by kernel_rfl) rfl (by kernel_rfl) (by kernel_rfl) (by kernel_rfl) (by kernel_rfl) rfl (fun _ => by kernel_rfl) ?_
        refine Xg.any_pure ((iv (↑xx6 : Int))) 6 (by kernel_rfl) rfl (by kernel_rfl) (by kernel_rfl) (by kernel_rfl) (by kernel_rfl) rfl (fun _ => by kernel_rfl) ?_
        refine Xg.any_int .i64 (IntKind.wrap .i64 (((↑N : Int) - (↑xx6 : Int)))) 7 (by kernel_rfl) rfl (by kernel_rfl) (by kernel_rfl) (by kernel_rfl) (by kernel_rfl) rfl (fun _ => by kernel_rfl) (Xg.wrap_i64_in (by omega)) ?_
        refine Xg.any_int .i64 (IntKind.wrap .i64 (((↑N : Int) - (↑xx6 : Int) + (1 : Int)))) 8 (by kernel_rfl) rfl (by kernel_rfl) (by kernel_rfl) (by kernel_rfl) (by kernel_rfl) rfl (fun _ => by kernel_rfl) (Xg.wrap_i64_in (by omega)) ?_
        refine Xg.any_pure ((iv far0)) 9 (by kernel_rfl) rfl (by kernel_rfl) (by kernel_rfl) (by kernel_rfl) (by kernel_rfl) rfl (fun _ => by kernel_rfl) ?_
        refine Xg.any_each [10] (by kernel_rfl) rfl ⟨?_, trivial⟩
        refine Xg.comes_act rfl (by kernel_rfl) (by kernel_rfl) (Xg.opx_callE' [] (fun xx11 => [ints (5 : TypeId) IntKind.u8 xx10 N ws, Y2 xx9 N zz, H2 xx2.fst xx2.snd.fst xx2.snd.snd.fst.fst xx2.snd.snd.fst.snd xx2.snd.snd.snd.fst.fst xx2.snd.snd.snd.fst.snd, B2 xx2.snd.snd.snd.fst.fst xx2.snd.snd.snd.fst.snd ((0 : Int), xx4.fst, N, N) ((0 : Int), xx5.fst, N, N), A2 xx2.snd.fst xx3, R2 xx3 ((2 : Int) * (↑N : Int)) ((↑N : Int) + (↑N : Int)) xx5.snd.fst (2 : Nat) xx5.snd.snd, I2 xx5.snd.fst xx5.snd.snd [(0 : Int), (1 : Int)], Y2 xx5.fst N zz, Y2 xx8.fst xx8.snd zz, Y2 xx4.fst N ws, Y2 xx7.fst xx7.snd ws, A, row xb3 (42 : TypeId) [iv 1, iv 0, iv (↑N : Int)], row xb2 (42 : TypeId) [iv 0, iv 0, iv (↑N : Int)]]) (fun _ => by kernel_rfl) (@Go.Proofs.Ytmplimmcjdkhlaa.pick_d (far0) ((nat_lit 1099511627776)) (by omega) (by first | rfl | decide | (constructor <;> omega) | (simp; done) | (simp; omega))) (by kernel_rfl) (by kernel_rfl) (by kernel_rfl) fun xx11 xh13 => ?_)
        try dsimp only at xh13
        obtain ⟨xh13_0, xh13_1⟩ := xh13
        refine Xg.acts (Xg.owes_rd 10 (Xg.reads_own (E := ((5 : TypeId))) (sz := ((1 : Nat))) (n := ws.length) (c := xx7.snd) (a := xx7.fst) (vs := (List.map (Value.int IntKind.u8) ws))) (by kernel_rfl) (Xg.owes_cell 13 rfl (by kernel_rfl) Xg.owes_nil)) ?_
        refine Xg.any_int .i64 (IntKind.wrap .i64 (((↑N : Int) - (↑xx6 : Int) + (1 : Int) + (↑xx11 : Int)))) 11 (by kernel_rfl) rfl (by kernel_rfl) (by kernel_rfl) (by kernel_rfl) (by kernel_rfl) rfl (fun _ => by kernel_rfl) (Xg.wrap_i64_in (by omega)) ?_
        refine Xg.any_each [12] (by kernel_rfl) rfl ⟨?_, trivial⟩
        refine Xg.comes_act rfl (by kernel_rfl) (by kernel_rfl) (Xg.opx_call1' [2, 3, 4, 5, 6] [H2 xx2.fst xx2.snd.fst xx2.snd.snd.fst.fst xx2.snd.snd.fst.snd xx2.snd.snd.snd.fst.fst xx2.snd.snd.snd.fst.snd, B2 xx2.snd.snd.snd.fst.fst xx2.snd.snd.snd.fst.snd ((0 : Int), xx4.fst, N, N) ((0 : Int), xx5.fst, N, N), A2 xx2.snd.fst xx3, R2 xx3 ((2 : Int) * (↑N : Int)) ((↑N : Int) + (↑N : Int)) xx5.snd.fst (2 : Nat) xx5.snd.snd, I2 xx5.snd.fst xx5.snd.snd [(0 : Int), (1 : Int)], ints (5 : TypeId) IntKind.u8 xx10 N ws, Y2 xx9 N zz, Y2 xx5.fst N zz, Y2 xx8.fst xx8.snd zz, Y2 xx4.fst N ws, Y2 xx7.fst xx7.snd ws, A, row xb3 (42 : TypeId) [iv 1, iv 0, iv (↑N : Int)], row xb2 (42 : TypeId) [iv 0, iv 0, iv (↑N : Int)]] (fun _ => by kernel_rfl) (@hle1 (((↑xx6 : Int))) (((↑N : Int) - (↑xx6 : Int) + (1 : Int) + (↑xx11 : Int))) (by omega) (by omega) (by omega)) (by kernel_rfl) (by kernel_rfl) (by kernel_rfl) ?_)
        refine Xg.acts (Xg.owes_skip (by kernel_rfl) (Xg.owes_skip (by kernel_rfl) Xg.owes_nil)) ?_
        refine Xg.any_pure ((Value.tuple #[Value.slice none (0 : Nat) (0 : Nat), iv 98])) 13 (by kernel_rfl) rfl (by kernel_rfl) (by kernel_rfl) (by kernel_rfl) (by kernel_rfl) rfl (fun _ => by kernel_rfl) ?_
        refine Xg.any_pure ((Value.slice none (0 : Nat) (0 : Nat))) 14 (by kernel_rfl) rfl (by kernel_rfl) (by kernel_rfl) (by kernel_rfl) (by kernel_rfl) rfl (fun _ => by kernel_rfl) ?_
        refine Xg.any_pure ((iv 98)) 15 (by kernel_rfl) rfl (by kernel_rfl) (by kernel_rfl) (by kernel_rfl) (by kernel_rfl) rfl (fun _ => by kernel_rfl) ?_
        refine Xg.any_pure ((iv 98)) 16 (by kernel_rfl) rfl (by kernel_rfl) (by kernel_rfl) (by kernel_rfl) (by kernel_rfl) rfl (fun _ => by kernel_rfl) ?_
        refine Xg.any_nil (by kernel_rfl) ?_
        refine Xg.at_seq ?_
        refine Xg.at_draw [7, 9] [(3, [0, 1, 2, 3, 4, 5, 6, 7, 8], Xg.CellIs (xb2) (((0 : Nat))) ((iv 0)))] (by kernel_rfl) ?_
        refine Xg.any_pure ((pv xx2.fst 0)) 0 (by kernel_rfl) rfl (by kernel_rfl) (by kernel_rfl) (by kernel_rfl) (by kernel_rfl) rfl (fun _ => by kernel_rfl) ?_
        refine Xg.any_pure ((iv 0)) 1 (by kernel_rfl) rfl (by kernel_rfl) (by kernel_rfl) (by kernel_rfl) (by kernel_rfl) rfl (fun _ => by kernel_rfl) ?_
        refine Xg.any_pure ((pv xb2 0)) 2 (by kernel_rfl) rfl (by kernel_rfl) (by kernel_rfl) (by kernel_rfl) (by kernel_rfl) rfl (fun _ => by kernel_rfl) ?_
        refine Xg.any_reads (iv 0) 3 0 (by kernel_rfl) rfl (by kernel_rfl) (by kernel_rfl) (by kernel_rfl) (by kernel_rfl) rfl rfl (by kernel_rfl) (Xg.cell_now (b := xb2) (off := ((0 : Nat))) 13 rfl (by kernel_rfl)) (fun _ h => Xg.run_load (by kernel_rfl) (by kernel_rfl) h) ?_
        refine Xg.any_pure ((iv (↑N : Int))) 4 (by kernel_rfl) rfl (by kernel_rfl) (by kernel_rfl) (by kernel_rfl) (by kernel_rfl) rfl (fun _ => by kernel_rfl) ?_
        refine Xg.any_int .i64 (IntKind.wrap .i64 (((↑N : Int) + (1 : Int)))) 5 (by kernel_rfl) rfl (by kernel_rfl) (by kernel_rfl) (by kernel_rfl) (by kernel_rfl) rfl (fun _ => by kernel_rfl) (Xg.wrap_i64_in (by omega)) ?_
        refine Xg.any_pure ((iv far0)) 6 (by kernel_rfl) rfl (by kernel_rfl) (by kernel_rfl) (by kernel_rfl) (by kernel_rfl) rfl (fun _ => by kernel_rfl) ?_
        refine Xg.any_each [7] (by kernel_rfl) rfl ⟨?_, trivial⟩
        refine Xg.comes_act rfl (by kernel_rfl) (by kernel_rfl) (Xg.opx_callE' [] (fun xx12 => [H2 xx2.fst xx2.snd.fst xx2.snd.snd.fst.fst xx2.snd.snd.fst.snd xx2.snd.snd.snd.fst.fst xx2.snd.snd.snd.fst.snd, B2 xx2.snd.snd.snd.fst.fst xx2.snd.snd.snd.fst.snd ((0 : Int), xx4.fst, N, N) ((0 : Int), xx5.fst, N, N), A2 xx2.snd.fst xx3, R2 xx3 ((2 : Int) * (↑N : Int)) ((↑N : Int) + (↑N : Int)) xx5.snd.fst (2 : Nat) xx5.snd.snd, I2 xx5.snd.fst xx5.snd.snd [(0 : Int), (1 : Int)], ints (5 : TypeId) IntKind.u8 xx10 N ws, Y2 xx9 N zz, Y2 xx5.fst N zz, Y2 xx8.fst xx8.snd zz, Y2 xx4.fst N ws, Y2 xx7.fst xx7.snd ws, A, row xb3 (42 : TypeId) [iv 1, iv 0, iv (↑N : Int)], row xb2 (42 : TypeId) [iv 0, iv 0, iv (↑N : Int)]]) (fun _ => by kernel_rfl) (@Go.Proofs.Ytmplimmcjdkhlaa.pick_d (far0) ((nat_lit 1099511627776)) (by omega) (by first | rfl | decide | (constructor <;> omega) | (simp; done) | (simp; omega))) (by kernel_rfl) (by kernel_rfl) (by kernel_rfl) fun xx12 xh14 => ?_)
        try dsimp only at xh14
        obtain ⟨xh14_0, xh14_1⟩ := xh14
        refine Xg.acts (Xg.owes_cell 13 rfl (by kernel_rfl) Xg.owes_nil) ?_
        refine Xg.any_int .i64 (IntKind.wrap .i64 (((↑N : Int) + (1 : Int) + (↑xx12 : Int)))) 8 (by kernel_rfl) rfl (by kernel_rfl) (by kernel_rfl) (by kernel_rfl) (by kernel_rfl) rfl (fun _ => by kernel_rfl) (Xg.wrap_i64_in (by omega)) ?_
        refine Xg.any_each [9] (by kernel_rfl) rfl ⟨?_, trivial⟩
        refine Xg.comes_act rfl (by kernel_rfl) (by kernel_rfl) (Xg.opx_call1' [0, 1, 2, 3, 4] [H2 xx2.fst xx2.snd.fst xx2.snd.snd.fst.fst xx2.snd.snd.fst.snd xx2.snd.snd.snd.fst.fst xx2.snd.snd.snd.fst.snd, B2 xx2.snd.snd.snd.fst.fst xx2.snd.snd.snd.fst.snd ((0 : Int), xx4.fst, N, N) ((0 : Int), xx5.fst, N, N), A2 xx2.snd.fst xx3, R2 xx3 ((2 : Int) * (↑N : Int)) ((↑N : Int) + (↑N : Int)) xx5.snd.fst (2 : Nat) xx5.snd.snd, I2 xx5.snd.fst xx5.snd.snd [(0 : Int), (1 : Int)], ints (5 : TypeId) IntKind.u8 xx10 N ws, Y2 xx9 N zz, Y2 xx5.fst N zz, Y2 xx8.fst xx8.snd zz, Y2 xx4.fst N ws, Y2 xx7.fst xx7.snd ws, A, row xb3 (42 : TypeId) [iv 1, iv 0, iv (↑N : Int)], row xb2 (42 : TypeId) [iv 0, iv 0, iv (↑N : Int)]] (fun _ => by kernel_rfl) (@hle1 (((↑N : Int) + (1 : Int) + (↑xx12 : Int))) (((0 : Int))) (by omega) (by omega) (by omega)) (by kernel_rfl) (by kernel_rfl) (by kernel_rfl) ?_)
        refine Xg.acts (Xg.owes_skip (by kernel_rfl) Xg.owes_nil) ?_
        refine Xg.any_pure ((Value.tuple #[Value.slice none (0 : Nat) (0 : Nat), iv 98])) 10 (by kernel_rfl) rfl (by kernel_rfl) (by kernel_rfl) (by kernel_rfl) (by kernel_rfl) rfl (fun _ => by kernel_rfl) ?_
        refine Xg.any_pure ((Value.slice none (0 : Nat) (0 : Nat))) 11 (by kernel_rfl) rfl (by kernel_rfl) (by kernel_rfl) (by kernel_rfl) (by kernel_rfl) rfl (fun _ => by kernel_rfl) ?_
        refine Xg.any_pure ((iv 98)) 12 (by kernel_rfl) rfl (by kernel_rfl) (by kernel_rfl) (by kernel_rfl) (by kernel_rfl) rfl (fun _ => by kernel_rfl) ?_
        refine Xg.any_pure ((iv 98)) 13 (by kernel_rfl) rfl (by kernel_rfl) (by kernel_rfl) (by kernel_rfl) (by kernel_rfl) rfl (fun _ => by kernel_rfl) ?_
        refine Xg.any_nil (by kernel_rfl) ?_
        refine Xg.at_seq ?_
        refine Xg.at_draw [5, 7] [(3, [0, 1, 2, 3, 4, 5, 6], Xg.CellIs (xb2) (((0 : Nat))) ((iv 0)))] (by kernel_rfl) ?_
        refine Xg.any_pure ((pv xx2.fst 0)) 0 (by kernel_rfl) rfl (by kernel_rfl) (by kernel_rfl) (by kernel_rfl) (by kernel_rfl) rfl (fun _ => by kernel_rfl) ?_
        refine Xg.any_pure ((iv 0)) 1 (by kernel_rfl) rfl (by kernel_rfl) (by kernel_rfl) (by kernel_rfl) (by kernel_rfl) rfl (fun _ => by kernel_rfl) ?_
        refine Xg.any_pure ((pv xb2 0)) 2 (by kernel_rfl) rfl (by kernel_rfl) (by kernel_rfl) (by kernel_rfl) (by kernel_rfl) rfl (fun _ => by kernel_rfl) ?_
        refine Xg.any_reads (iv 0) 3 0 (by kernel_rfl) rfl (by kernel_rfl) (by kernel_rfl) (by kernel_rfl) (by kernel_rfl) rfl rfl (by kernel_rfl) (Xg.cell_now (b := xb2) (off := ((0 : Nat))) 13 rfl (by kernel_rfl)) (fun _ h => Xg.run_load (by kernel_rfl) (by kernel_rfl) h) ?_
        refine Xg.any_pure ((iv far0)) 4 (by kernel_rfl) rfl (by kernel_rfl) (by kernel_rfl) (by kernel_rfl) (by kernel_rfl) rfl (fun _ => by kernel_rfl) ?_
        refine Xg.any_each [5] (by kernel_rfl) rfl ⟨?_, trivial⟩
        refine Xg.comes_act rfl (by kernel_rfl) (by kernel_rfl) (Xg.opx_callE' [] (fun xx13 => [H2 xx2.fst xx2.snd.fst xx2.snd.snd.fst.fst xx2.snd.snd.fst.snd xx2.snd.snd.snd.fst.fst xx2.snd.snd.snd.fst.snd, B2 xx2.snd.snd.snd.fst.fst xx2.snd.snd.snd.fst.snd ((0 : Int), xx4.fst, N, N) ((0 : Int), xx5.fst, N, N), A2 xx2.snd.fst xx3, R2 xx3 ((2 : Int) * (↑N : Int)) ((↑N : Int) + (↑N : Int)) xx5.snd.fst (2 : Nat) xx5.snd.snd, I2 xx5.snd.fst xx5.snd.snd [(0 : Int), (1 : Int)], ints (5 : TypeId) IntKind.u8 xx10 N ws, Y2 xx9 N zz, Y2 xx5.fst N zz, Y2 xx8.fst xx8.snd zz, Y2 xx4.fst N ws, Y2 xx7.fst xx7.snd ws, A, row xb3 (42 : TypeId) [iv 1, iv 0, iv (↑N : Int)], row xb2 (42 : TypeId) [iv 0, iv 0, iv (↑N : Int)]]) (fun _ => by kernel_rfl) (@Go.Proofs.Ytmplimmcjdkhlaa.pick_d (far0) ((nat_lit 1099511627776)) (by omega) (by first | rfl | decide | (constructor <;> omega) | (simp; done) | (simp; omega))) (by kernel_rfl) (by kernel_rfl) (by kernel_rfl) fun xx13 xh15 => ?_)
        try dsimp only at xh15
        obtain ⟨xh15_0, xh15_1⟩ := xh15
        refine Xg.acts (Xg.owes_cell 13 rfl (by kernel_rfl) Xg.owes_nil) ?_
        refine Xg.any_int .i64 (IntKind.wrap .i64 (((-1 : Int) - (↑xx13 : Int)))) 6 (by kernel_rfl) rfl (by kernel_rfl) (by kernel_rfl) (by kernel_rfl) (by kernel_rfl) rfl (fun _ => by kernel_rfl) (Xg.wrap_i64_in (by omega)) ?_
        refine Xg.any_each [7] (by kernel_rfl) rfl ⟨?_, trivial⟩
        refine Xg.comes_act rfl (by kernel_rfl) (by kernel_rfl) (Xg.opx_call1' [0, 1, 2, 3, 4] [H2 xx2.fst xx2.snd.fst xx2.snd.snd.fst.fst xx2.snd.snd.fst.snd xx2.snd.snd.snd.fst.fst xx2.snd.snd.snd.fst.snd, B2 xx2.snd.snd.snd.fst.fst xx2.snd.snd.snd.fst.snd ((0 : Int), xx4.fst, N, N) ((0 : Int), xx5.fst, N, N), A2 xx2.snd.fst xx3, R2 xx3 ((2 : Int) * (↑N : Int)) ((↑N : Int) + (↑N : Int)) xx5.snd.fst (2 : Nat) xx5.snd.snd, I2 xx5.snd.fst xx5.snd.snd [(0 : Int), (1 : Int)], ints (5 : TypeId) IntKind.u8 xx10 N ws, Y2 xx9 N zz, Y2 xx5.fst N zz, Y2 xx8.fst xx8.snd zz, Y2 xx4.fst N ws, Y2 xx7.fst xx7.snd ws, A, row xb3 (42 : TypeId) [iv 1, iv 0, iv (↑N : Int)], row xb2 (42 : TypeId) [iv 0, iv 0, iv (↑N : Int)]] (fun _ => by kernel_rfl) (@hle1 (((-1 : Int) - (↑xx13 : Int))) (((1 : Int))) (by omega) (by omega) (by omega)) (by kernel_rfl) (by kernel_rfl) (by kernel_rfl) ?_)
        refine Xg.acts (Xg.owes_skip (by kernel_rfl) Xg.owes_nil) ?_
        refine Xg.any_pure ((Value.tuple #[Value.slice none (0 : Nat) (0 : Nat), iv 98])) 8 (by kernel_rfl) rfl (by kernel_rfl) (by kernel_rfl) (by kernel_rfl) (by kernel_rfl) rfl (fun _ => by kernel_rfl) ?_
        refine Xg.any_pure ((Value.slice none (0 : Nat) (0 : Nat))) 9 (by kernel_rfl) rfl (by kernel_rfl) (by kernel_rfl) (by kernel_rfl) (by kernel_rfl) rfl (fun _ => by kernel_rfl) ?_
        refine Xg.any_pure ((iv 98)) 10 (by kernel_rfl) rfl (by kernel_rfl) (by kernel_rfl) (by kernel_rfl) (by kernel_rfl) rfl (fun _ => by kernel_rfl) ?_
        refine Xg.any_pure ((iv 98)) 11 (by kernel_rfl) rfl (by kernel_rfl) (by kernel_rfl) (by kernel_rfl) (by kernel_rfl) rfl (fun _ => by kernel_rfl) ?_
        refine Xg.any_nil (by kernel_rfl) ?_
        refine Xg.at_seq ?_
        refine Xg.at_draw [6, 8] [(3, [0, 1, 2, 3, 4, 5, 6, 7], Xg.CellIs (xb2) (((0 : Nat))) ((iv 0)))] (by kernel_rfl) ?_
        refine Xg.any_pure ((pv xx2.fst 0)) 0 (by kernel_rfl) rfl (by kernel_rfl) (by kernel_rfl) (by kernel_rfl) (by kernel_rfl) rfl (fun _ => by kernel_rfl) ?_
        refine Xg.any_pure ((iv 0)) 1 (by kernel_rfl) rfl (by kernel_rfl) (by kernel_rfl) (by kernel_rfl) (by kernel_rfl) rfl (fun _ => by kernel_rfl) ?_
        refine Xg.any_pure ((pv xb2 0)) 2 (by kernel_rfl) rfl (by kernel_rfl) (by kernel_rfl) (by kernel_rfl) (by kernel_rfl) rfl (fun _ => by kernel_rfl) ?_
        refine Xg.any_reads (iv 0) 3 0 (by kernel_rfl) rfl (by kernel_rfl) (by kernel_rfl) (by kernel_rfl) (by kernel_rfl) rfl rfl (by kernel_rfl) (Xg.cell_now (b := xb2) (off := ((0 : Nat))) 13 rfl (by kernel_rfl)) (fun _ h => Xg.run_load (by kernel_rfl) (by kernel_rfl) h) ?_
        refine Xg.any_pure ((iv (↑xx6 : Int))) 4 (by kernel_rfl) rfl (by kernel_rfl) (by kernel_rfl) (by kernel_rfl) (by kernel_rfl) rfl (fun _ => by kernel_rfl) ?_
        refine Xg.any_pure ((iv far0)) 5 (by kernel_rfl) rfl (by kernel_rfl) (by kernel_rfl) (by kernel_rfl) (by kernel_rfl) rfl (fun _ => by kernel_rfl) ?_
        refine Xg.any_each [6] (by kernel_rfl) rfl ⟨?_, trivial⟩
        refine Xg.comes_act rfl (by kernel_rfl) (by kernel_rfl) (Xg.opx_callE' [] (fun xx14 => [H2 xx2.fst xx2.snd.fst xx2.snd.snd.fst.fst xx2.snd.snd.fst.snd xx2.snd.snd.snd.fst.fst xx2.snd.snd.snd.fst.snd, B2 xx2.snd.snd.snd.fst.fst xx2.snd.snd.snd.fst.snd ((0 : Int), xx4.fst, N, N) ((0 : Int), xx5.fst, N, N), A2 xx2.snd.fst xx3, R2 xx3 ((2 : Int) * (↑N : Int)) ((↑N : Int) + (↑N : Int)) xx5.snd.fst (2 : Nat) xx5.snd.snd, I2 xx5.snd.fst xx5.snd.snd [(0 : Int), (1 : Int)], ints (5 : TypeId) IntKind.u8 xx10 N ws, Y2 xx9 N zz, Y2 xx5.fst N zz, Y2 xx8.fst xx8.snd zz, Y2 xx4.fst N ws, Y2 xx7.fst xx7.snd ws, A, row xb3 (42 : TypeId) [iv 1, iv 0, iv (↑N : Int)], row xb2 (42 : TypeId) [iv 0, iv 0, iv (↑N : Int)]]) (fun _ => by kernel_rfl) (@Go.Proofs.Ytmplimmcjdkhlaa.pick_d (far0) ((nat_lit 1099511627776)) (by omega) (by first | rfl | decide | (constructor <;> omega) | (simp; done) | (simp; omega))) (by kernel_rfl) (by kernel_rfl) (by kernel_rfl) fun xx14 xh16 => ?_)
        try dsimp only at xh16
        obtain ⟨xh16_0, xh16_1⟩ := xh16
        refine Xg.acts (Xg.owes_cell 13 rfl (by kernel_rfl) Xg.owes_nil) ?_
        refine Xg.any_int .i64 (IntKind.wrap .i64 (((-1 : Int) - (↑xx14 : Int)))) 7 (by kernel_rfl) rfl (by kernel_rfl) (by kernel_rfl) (by kernel_rfl) (by kernel_rfl) rfl (fun _ => by kernel_rfl) (Xg.wrap_i64_in (by omega)) ?_
        refine Xg.any_each [8] (by kernel_rfl) rfl ⟨?_, trivial⟩
        refine Xg.comes_act rfl (by kernel_rfl) (by kernel_rfl) (Xg.opx_call1' [0, 1, 2, 3, 4] [H2 xx2.fst xx2.snd.fst xx2.snd.snd.fst.fst xx2.snd.snd.fst.snd xx2.snd.snd.snd.fst.fst xx2.snd.snd.snd.fst.snd, B2 xx2.snd.snd.snd.fst.fst xx2.snd.snd.snd.fst.snd ((0 : Int), xx4.fst, N, N) ((0 : Int), xx5.fst, N, N), A2 xx2.snd.fst xx3, R2 xx3 ((2 : Int) * (↑N : Int)) ((↑N : Int) + (↑N : Int)) xx5.snd.fst (2 : Nat) xx5.snd.snd, I2 xx5.snd.fst xx5.snd.snd [(0 : Int), (1 : Int)], ints (5 : TypeId) IntKind.u8 xx10 N ws, Y2 xx9 N zz, Y2 xx5.fst N zz, Y2 xx8.fst xx8.snd zz, Y2 xx4.fst N ws, Y2 xx7.fst xx7.snd ws, A, row xb3 (42 : TypeId) [iv 1, iv 0, iv (↑N : Int)], row xb2 (42 : TypeId) [iv 0, iv 0, iv (↑N : Int)]] (fun _ => by kernel_rfl) (@hle1 (((↑xx6 : Int))) (((-1 : Int) - (↑xx14 : Int))) (by omega) (by omega) (by omega)) (by kernel_rfl) (by kernel_rfl) (by kernel_rfl) ?_)
        refine Xg.acts (Xg.owes_skip (by kernel_rfl) Xg.owes_nil) ?_
        refine Xg.any_pure ((Value.tuple #[Value.slice none (0 : Nat) (0 : Nat), iv 98])) 9 (by kernel_rfl) rfl (by kernel_rfl) (by kernel_rfl) (by kernel_rfl) (by kernel_rfl) rfl (fun _ => by kernel_rfl) ?_
        refine Xg.any_pure ((Value.slice none (0 : Nat) (0 : Nat))) 10 (by kernel_rfl) rfl (by kernel_rfl) (by kernel_rfl) (by kernel_rfl) (by kernel_rfl) rfl (fun _ => by kernel_rfl) ?_
        refine Xg.any_pure ((iv 98)) 11 (by kernel_rfl) rfl (by kernel_rfl) (by kernel_rfl) (by kernel_rfl) (by kernel_rfl) rfl (fun _ => by kernel_rfl) ?_
        refine Xg.any_pure ((iv 98)) 12 (by kernel_rfl) rfl (by kernel_rfl) (by kernel_rfl) (by kernel_rfl) (by kernel_rfl) rfl (fun _ => by kernel_rfl) ?_
        refine Xg.any_nil (by kernel_rfl) ?_
        refine Xg.at_seq ?_
        refine Xg.at_region ?_
        refine Xg.ops_op (by kernel_rfl) (Xg.opx_pure ((pv xx2.fst 0)) rfl (fun _ => by kernel_rfl) ?_)
        refine Xg.ops_op (by kernel_rfl) (Xg.opx_pure ((iv 0)) rfl (fun _ => by kernel_rfl) ?_)
        refine Xg.ops_op (by kernel_rfl) (Xg.opx_pure ((pv xb2 0)) rfl (fun _ => by kernel_rfl) ?_)
        refine Xg.ops_op (by kernel_rfl) (Xg.opx_load (b := xb2) (off := ((0 : Nat))) 13 (iv 0) rfl (by kernel_rfl) (by kernel_rfl) (by kernel_rfl) ?_)
        refine Xg.ops_op (by kernel_rfl) (Xg.opx_pure ((iv (↑N : Int))) rfl (fun _ => by kernel_rfl) ?_)
        refine Xg.ops_op (by kernel_rfl) (Xg.opx_bs (elem := 5) 1 [uv 1] [uv 1] (by kernel_rfl) (by kernel_rfl) (by decide) rfl (by kernel_rfl) (by kernel_rfl) (by kernel_rfl) (by kernel_rfl) fun xb4 => ?_)
        refine Xg.ops_op (by kernel_rfl) (Xg.opx_call1' [1, 2, 3, 4, 5, 0] [H2 xx2.fst xx2.snd.fst xx2.snd.snd.fst.fst xx2.snd.snd.fst.snd xx2.snd.snd.snd.fst.fst xx2.snd.snd.snd.fst.snd, B2 xx2.snd.snd.snd.fst.fst xx2.snd.snd.snd.fst.snd ((0 : Int), xx4.fst, N, N) ((0 : Int), xx5.fst, N, N), A2 xx2.snd.fst xx3, R2 xx3 ((2 : Int) * (↑N : Int)) ((↑N : Int) + (↑N : Int)) xx5.snd.fst (2 : Nat) xx5.snd.snd, I2 xx5.snd.fst xx5.snd.snd [(0 : Int), (1 : Int)], row xb4 (5 : TypeId) [uv 1], ints (5 : TypeId) IntKind.u8 xx10 N ws, Y2 xx9 N zz, Y2 xx5.fst N zz, Y2 xx8.fst xx8.snd zz, Y2 xx4.fst N ws, Y2 xx7.fst xx7.snd ws, A, row xb3 (42 : TypeId) [iv 1, iv 0, iv (↑N : Int)], row xb2 (42 : TypeId) [iv 0, iv 0, iv (↑N : Int)]] (fun _ => by kernel_rfl) (@hse (xb4)) (by kernel_rfl) (by kernel_rfl) (by kernel_rfl) ?_)
        refine Xg.ops_op (by kernel_rfl) (Xg.opx_pure ((iv 98)) rfl (fun _ => by kernel_rfl) ?_)
        refine Xg.ops_nil ?_
        refine Xg.at_seq ?_
        refine Xg.at_region ?_
        refine Xg.ops_op (by kernel_rfl) (Xg.opx_pure ((pv xx2.fst 0)) rfl (fun _ => by kernel_rfl) ?_)
        refine Xg.ops_op (by kernel_rfl) (Xg.opx_pure ((iv 0)) rfl (fun _ => by kernel_rfl) ?_)
        refine Xg.ops_op (by kernel_rfl) (Xg.opx_pure ((pv xb2 0)) rfl (fun _ => by kernel_rfl) ?_)
        refine Xg.ops_op (by kernel_rfl) (Xg.opx_load (b := xb2) (off := ((0 : Nat))) 14 (iv 0) rfl (by kernel_rfl) (by kernel_rfl) (by kernel_rfl) ?_)
        refine Xg.ops_op (by kernel_rfl) (Xg.opx_pure ((iv (↑N : Int))) rfl (fun _ => by kernel_rfl) ?_)
        refine Xg.ops_op (by kernel_rfl) (Xg.opx_callE' [0, 1, 2, 3, 4, 10] (fun xx15 => [H2 xx2.fst xx2.snd.fst xx2.snd.snd.fst.fst xx2.snd.snd.fst.snd xx2.snd.snd.snd.fst.fst xx2.snd.snd.snd.fst.snd, B2 xx2.snd.snd.snd.fst.fst xx2.snd.snd.snd.fst.snd ((0 : Int), xx4.fst, N, N) ((0 : Int), xx5.fst, N, N), A2 xx2.snd.fst xx3, R2 xx3 ((2 : Int) * (↑N : Int)) ((↑N : Int) + (↑N : Int)) xx5.snd.fst (2 : Nat) xx5.snd.snd, I2 xx5.snd.fst xx5.snd.snd [(0 : Int), (1 : Int)], Y2 xx4.fst N ws, Y2 xx15.fst xx15.snd ws, row xb4 (5 : TypeId) [uv 1], ints (5 : TypeId) IntKind.u8 xx10 N ws, Y2 xx9 N zz, Y2 xx5.fst N zz, Y2 xx8.fst xx8.snd zz, Y2 xx7.fst xx7.snd ws, A, row xb3 (42 : TypeId) [iv 1, iv 0, iv (↑N : Int)], row xb2 (42 : TypeId) [iv 0, iv 0, iv (↑N : Int)]]) (fun _ => by kernel_rfl) (@hl0 ) (by kernel_rfl) (by kernel_rfl) (by kernel_rfl) fun xx15 xh17 => ?_)
        try dsimp only at xh17
        refine Xg.ops_op (by kernel_rfl) (Xg.opx_pure ((Value.tuple #[Value.slice xx15.fst ws.length xx15.snd, iv 0])) rfl (fun _ => by kernel_rfl) ?_)
        refine Xg.ops_op (by kernel_rfl) (Xg.opx_pure ((Value.slice xx15.fst ws.length xx15.snd)) rfl (fun _ => by kernel_rfl) ?_)
        refine Xg.ops_op (by kernel_rfl) (Xg.opx_pure ((iv 0)) rfl (fun _ => by kernel_rfl) ?_)
        refine Xg.ops_op (by kernel_rfl) (Xg.opx_pure ((Value.slice xx15.fst ws.length xx15.snd)) rfl (fun _ => by kernel_rfl) ?_)
        refine Xg.ops_op (by kernel_rfl) (Xg.opx_pure ((iv 0)) rfl (fun _ => by kernel_rfl) ?_)
        refine Xg.ops_nil ?_
        refine Xg.at_seq ?_
        refine Xg.at_region ?_
        refine Xg.ops_op (by kernel_rfl) (Xg.opx_pure ((iv 98)) rfl (fun _ => by kernel_rfl) ?_)
        refine Xg.ops_op (by kernel_rfl) (Xg.opx_pure ((Value.bool true)) rfl (fun _ => by kernel_rfl) ?_)
        refine Xg.ops_op (by kernel_rfl) (Xg.opx_pure ((Value.bool true)) rfl (fun _ => by kernel_rfl) ?_)
        refine Xg.ops_op (by kernel_rfl) (Xg.opx_pure ((iv 98)) rfl (fun _ => by kernel_rfl) ?_)
        refine Xg.ops_op (by kernel_rfl) (Xg.opx_pure ((Value.bool true)) rfl (fun _ => by kernel_rfl) ?_)
        refine Xg.ops_op (by kernel_rfl) (Xg.opx_pure ((Value.bool true)) rfl (fun _ => by kernel_rfl) ?_)
        refine Xg.ops_op (by kernel_rfl) (Xg.opx_pure ((Value.bool true)) rfl (fun _ => by kernel_rfl) ?_)
        refine Xg.ops_op (by kernel_rfl) (Xg.opx_pure ((iv 98)) rfl (fun _ => by kernel_rfl) ?_)
        refine Xg.ops_op (by kernel_rfl) (Xg.opx_pure ((Value.bool true)) rfl (fun _ => by kernel_rfl) ?_)
        refine Xg.ops_op (by kernel_rfl) (Xg.opx_pure ((Value.bool true)) rfl (fun _ => by kernel_rfl) ?_)
        refine Xg.ops_op (by kernel_rfl) (Xg.opx_pure ((Value.bool true)) rfl (fun _ => by kernel_rfl) ?_)
        refine Xg.ops_op (by kernel_rfl) (Xg.opx_pure ((iv 98)) rfl (fun _ => by kernel_rfl) ?_)
        refine Xg.ops_op (by kernel_rfl) (Xg.opx_pure ((Value.bool true)) rfl (fun _ => by kernel_rfl) ?_)
        refine Xg.ops_op (by kernel_rfl) (Xg.opx_pure ((Value.bool true)) rfl (fun _ => by kernel_rfl) ?_)
        refine Xg.ops_op (by kernel_rfl) (Xg.opx_pure ((Value.bool true)) rfl (fun _ => by kernel_rfl) ?_)
        refine Xg.ops_op (by kernel_rfl) (Xg.opx_pure ((iv 98)) rfl (fun _ => by kernel_rfl) ?_)
        refine Xg.ops_op (by kernel_rfl) (Xg.opx_pure ((Value.bool true)) rfl (fun _ => by kernel_rfl) ?_)
        refine Xg.ops_op (by kernel_rfl) (Xg.opx_pure ((Value.bool true)) rfl (fun _ => by kernel_rfl) ?_)
        refine Xg.ops_op (by kernel_rfl) (Xg.opx_pure ((Value.bool true)) rfl (fun _ => by kernel_rfl) ?_)
        refine Xg.ops_op (by kernel_rfl) (Xg.opx_pure ((iv 0)) rfl (fun _ => by kernel_rfl) ?_)
        refine Xg.ops_op (by kernel_rfl) (Xg.opx_pure ((Value.bool true)) rfl (fun _ => by kernel_rfl) ?_)
        refine Xg.ops_op (by kernel_rfl) (Xg.opx_pure ((Value.bool true)) rfl (fun _ => by kernel_rfl) ?_)
        refine Xg.ops_op (by kernel_rfl) (Xg.opx_pure ((Value.bool true)) rfl (fun _ => by kernel_rfl) ?_)
        refine Xg.ops_op (by kernel_rfl) (Xg.opx_pure ((Value.slice xx15.fst ws.length xx15.snd)) rfl (fun _ => by kernel_rfl) ?_)
        refine Xg.ops_op (by kernel_rfl) (Xg.opx_rd 6 (.string (Xg.St ws)) rfl (Xg.reads_own (E := ((5 : TypeId))) (sz := ((1 : Nat))) (n := ws.length) (c := xx15.snd) (a := xx15.fst) (vs := (List.map (Value.int IntKind.u8) ws))) (by kernel_rfl) (Xg.run_str_rd (e := 5) (a := xx15.fst) (n := ws.length) (c := xx15.snd) (xs := ws) (by kernel_rfl) (by kernel_rfl) (by kernel_rfl) (by kernel_rfl)) ?_)
        refine Xg.ops_op (by kernel_rfl) (Xg.opx_pure ((Value.slice xx10 ws.length N)) rfl (fun _ => by kernel_rfl) ?_)
        refine Xg.ops_op (by kernel_rfl) (Xg.opx_rd 8 (.string (Xg.St ws)) rfl (Xg.reads_own (E := ((5 : TypeId))) (sz := ((1 : Nat))) (n := ws.length) (c := N) (a := xx10) (vs := (List.map (Value.int IntKind.u8) ws))) (by kernel_rfl) (Xg.run_str_rd (e := 5) (a := xx10) (n := ws.length) (c := N) (xs := ws) (by kernel_rfl) (by kernel_rfl) (by kernel_rfl) (by kernel_rfl)) ?_)
        refine Xg.ops_op (by kernel_rfl) (Xg.opx_run (.bool true) rfl (Xg.run_str_same (xs := ws) (ys := ws) (by kernel_rfl) (by kernel_rfl) (by kernel_rfl) rfl) ?_)
        refine Xg.ops_op (by kernel_rfl) (Xg.opx_pure ((Value.bool true)) rfl (fun _ => by kernel_rfl) ?_)
        refine Xg.ops_op (by kernel_rfl) (Xg.opx_pure ((Value.bool true)) rfl (fun _ => by kernel_rfl) ?_)
        refine Xg.ops_nil ?_
        refine Xg.at_ret_ps (v := (Value.bool true)) [13] [A] Go.Proofs.Try.func5 (fun _ => by kernel_rfl) (by kernel_rfl) (by kernel_rfl) ?_
        exact ⟨by kernel_rfl, by kernel_rfl⟩)
      have h0 : sEq ws ws = false := by assumption
      rw [sEq_refl] at h0; cases h0
  · have h0 : sEq zz zz = false := by assumption
    rw [sEq_refl] at h0; cases h0
end Go.Proofs.Ytmplimmcjdkhlaa
