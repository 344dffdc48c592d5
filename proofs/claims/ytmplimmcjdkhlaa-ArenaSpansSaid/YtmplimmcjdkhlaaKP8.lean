/- The arena package: a class of two buffers: Open, take, lease, IndexFunc. -/
import Derived.Test.YtmplimmcjdkhlaaKP7
import Derived.Test.YtmplimmcjdkhlaaKS
namespace Go.Proofs.Ytmplimmcjdkhlaa
open Go.Sl Go.Xg
set_option linter.unusedVariables false
set_option linter.unusedSimpArgs false
set_option linter.unnecessarySimpa false
set_option maxHeartbeats 4000000
set_option maxRecDepth 100000

abbrev H2 (p ab : Nat) (ca : Option Addr) (cc : Nat) (ba : Option Addr) (bc : Nat) : HP := row p 94 [.slice ca 1 cc, .slice ba 2 bc, .slice (some ⟨ab, 0, none⟩) 1 1]
abbrev C2 (ca : Option Addr) (cc : Nat) (n : Int) (fa : Option Addr) (fl fc : Nat) : HP := recsO 98 3 clC ca cc [(n, fa, fl, fc)]
abbrev B2 (ba : Option Addr) (bc : Nat) (x y : Int × Option Addr × Nat × Nat) : HP := recsO 101 2 bfC ba bc [x, y]
abbrev A2 (ab r : Nat) : HP := row ab 102 [.pointer (some ⟨r, 0, none⟩)]
abbrev R2 (r : Nat) (q u : Int) (ta : Option Addr) (tl tc : Nat) : HP := row r 105 [.int .i64 q, .int .i64 u, .slice ta tl tc]
abbrev I2 (a : Option Addr) (c : Nat) (l : List Int) : HP := ints 3 .i64 a c l

theorem index1_d (ab : Nat) : Does Try.prog 38 [.slice (some ⟨ab, 0, none⟩) 1 1, .pointer none] [row ab 102 [.pointer none]] (Ret (.int .i64 0) [row ab 102 [.pointer none]]) := by
  (focus
    refine Xg.spec_of Go.Proofs.Try.func38 rfl Go.Proofs.Try.ntmps38 fun g F => ?_)
  (focus
    refine Xg.at_seq ?_
    refine Xg.at_region ?_
    refine Xg.ops_op (by kernel_rfl) (Xg.opx_pure ((iv 0)) rfl (fun _ => by kernel_rfl) ?_)
    refine Xg.ops_nil ?_
    refine Xg.at_seq ?_
    refine Xg.at_seq ?_
    refine Xg.at_region ?_
    refine Xg.ops_op (by kernel_rfl) (Xg.opx_pure ((Value.slice (some (Addr.mk ab (0 : Nat) none)) (1 : Nat) (1 : Nat))) rfl (fun _ => by kernel_rfl) ?_)
    refine Xg.ops_op (by kernel_rfl) (Xg.opx_pure ((iv 1)) rfl (fun _ => by kernel_rfl) ?_)
    refine Xg.ops_op (by kernel_rfl) (Xg.opx_pure ((iv 0)) rfl (fun _ => by kernel_rfl) ?_)
    refine Xg.ops_nil ?_
    refine Xg.at_block ?_
    refine Xg.at_loop ?_
    refine Xg.at_seq ?_
    refine Xg.at_region ?_
    refine Xg.ops_op (by kernel_rfl) (Xg.opx_pure ((Value.bool true)) rfl (fun _ => by kernel_rfl) ?_)
    refine Xg.ops_nil ?_
    refine Xg.at_seq ?_
    refine Xg.at_true (t := true) (by kernel_rfl) rfl ?_
    refine Xg.at_skip ?_
    refine Xg.at_seq ?_
    refine Xg.at_block ?_
    refine Xg.at_seq ?_
    refine Xg.at_region ?_
    refine Xg.ops_op (by kernel_rfl) (Xg.opx_pure ((iv 0)) rfl (fun _ => by kernel_rfl) ?_)
    refine Xg.ops_op (by kernel_rfl) (Xg.opx_pure ((iv 0)) rfl (fun _ => by kernel_rfl) ?_)
    refine Xg.ops_nil ?_
    refine Xg.at_seq ?_
    refine Xg.at_region ?_
    refine Xg.ops_op (by kernel_rfl) (Xg.opx_pure ((Value.pointer none)) rfl (fun _ => by kernel_rfl) ?_)
    refine Xg.ops_op (by kernel_rfl) (Xg.opx_pure ((Value.slice (some (Addr.mk ab (0 : Nat) none)) (1 : Nat) (1 : Nat))) rfl (fun _ => by kernel_rfl) ?_)
    refine Xg.ops_op (by kernel_rfl) (Xg.opx_pure ((iv 0)) rfl (fun _ => by kernel_rfl) ?_)
    refine Xg.ops_op (by kernel_rfl) (Xg.opx_pure (pv ab 0) rfl (fun _ => by kernel_rfl) ?_)
    refine Xg.ops_op (by kernel_rfl) (Xg.opx_load (b := ab) (off := ((0 : Nat))) 0 (Value.pointer none) rfl (by kernel_rfl) (by kernel_rfl) (by kernel_rfl) ?_)
    refine Xg.ops_op (by kernel_rfl) (Xg.opx_pure ((Value.bool true)) rfl (fun _ => by kernel_rfl) ?_)
    refine Xg.ops_nil ?_
    refine Xg.at_true (t := true) (by kernel_rfl) rfl ?_
    refine Xg.at_seq ?_
    refine Xg.at_region ?_
    refine Xg.ops_op (by kernel_rfl) (Xg.opx_pure ((iv 0)) rfl (fun _ => by kernel_rfl) ?_)
    refine Xg.ops_op (by kernel_rfl) (Xg.opx_pure ((iv 0)) rfl (fun _ => by kernel_rfl) ?_)
    refine Xg.ops_nil ?_
    refine Xg.at_ret_ps (v := (iv 0)) [0] [row ab (102 : TypeId) [Value.pointer none]] Go.Proofs.Try.func38 (fun _ => by kernel_rfl) (by kernel_rfl) (by kernel_rfl) ?_
    exact ⟨by kernel_rfl, by kernel_rfl⟩)
theorem open1_d (p ab : Nat) (ca : Option Addr) (cc : Nat) (ba : Option Addr) (bc : Nat) (q : Int) (hq : 0 ≤ q) : Does Try.prog 16 [.pointer (some ⟨p, 0, none⟩), .int .i64 q] [H2 p ab ca cc ba bc, row ab 102 [.pointer none]]
    (RetE (fun r : Nat => True) (fun _ => .tuple #[.int .i64 0, .int .i64 0]) (fun r => [H2 p ab ca cc ba bc, A2 ab r, R2 r q 0 none 0 0])) := by
  have h := index1_d ab
  (focus
    refine Xg.spec_of Go.Proofs.Try.func16 rfl Go.Proofs.Try.ntmps16 fun g F => ?_)
  (focus
    refine Xg.at_seq ?_
    refine Xg.at_region ?_
    refine Xg.ops_op (by kernel_rfl) (Xg.opx_pure ((iv 0)) rfl (fun _ => by kernel_rfl) ?_)
    refine Xg.ops_op (by kernel_rfl) (Xg.opx_pure ((iv 0)) rfl (fun _ => by kernel_rfl) ?_)
    refine Xg.ops_nil ?_
    refine Xg.at_seq ?_
    refine Xg.at_seq ?_
    refine Xg.at_region ?_
    refine Xg.ops_op (by kernel_rfl) (Xg.opx_pure ((iv q)) rfl (fun _ => by kernel_rfl) ?_)
    refine Xg.ops_op (by kernel_rfl) (Xg.opx_pure (.bool (decide ((q : Int) < ((0 : Int))))) rfl (fun _ => by kernel_rfl) ?_)
    refine Xg.ops_nil ?_
    refine Xg.at_false (t := decide ((q < (0 : Int)))) (by kernel_rfl) (decide_eq_false (by omega)) ?_
    refine Xg.at_skip ?_
    refine Xg.at_seq ?_
    refine Xg.at_region ?_
    refine Xg.ops_op (by kernel_rfl) (Xg.opx_pure ((pv p 0)) rfl (fun _ => by kernel_rfl) ?_)
    refine Xg.ops_op (by kernel_rfl) (Xg.opx_pure ((pv p 0)) rfl (fun _ => by kernel_rfl) ?_)
    refine Xg.ops_op (by kernel_rfl) (Xg.opx_pure ((pv p 2)) rfl (fun _ => by kernel_rfl) ?_)
    refine Xg.ops_op (by kernel_rfl) (Xg.opx_load (b := p) (off := ((2 : Nat))) 0 (Value.slice (some (Addr.mk ab (0 : Nat) none)) (1 : Nat) (1 : Nat)) rfl (by kernel_rfl) (by kernel_rfl) (by kernel_rfl) ?_)
    refine Xg.ops_op (by kernel_rfl) (Xg.opx_call1' [1] [row ab (102 : TypeId) [Value.pointer none], H2 p ab ca cc ba bc] (fun _ => by kernel_rfl) (@h ) (by kernel_rfl) (by kernel_rfl) (by kernel_rfl) ?_)
    refine Xg.ops_op (by kernel_rfl) (Xg.opx_pure ((iv 0)) rfl (fun _ => by kernel_rfl) ?_)
    refine Xg.ops_nil ?_
    refine Xg.at_seq ?_
    refine Xg.at_seq ?_
    refine Xg.at_region ?_
    refine Xg.ops_op (by kernel_rfl) (Xg.opx_pure ((iv 0)) rfl (fun _ => by kernel_rfl) ?_)
    refine Xg.ops_op (by kernel_rfl) (Xg.opx_pure ((Value.bool false)) rfl (fun _ => by kernel_rfl) ?_)
    refine Xg.ops_nil ?_
    refine Xg.at_false (t := false) (by kernel_rfl) rfl ?_
    refine Xg.at_skip ?_
    refine Xg.at_seq ?_
    refine Xg.at_region ?_
    refine Xg.ops_op (by kernel_rfl) (Xg.opx_pure ((pv p 0)) rfl (fun _ => by kernel_rfl) ?_)
    refine Xg.ops_op (by kernel_rfl) (Xg.opx_pure ((pv p 0)) rfl (fun _ => by kernel_rfl) ?_)
    refine Xg.ops_op (by kernel_rfl) (Xg.opx_pure ((pv p 2)) rfl (fun _ => by kernel_rfl) ?_)
    refine Xg.ops_op (by kernel_rfl) (Xg.opx_load (b := p) (off := ((2 : Nat))) 1 (Value.slice (some (Addr.mk ab (0 : Nat) none)) (1 : Nat) (1 : Nat)) rfl (by kernel_rfl) (by kernel_rfl) (by kernel_rfl) ?_)
    refine Xg.ops_op (by kernel_rfl) (Xg.opx_pure ((iv 0)) rfl (fun _ => by kernel_rfl) ?_)
    refine Xg.ops_op (by kernel_rfl) (Xg.opx_pure ((iv q)) rfl (fun _ => by kernel_rfl) ?_)
    refine Xg.ops_op (by kernel_rfl) (Xg.opx_pure ((Value.agg #[iv q, iv 0, Value.slice none (0 : Nat) (0 : Nat)])) rfl (fun _ => by kernel_rfl) ?_)
    refine Xg.ops_op (by kernel_rfl) (Xg.opx_box (v := (Value.agg #[iv q, iv 0, Value.slice none (0 : Nat) (0 : Nat)])) [iv q, iv 0, Value.slice none (0 : Nat) (0 : Nat)] (by kernel_rfl) (by kernel_rfl) fun xb1 => ?_)
    refine Xg.ops_op (by kernel_rfl) (Xg.opx_pure (pv ab 0) rfl (fun _ => by kernel_rfl) ?_)
    refine Xg.ops_op (by kernel_rfl) (Xg.opx_store1 (off := 0) 1 (pv xb1 0) (by kernel_rfl) rfl (by kernel_rfl) (by kernel_rfl) (by kernel_rfl) (Nat.le_of_ble_eq_true (by kernel_rfl)) ?_)
    refine Xg.ops_nil ?_
    refine Xg.at_seq ?_
    refine Xg.at_region ?_
    refine Xg.ops_op (by kernel_rfl) (Xg.opx_pure ((iv 0)) rfl (fun _ => by kernel_rfl) ?_)
    refine Xg.ops_op (by kernel_rfl) (Xg.opx_pure ((iv 0)) rfl (fun _ => by kernel_rfl) ?_)
    refine Xg.ops_op (by kernel_rfl) (Xg.opx_pure ((iv 0)) rfl (fun _ => by kernel_rfl) ?_)
    refine Xg.ops_nil ?_
    refine Xg.at_ret_ps (v := (Value.tuple #[iv 0, iv 0])) [2, 1, 0] [H2 p ab ca cc ba bc, row ab (102 : TypeId) [pv xb1 0], row xb1 (105 : Nat) [iv q, iv 0, Value.slice none (0 : Nat) (0 : Nat)]] Go.Proofs.Try.func16 (fun _ => by kernel_rfl) (by kernel_rfl) (by kernel_rfl) ?_
    refine ⟨xb1, trivial, by kernel_rfl, by kernel_rfl⟩)
theorem of1_d (p ab r : Nat) (ca : Option Addr) (cc : Nat) (ba : Option Addr) (bc : Nat) : Does Try.prog 36 [.pointer (some ⟨p, 0, none⟩), .int .i64 0] [H2 p ab ca cc ba bc, A2 ab r] (Ret (.pointer (some ⟨r, 0, none⟩)) [H2 p ab ca cc ba bc, A2 ab r]) := by
  (focus
    refine Xg.spec_of Go.Proofs.Try.func36 rfl Go.Proofs.Try.ntmps36 fun g F => ?_)
  (focus
    refine Xg.at_seq ?_
    refine Xg.at_region ?_
    refine Xg.ops_op (by kernel_rfl) (Xg.opx_pure ((Value.pointer none)) rfl (fun _ => by kernel_rfl) ?_)
    refine Xg.ops_nil ?_
    refine Xg.at_seq ?_
    refine Xg.at_seq ?_
    refine Xg.at_region ?_
    refine Xg.ops_op (by kernel_rfl) (Xg.opx_pure ((iv 0)) rfl (fun _ => by kernel_rfl) ?_)
    refine Xg.ops_op (by kernel_rfl) (Xg.opx_pure ((Value.bool false)) rfl (fun _ => by kernel_rfl) ?_)
    refine Xg.ops_op (by kernel_rfl) (Xg.opx_pure ((Value.bool false)) rfl (fun _ => by kernel_rfl) ?_)
    refine Xg.ops_op (by kernel_rfl) (Xg.opx_pure ((iv 0)) rfl (fun _ => by kernel_rfl) ?_)
    refine Xg.ops_op (by kernel_rfl) (Xg.opx_pure ((pv p 0)) rfl (fun _ => by kernel_rfl) ?_)
    refine Xg.ops_op (by kernel_rfl) (Xg.opx_pure ((pv p 0)) rfl (fun _ => by kernel_rfl) ?_)
    refine Xg.ops_op (by kernel_rfl) (Xg.opx_pure ((pv p 2)) rfl (fun _ => by kernel_rfl) ?_)
    refine Xg.ops_op (by kernel_rfl) (Xg.opx_load (b := p) (off := ((2 : Nat))) 0 (Value.slice (some (Addr.mk ab (0 : Nat) none)) (1 : Nat) (1 : Nat)) rfl (by kernel_rfl) (by kernel_rfl) (by kernel_rfl) ?_)
    refine Xg.ops_op (by kernel_rfl) (Xg.opx_pure ((iv 1)) rfl (fun _ => by kernel_rfl) ?_)
    refine Xg.ops_op (by kernel_rfl) (Xg.opx_pure ((Value.bool false)) rfl (fun _ => by kernel_rfl) ?_)
    refine Xg.ops_op (by kernel_rfl) (Xg.opx_pure ((Value.bool false)) rfl (fun _ => by kernel_rfl) ?_)
    refine Xg.ops_nil ?_
    refine Xg.at_false (t := false) (by kernel_rfl) rfl ?_
    refine Xg.at_skip ?_
    refine Xg.at_seq ?_
    refine Xg.at_region ?_
    refine Xg.ops_op (by kernel_rfl) (Xg.opx_pure ((pv p 0)) rfl (fun _ => by kernel_rfl) ?_)
    refine Xg.ops_op (by kernel_rfl) (Xg.opx_pure ((pv p 0)) rfl (fun _ => by kernel_rfl) ?_)
    refine Xg.ops_op (by kernel_rfl) (Xg.opx_pure ((pv p 2)) rfl (fun _ => by kernel_rfl) ?_)
    refine Xg.ops_op (by kernel_rfl) (Xg.opx_load (b := p) (off := ((2 : Nat))) 0 (Value.slice (some (Addr.mk ab (0 : Nat) none)) (1 : Nat) (1 : Nat)) rfl (by kernel_rfl) (by kernel_rfl) (by kernel_rfl) ?_)
    refine Xg.ops_op (by kernel_rfl) (Xg.opx_pure ((iv 0)) rfl (fun _ => by kernel_rfl) ?_)
    refine Xg.ops_op (by kernel_rfl) (Xg.opx_pure (pv ab 0) rfl (fun _ => by kernel_rfl) ?_)
    refine Xg.ops_op (by kernel_rfl) (Xg.opx_load (b := ab) (off := ((0 : Nat))) 1 (pv r 0) rfl (by kernel_rfl) (by kernel_rfl) (by kernel_rfl) ?_)
    refine Xg.ops_op (by kernel_rfl) (Xg.opx_pure ((pv r 0)) rfl (fun _ => by kernel_rfl) ?_)
    refine Xg.ops_nil ?_
    refine Xg.at_ret_ps (v := (pv r 0)) [0, 1] [H2 p ab ca cc ba bc, A2 ab r] Go.Proofs.Try.func36 (fun _ => by kernel_rfl) (by kernel_rfl) (by kernel_rfl) ?_
    exact ⟨by kernel_rfl, by kernel_rfl⟩)
theorem sizeT_d (b : Nat) (X : HP) (s n : Int) (a : Option Addr) (l c : Nat) : Does Try.prog 40 [.agg #[.int .i64 n, .slice a l c, fnO], .pointer (some ⟨b, 0, none⟩)] [X, row b 3 [.int .i64 s]] (Ret (.bool (decide (n ≥ s))) [X, row b 3 [.int .i64 s]]) := by
  (focus
    refine Xg.spec_of Go.Proofs.Try.func40 rfl Go.Proofs.Try.ntmps40 fun g F => ?_)
  (focus
    refine Xg.at_seq ?_
    refine Xg.at_region ?_
    refine Xg.ops_op (by kernel_rfl) (Xg.opx_box (v := (Value.agg #[iv n, Value.slice a l c, Value.func (Fn.func (34 : Nat)) #[] #[]])) [iv n, Value.slice a l c, Value.func (Fn.func (34 : Nat)) #[] #[]] (by kernel_rfl) (by kernel_rfl) fun xb1 => ?_)
    refine Xg.ops_op (by kernel_rfl) (Xg.opx_pure ((Value.bool false)) rfl (fun _ => by kernel_rfl) ?_)
    refine Xg.ops_nil ?_
    refine Xg.at_seq ?_
    refine Xg.at_region ?_
    refine Xg.ops_op (by kernel_rfl) (Xg.opx_pure ((pv xb1 0)) rfl (fun _ => by kernel_rfl) ?_)
    refine Xg.ops_op (by kernel_rfl) (Xg.opx_load (b := xb1) (off := ((0 : Nat))) 0 (iv n) rfl (by kernel_rfl) (by kernel_rfl) (by kernel_rfl) ?_)
    refine Xg.ops_op (by kernel_rfl) (Xg.opx_load (b := b) (off := ((0 : Nat))) 2 (iv s) rfl (by kernel_rfl) (by kernel_rfl) (by kernel_rfl) ?_)
    refine Xg.ops_op (by kernel_rfl) (Xg.opx_pure (.bool (decide ((n : Int) ≥ s))) rfl (fun _ => by kernel_rfl) ?_)
    refine Xg.ops_op (by kernel_rfl) (Xg.opx_pure ((Value.bool (decide (n ≥ s)))) rfl (fun _ => by kernel_rfl) ?_)
    refine Xg.ops_nil ?_
    refine Xg.at_ret_ps (v := (Value.bool (decide (n ≥ s)))) [1, 2] [X, row b (3 : TypeId) [iv s]] Go.Proofs.Try.func40 (fun _ => by kernel_rfl) (by kernel_rfl) (by kernel_rfl) ?_
    exact ⟨by kernel_rfl, by kernel_rfl⟩)
theorem idx_d (b : Nat) (ca : Option Addr) (cc : Nat) (n s : Int) (fa : Option Addr) (fl fc : Nat) (hs : s ≤ n) : Does Try.prog 39 [.slice ca 1 cc, .func (.func 40) #[] #[.pointer (some ⟨b, 0, none⟩)]] [C2 ca cc n fa fl fc, row b 3 [.int .i64 s]]
    (Ret (.int .i64 0) [C2 ca cc n fa fl fc, row b 3 [.int .i64 s]]) := by
  have hE : Go.Proofs.Enters Try.prog 40 := enters_of Try.func40 (by kernel_rfl) rfl
  have hl1 : ([(n, fa, fl, fc)] : List (Int × Option Addr × Nat × Nat)).length = 1 := rfl
  have ht := sizeT_d b (C2 ca cc n fa fl fc) s n fa fl fc
  rw [decide_eq_true (show n ≥ s from hs)] at ht
  (focus
    refine Xg.spec_of Go.Proofs.Try.func39 rfl Go.Proofs.Try.ntmps39 fun g F => ?_)
  (focus
    refine Xg.at_seq ?_
    refine Xg.at_region ?_
    refine Xg.ops_op (by kernel_rfl) (Xg.opx_pure ((iv 0)) rfl (fun _ => by kernel_rfl) ?_)
    refine Xg.ops_nil ?_
    refine Xg.at_seq ?_
    refine Xg.at_seq ?_
    refine Xg.at_region ?_
    refine Xg.ops_op (by kernel_rfl) (Xg.opx_pure ((Value.slice ca (1 : Nat) cc)) rfl (fun _ => by kernel_rfl) ?_)
    refine Xg.ops_op (by kernel_rfl) (Xg.opx_pure ((iv 1)) rfl (fun _ => by kernel_rfl) ?_)
    refine Xg.ops_op (by kernel_rfl) (Xg.opx_pure ((iv 0)) rfl (fun _ => by kernel_rfl) ?_)
    refine Xg.ops_nil ?_
    refine Xg.at_block ?_
    refine Xg.at_loop ?_
    refine Xg.at_seq ?_
    refine Xg.at_region ?_
    refine Xg.ops_op (by kernel_rfl) (Xg.opx_pure ((Value.bool true)) rfl (fun _ => by kernel_rfl) ?_)
    refine Xg.ops_nil ?_
    refine Xg.at_seq ?_
    refine Xg.at_true (t := true) (by kernel_rfl) rfl ?_
    refine Xg.at_skip ?_
    refine Xg.at_seq ?_
    refine Xg.at_block ?_
    refine Xg.at_seq ?_
    refine Xg.at_region ?_
    refine Xg.ops_op (by kernel_rfl) (Xg.opx_pure ((iv 0)) rfl (fun _ => by kernel_rfl) ?_)
    refine Xg.ops_op (by kernel_rfl) (Xg.opx_pure ((iv 0)) rfl (fun _ => by kernel_rfl) ?_)
    refine Xg.ops_nil ?_
    refine Xg.at_seq ?_
    refine Xg.at_region ?_
    refine Xg.ops_op (by kernel_rfl) (Xg.opx_pure ((Value.func (Fn.func (40 : Nat)) #[] #[pv b 0])) rfl (fun _ => by kernel_rfl) ?_)
    refine Xg.ops_op (by kernel_rfl) (Xg.opx_pure ((Value.slice ca (1 : Nat) cc)) rfl (fun _ => by kernel_rfl) ?_)
    refine Xg.ops_op (by kernel_rfl) (Xg.opx_pure ((iv 0)) rfl (fun _ => by kernel_rfl) ?_)
    refine Xg.ops_op (by kernel_rfl) (Xg.opx_ix_own (elem := 98) (kd := .i64) (e := ((0 : Int))) 0 3 ((0 : Nat)) ((0 : Nat)) rfl (by kernel_rfl) (by kernel_rfl) (by kernel_rfl) (by kernel_rfl) rfl (by omega) (by omega) ?_)
    refine Xg.ops_op (by kernel_rfl) (Xg.opx_loadn_own (a := ca) (off := ((0 : Nat))) 3 0 [iv n, Value.slice fa fl fc, Value.func (Fn.func (34 : Nat)) #[] #[]] (by kernel_rfl) rfl (by kernel_rfl) rfl (Xg.recs_at' (wd := 3) (fun _ => rfl) default ((0 : Nat)) (by omega) (by omega) (by kernel_rfl)) (by kernel_rfl) ?_))
  refine Xg.ops_op (by kernel_rfl) (Xg.opx_call1' (args := [.agg #[.int .i64 n, .slice fa fl fc, fnO], .pointer (some ⟨b, 0, none⟩)]) [0, 1] [C2 ca cc n fa fl fc, row b 3 [.int .i64 s]] (fun w => Eq.trans (b := Sem.run Try.prog (callFunc 40 #[.agg #[.int .i64 n, .slice fa fl fc, fnO], .pointer (some ⟨b, 0, none⟩)]) w) (by kernel_rfl) (hE _ w)) ht (by kernel_rfl) rfl rfl ?_)
  (focus
    refine Xg.ops_nil ?_
    refine Xg.at_true (t := true) (by kernel_rfl) rfl ?_
    refine Xg.at_seq ?_
    refine Xg.at_region ?_
    refine Xg.ops_op (by kernel_rfl) (Xg.opx_pure ((iv 0)) rfl (fun _ => by kernel_rfl) ?_)
    refine Xg.ops_op (by kernel_rfl) (Xg.opx_pure ((iv 0)) rfl (fun _ => by kernel_rfl) ?_)
    refine Xg.ops_nil ?_
    refine Xg.at_ret_ps (v := (iv 0)) [0, 1] [C2 ca cc n fa fl fc, row b (3 : TypeId) [iv s]] Go.Proofs.Try.func39 (fun _ => by kernel_rfl) (by kernel_rfl) (by kernel_rfl) ?_
    exact ⟨by kernel_rfl, by kernel_rfl⟩)

theorem deli0_d (a : Option Addr) (c : Nat) (xs : List Int) (i : Nat) (hi : i < xs.length) : Does Try.prog 46 [.slice a xs.length c, .int .i64 (i : Nat), .int .i64 ((i : Int) + 1)] [I2 a c xs]
    (Ret (.slice a (xs.length - 1) c) [ownS 3 1 (.slice a (xs.length - 1) c) (xs.length - 1) ((xs.eraseIdx i).map (Value.int .i64))]) := by
  (focus
    refine Xg.spec_of Go.Proofs.Try.func46 rfl Go.Proofs.Try.ntmps46 fun g F => ?_)
  refine Xg.at_own 0 rfl fun h1 h2 _ _ => ?_
  have hm : xs.length ≤ maxLen := Nat.le_trans h1 h2
  unfold maxLen at hm h2
  (focus
    refine Xg.at_seq ?_
    refine Xg.at_region ?_
    refine Xg.ops_op (by kernel_rfl) (Xg.opx_pure ((Value.slice none (0 : Nat) (0 : Nat))) rfl (fun _ => by kernel_rfl) ?_)
    refine Xg.ops_nil ?_
    refine Xg.at_seq ?_
    refine Xg.at_region ?_
    refine Xg.ops_op (by kernel_rfl) (Xg.opx_pure ((Value.slice a xs.length c)) rfl (fun _ => by kernel_rfl) ?_)
    refine Xg.ops_op (by kernel_rfl) (Xg.opx_pure ((iv (↑i : Int))) rfl (fun _ => by kernel_rfl) ?_)
    refine Xg.ops_op (by kernel_rfl) (Xg.opx_pure ((iv ((↑i : Int) + (1 : Int)))) rfl (fun _ => by kernel_rfl) ?_)
    refine Xg.ops_op (by kernel_rfl) (Xg.opx_pure ((Value.slice a xs.length c)) rfl (fun _ => by kernel_rfl) ?_)
    refine Xg.ops_op (by kernel_rfl) (Xg.opx_pure ((iv (↑xs.length : Int))) rfl (fun _ => by kernel_rfl) ?_)
    refine Xg.ops_op (by kernel_rfl) (Xg.opx_run (.slice (Xg.subA a xs.length i 1) ((((↑i : Int) + (1 : Int)).toNat) - i) (xs.length - i)) rfl (Xg.run_sl3 (elem := 3) (a := a) (c := c) (len := xs.length) (k1 := .i64) (k2 := .i64) (k3 := .i64) (e1 := ((↑i : Int))) (e2 := ((↑i : Int) + (1 : Int))) (e3 := ((↑xs.length : Int))) 1 i (((↑i : Int) + (1 : Int)).toNat) xs.length (by kernel_rfl) (by kernel_rfl) (by kernel_rfl) (by kernel_rfl) (by kernel_rfl) (by kernel_rfl) rfl (by omega) rfl (by omega) (by omega) (by omega)) ?_)
    refine Xg.ops_nil ?_
    refine Xg.at_seq ?_
    refine Xg.at_seq ?_
    refine Xg.at_region ?_
    refine Xg.ops_op (by kernel_rfl) (Xg.opx_pure ((iv (↑i : Int))) rfl (fun _ => by kernel_rfl) ?_)
    refine Xg.ops_op (by kernel_rfl) (Xg.opx_pure ((iv ((↑i : Int) + (1 : Int)))) rfl (fun _ => by kernel_rfl) ?_)
    refine Xg.ops_op (by kernel_rfl) (Xg.opx_pure (.bool (decide ((((↑i : Int)) : Int) = ((↑i : Int) + (1 : Int))))) rfl (fun _ => by kernel_rfl) ?_)
    refine Xg.ops_nil ?_
    refine Xg.at_false (t := decide (((↑i : Int) = (↑i : Int) + (1 : Int)))) (by kernel_rfl) (decide_eq_false (by omega)) ?_
    refine Xg.at_skip ?_
    refine Xg.at_seq ?_
    refine Xg.at_region ?_
    refine Xg.ops_op (by kernel_rfl) (Xg.opx_pure ((Value.slice a xs.length c)) rfl (fun _ => by kernel_rfl) ?_)
    refine Xg.ops_op (by kernel_rfl) (Xg.opx_pure ((iv (↑xs.length : Int))) rfl (fun _ => by kernel_rfl) ?_)
    refine Xg.ops_op (by kernel_rfl) (Xg.opx_pure ((iv (↑xs.length : Int))) rfl (fun _ => by kernel_rfl) ?_)
    refine Xg.ops_nil ?_
    refine Xg.at_seq ?_
    refine Xg.at_draw [6] [] (by kernel_rfl) ?_
    refine Xg.any_pure ((Value.slice a xs.length c)) 0 (by kernel_rfl) rfl (by kernel_rfl) (by kernel_rfl) (by kernel_rfl) (by kernel_rfl) rfl (fun _ => by kernel_rfl) ?_
    refine Xg.any_pure ((iv (↑i : Int))) 1 (by kernel_rfl) rfl (by kernel_rfl) (by kernel_rfl) (by kernel_rfl) (by kernel_rfl) rfl (fun _ => by kernel_rfl) ?_
    refine Xg.any_pure (.slice a i c) 2 (by kernel_rfl) rfl (by kernel_rfl) (by kernel_rfl) (by kernel_rfl) (by kernel_rfl) rfl (Xg.run_sl_hi (elem := 3) (a := a) (c := c) (len := xs.length) (k2 := .i64) (e2 := ((↑i : Int))) 1 i (by kernel_rfl) (by kernel_rfl) (by kernel_rfl) (by kernel_rfl) rfl (by omega)) ?_
    refine Xg.any_pure ((Value.slice a xs.length c)) 3 (by kernel_rfl) rfl (by kernel_rfl) (by kernel_rfl) (by kernel_rfl) (by kernel_rfl) rfl (fun _ => by kernel_rfl) ?_
    refine Xg.any_pure ((iv ((↑i : Int) + (1 : Int)))) 4 (by kernel_rfl) rfl (by kernel_rfl) (by kernel_rfl) (by kernel_rfl) (by kernel_rfl) rfl (fun _ => by kernel_rfl) ?_
    refine Xg.any_pure (.slice (Xg.subA a c (((↑i : Int) + (1 : Int)).toNat) 1) (xs.length - (((↑i : Int) + (1 : Int)).toNat)) (c - (((↑i : Int) + (1 : Int)).toNat))) 5 (by kernel_rfl) rfl (by kernel_rfl) (by kernel_rfl) (by kernel_rfl) (by kernel_rfl) rfl (Xg.run_sl_lo (elem := 3) (a := a) (c := c) (len := xs.length) (k1 := .i64) (e1 := ((↑i : Int) + (1 : Int))) 1 (((↑i : Int) + (1 : Int)).toNat) (by kernel_rfl) (by kernel_rfl) (by kernel_rfl) (by kernel_rfl) (by omega) (by omega)) ?_)
  refine Xg.any_each [6] (by kernel_rfl) rfl ⟨?_, trivial⟩
  refine Xg.comes_act rfl (by kernel_rfl) (by kernel_rfl) (Xg.opx_append_in (elem := 3) (n := xs.length) (c := c) (l := i) (m := xs.length - ((i : Int) + 1).toNat) (news := (((xs.map (Value.int .i64)).drop (((i : Int) + 1).toNat * 1)).take ((xs.length - ((i : Int) + 1).toNat) * 1))) (xs.length - 1) 0 1 (by omega) rfl (by kernel_rfl) (by kernel_rfl) (by kernel_rfl) (by kernel_rfl) (fun w hS => reads_rd (reads_part ((i : Int) + 1).toNat xs.length (by omega) (Nat.le_refl _)) 0 rfl hS) (fun u hu => by obtain ⟨z, _, rfl⟩ := List.mem_map.1 (List.mem_of_mem_drop (List.mem_of_mem_take hu)); rfl) (by omega) (by omega) ?_)
  refine Xg.acts Xg.owes_nil ?_
  (focus
    refine Xg.any_pure ((Value.slice a (xs.length - (1 : Nat)) c)) 7 (by kernel_rfl) rfl (by kernel_rfl) (by kernel_rfl) (by kernel_rfl) (by kernel_rfl) rfl (fun _ => by kernel_rfl) ?_
    refine Xg.any_nil (by kernel_rfl) ?_
    refine Xg.at_seq ?_
    refine Xg.at_region ?_
    refine Xg.ops_op (by kernel_rfl) (Xg.opx_pure ((Value.slice a (xs.length - (1 : Nat)) c)) rfl (fun _ => by kernel_rfl) ?_)
    refine Xg.ops_op (by kernel_rfl) (Xg.opx_pure ((Value.slice a (xs.length - (1 : Nat)) c)) rfl (fun _ => by kernel_rfl) ?_)
    refine Xg.ops_op (by kernel_rfl) (Xg.opx_pure ((iv (↑(xs.length - (1 : Nat)) : Int))) rfl (fun _ => by kernel_rfl) ?_)
    refine Xg.ops_op (by kernel_rfl) (Xg.opx_pure ((iv (↑xs.length : Int))) rfl (fun _ => by kernel_rfl) ?_)
    refine Xg.ops_op (by kernel_rfl) (Xg.opx_run (.slice (Xg.subA a c (xs.length - (1 : Nat)) 1) (xs.length - (xs.length - (1 : Nat))) (c - (xs.length - (1 : Nat)))) rfl (Xg.run_sl (elem := 3) (a := a) (c := c) (len := (xs.length - (1 : Nat))) (k1 := .i64) (k2 := .i64) (e1 := ((↑(xs.length - (1 : Nat)) : Int))) (e2 := ((↑xs.length : Int))) 1 (xs.length - (1 : Nat)) xs.length (by kernel_rfl) (by kernel_rfl) (by kernel_rfl) (by kernel_rfl) (by kernel_rfl) rfl rfl (by omega) (by omega)) ?_))
  refine Xg.ops_op (by kernel_rfl) (Xg.opx_clear_in (elem := 3) (n := xs.length) (c := c) (l := xs.length - 1) (m := xs.length - (xs.length - 1)) (c' := c - (xs.length - 1)) 0 1 rfl (by kernel_rfl) (by kernel_rfl) (by kernel_rfl) (by kernel_rfl) (by omega) (by omega) fun zs hz => ?_)
  simp only [Nat.mul_one]
  rw [← List.map_take, ← List.map_drop, ← List.map_take, ← List.map_drop, ← List.map_append, ← List.map_append, ← List.map_take, show ((i : Int) + 1).toNat = i + 1 from by omega]
  rw [show (xs.take i ++ (xs.drop (i + 1)).take (xs.length - (i + 1)) ++ xs.drop (i + (xs.length - (i + 1)))).take (xs.length - 1) = xs.eraseIdx i from by
    rw [List.eraseIdx_eq_take_drop_succ, List.take_of_length_le (l := xs.drop (i + 1)) (by simp), List.take_append_of_le_length (by simp; omega), List.take_of_length_le (by simp; omega)]]
  refine Xg.ops_nil ?_
  refine Xg.at_shrink (m := xs.length - 1) 0 rfl (by omega) (by rw [List.length_map, List.length_eraseIdx, if_pos hi, Nat.mul_one]) ?_
  (focus
    refine Xg.at_seq ?_
    refine Xg.at_region ?_
    refine Xg.ops_op (by kernel_rfl) (Xg.opx_pure ((Value.slice a (xs.length - (1 : Nat)) c)) rfl (fun _ => by kernel_rfl) ?_)
    refine Xg.ops_op (by kernel_rfl) (Xg.opx_pure ((Value.slice a (xs.length - (1 : Nat)) c)) rfl (fun _ => by kernel_rfl) ?_)
    refine Xg.ops_nil ?_
    refine Xg.at_ret_ps (v := (Value.slice a (xs.length - (1 : Nat)) c)) [0] [ownS (3 : TypeId) (1 : Nat) (Value.slice a (xs.length - (1 : Nat)) c) (xs.length - (1 : Nat)) (List.map (Value.int IntKind.i64) (xs.eraseIdx i))] Go.Proofs.Try.func46 (fun _ => by kernel_rfl) (by kernel_rfl) (by kernel_rfl) ?_
    exact ⟨by kernel_rfl, by kernel_rfl⟩)
theorem deli_d (a : Option Addr) (c : Nat) (xs : List Int) (i : Nat) (hi : i < xs.length) : Does Try.prog 46 [.slice a xs.length c, .int .i64 (i : Nat), .int .i64 ((i : Int) + 1)] [I2 a c xs]
    (Ret (.slice a (xs.eraseIdx i).length c) [I2 a c (xs.eraseIdx i)]) := by
  have h := deli0_d a c xs i hi
  have e : (xs.eraseIdx i).length = xs.length - 1 := by rw [List.length_eraseIdx, if_pos hi]
  unfold I2 Xg.ints
  rwa [e]

/-- take the first one. -/
theorem take_d (ca : Option Addr) (cc : Nat) (n : Int) (fa : Option Addr) (fc : Nat) (v : Int) (l : List Int) : Does Try.prog 41 [.pointer (some ⟨blk ca, 1, none⟩), .int .i64 0] [C2 ca cc n fa (v :: l).length fc, I2 fa fc (v :: l)]
    (Ret (.int .i64 v) [C2 ca cc n fa l.length fc, I2 fa fc l]) := by
  have hd := deli_d fa fc (v :: l) 0 (by simp)
  rw [show (v :: l).eraseIdx 0 = l from rfl] at hd
  have hl : (v :: l).length = l.length + 1 := rfl
  have hl1 : ([(n, fa, (v :: l).length, fc)] : List (Int × Option Addr × Nat × Nat)).length = 1 := rfl
  (focus
    refine Xg.spec_of Go.Proofs.Try.func41 rfl Go.Proofs.Try.ntmps41 fun g F => ?_)
  (focus
    refine Xg.at_seq ?_
    refine Xg.at_region ?_
    refine Xg.ops_op (by kernel_rfl) (Xg.opx_pure ((iv 0)) rfl (fun _ => by kernel_rfl) ?_)
    refine Xg.ops_nil ?_
    refine Xg.at_seq ?_
    refine Xg.at_region ?_
    refine Xg.ops_op (by kernel_rfl) (Xg.opx_pure ((pv (blk ca) 1)) rfl (fun _ => by kernel_rfl) ?_)
    refine Xg.ops_op (by kernel_rfl) (Xg.opx_pure ((pv (blk ca) 1)) rfl (fun _ => by kernel_rfl) ?_)
    refine Xg.ops_op (by kernel_rfl) (Xg.opx_pure ((pv (blk ca) 1)) rfl (fun _ => by kernel_rfl) ?_)
    refine Xg.ops_op (by kernel_rfl) (Xg.opx_load_own (a := ca) (off := ((1 : Nat))) 0 (Value.slice fa (v :: l).length fc) rfl (by kernel_rfl) (Xg.get_recs' (wd := 3) (fun _ => rfl) default ((0 : Nat)) 1 (by omega) (by decide) (by omega) (by kernel_rfl)) (by kernel_rfl) ?_)
    refine Xg.ops_op (by kernel_rfl) (Xg.opx_pure ((iv 0)) rfl (fun _ => by kernel_rfl) ?_)
    refine Xg.ops_op (by kernel_rfl) (Xg.opx_ix_own (elem := 3) (kd := .i64) (e := ((0 : Int))) 1 1 ((0 : Nat)) ((0 : Nat)) rfl (by kernel_rfl) (by kernel_rfl) (by kernel_rfl) (by kernel_rfl) rfl (by omega) (by omega) ?_)
    refine Xg.ops_op (by kernel_rfl) (Xg.opx_load_own (a := fa) (off := ((0 : Nat))) 1 (iv ((v :: l).getD (0 : Nat) (0 : Int))) rfl (by kernel_rfl) (Xg.get_ints (by omega)) (by kernel_rfl) ?_)
    refine Xg.ops_op (by kernel_rfl) (Xg.opx_pure ((iv ((v :: l).getD (0 : Nat) (0 : Int)))) rfl (fun _ => by kernel_rfl) ?_)
    refine Xg.ops_nil ?_
    refine Xg.at_seq ?_
    refine Xg.at_region ?_
    refine Xg.ops_op (by kernel_rfl) (Xg.opx_pure ((pv (blk ca) 1)) rfl (fun _ => by kernel_rfl) ?_)
    refine Xg.ops_op (by kernel_rfl) (Xg.opx_pure ((pv (blk ca) 1)) rfl (fun _ => by kernel_rfl) ?_)
    refine Xg.ops_op (by kernel_rfl) (Xg.opx_pure ((pv (blk ca) 1)) rfl (fun _ => by kernel_rfl) ?_)
    refine Xg.ops_op (by kernel_rfl) (Xg.opx_pure ((pv (blk ca) 1)) rfl (fun _ => by kernel_rfl) ?_)
    refine Xg.ops_op (by kernel_rfl) (Xg.opx_load_own (a := ca) (off := ((1 : Nat))) 0 (Value.slice fa (v :: l).length fc) rfl (by kernel_rfl) (Xg.get_recs' (wd := 3) (fun _ => rfl) default ((0 : Nat)) 1 (by omega) (by decide) (by omega) (by kernel_rfl)) (by kernel_rfl) ?_)
    refine Xg.ops_op (by kernel_rfl) (Xg.opx_pure ((iv 0)) rfl (fun _ => by kernel_rfl) ?_)
    refine Xg.ops_op (by kernel_rfl) (Xg.opx_pure ((iv 0)) rfl (fun _ => by kernel_rfl) ?_)
    refine Xg.ops_op (by kernel_rfl) (Xg.opx_pure ((iv 1)) rfl (fun _ => by kernel_rfl) ?_)
    refine Xg.ops_op (by kernel_rfl) (Xg.opx_call1' [1] [I2 fa fc l, C2 ca cc n fa (v :: l).length fc] (fun _ => by kernel_rfl) (@hd ) (by kernel_rfl) (by kernel_rfl) (by kernel_rfl) ?_)
    refine Xg.ops_op (by kernel_rfl) (Xg.opx_pure ((pv (blk ca) 1)) rfl (fun _ => by kernel_rfl) ?_)
    refine Xg.ops_op (by kernel_rfl) (Xg.opx_pure ((pv (blk ca) 1)) rfl (fun _ => by kernel_rfl) ?_)
    refine Xg.ops_op (by kernel_rfl) (Xg.opx_store_own (a := ca) (off := ((1 : Nat))) 1 (Value.slice fa l.length fc) (by kernel_rfl) rfl (by kernel_rfl) (by kernel_rfl) (by kernel_rfl) (by first | omega | (simp; done) | (simp; omega)) ?_)
    refine Xg.ops_nil ?_
    refine Xg.at_seq ?_
    refine Xg.at_region ?_
    refine Xg.ops_op (by kernel_rfl) (Xg.opx_pure ((iv ((v :: l).getD (0 : Nat) (0 : Int)))) rfl (fun _ => by kernel_rfl) ?_)
    refine Xg.ops_op (by kernel_rfl) (Xg.opx_pure ((iv ((v :: l).getD (0 : Nat) (0 : Int)))) rfl (fun _ => by kernel_rfl) ?_)
    refine Xg.ops_nil ?_
    refine Xg.at_ret_ps (v := (iv ((v :: l).getD (0 : Nat) (0 : Int)))) [1, 0] [ownS (98 : Nat) (3 : Nat) (Value.slice ca [(n, fa, (v :: l).length, fc)].length cc) [(n, fa, (v :: l).length, fc)].length ((recs clC [(n, fa, (v :: l).length, fc)]).set (1 : Nat) (Value.slice fa l.length fc)), I2 fa fc l] Go.Proofs.Try.func41 (fun _ => by kernel_rfl) (by kernel_rfl) (by kernel_rfl) ?_
    exact ⟨by kernel_rfl, by kernel_rfl⟩)
theorem lease_d (p ab : Nat) (ca : Option Addr) (cc : Nat) (ba : Option Addr) (bc : Nat) (n : Int) (fa : Option Addr) (fl fc : Nat) (x y : Int × Option Addr × Nat × Nat) (hx : x.1 = 0) (hy : y.1 = 0) (b : Nat) (hb : b < 2) : Does Try.prog 42 [.pointer (some ⟨p, 0, none⟩), .int .i64 (b : Nat)] [H2 p ab ca cc ba bc, C2 ca cc n fa fl fc, B2 ba bc x y]
    (Ret (.agg #[.int .i64 (b : Nat), .int .i64 0, .int .i64 n]) [H2 p ab ca cc ba bc, C2 ca cc n fa fl fc, B2 ba bc x y]) := by
  obtain ⟨x1, x2, x3, x4⟩ := x
  obtain ⟨y1, y2, y3, y4⟩ := y
  dsimp only at hx hy
  subst hx hy
  have hl1 : ([(n, fa, fl, fc)] : List (Int × Option Addr × Nat × Nat)).length = 1 := rfl
  have hl2 : ([((0 : Int), x2, x3, x4), (0, y2, y3, y4)] : List (Int × Option Addr × Nat × Nat)).length = 2 := rfl
  have : b = 0 ∨ b = 1 := by omega
  rcases this with rfl | rfl
  · (focus
      refine Xg.spec_of Go.Proofs.Try.func42 rfl Go.Proofs.Try.ntmps42 fun g F => ?_)
    (focus
      refine Xg.at_seq ?_
      refine Xg.at_region ?_
      refine Xg.ops_op (by kernel_rfl) (Xg.opx_new 3 [iv 0, iv 0, iv 0] (by kernel_rfl) (by kernel_rfl) fun xb1 => ?_)
      refine Xg.ops_nil ?_
      refine Xg.at_seq ?_
      refine Xg.at_region ?_
      refine Xg.ops_op (by kernel_rfl) (Xg.opx_pure ((pv p 0)) rfl (fun _ => by kernel_rfl) ?_)
      refine Xg.ops_op (by kernel_rfl) (Xg.opx_pure ((pv p 0)) rfl (fun _ => by kernel_rfl) ?_)
      refine Xg.ops_op (by kernel_rfl) (Xg.opx_pure ((pv p 1)) rfl (fun _ => by kernel_rfl) ?_)
      refine Xg.ops_op (by kernel_rfl) (Xg.opx_load (b := p) (off := ((1 : Nat))) 1 (Value.slice ba (2 : Nat) bc) rfl (by kernel_rfl) (by kernel_rfl) (by kernel_rfl) ?_)
      refine Xg.ops_op (by kernel_rfl) (Xg.opx_pure ((iv 0)) rfl (fun _ => by kernel_rfl) ?_)
      refine Xg.ops_op (by kernel_rfl) (Xg.opx_ix_own (elem := 101) (kd := .i64) (e := ((0 : Int))) 3 2 ((0 : Nat)) ((0 : Nat)) rfl (by kernel_rfl) (by kernel_rfl) (by kernel_rfl) (by kernel_rfl) rfl (by omega) (by omega) ?_)
      refine Xg.ops_op (by kernel_rfl) (Xg.opx_pure ((pv (blk ba) 0)) rfl (fun _ => by kernel_rfl) ?_)
      refine Xg.ops_op (by kernel_rfl) (Xg.opx_load_own (a := ba) (off := ((0 : Nat))) 3 (iv 0) rfl (by kernel_rfl) (Xg.get_recs' (wd := 2) (fun _ => rfl) default ((0 : Nat)) 0 (by omega) (by decide) (by omega) (by kernel_rfl)) (by kernel_rfl) ?_)
      refine Xg.ops_op (by kernel_rfl) (Xg.opx_pure ((iv 0)) rfl (fun _ => by kernel_rfl) ?_)
      refine Xg.ops_nil ?_
      refine Xg.at_seq ?_
      refine Xg.at_region ?_
      refine Xg.ops_op (by kernel_rfl) (Xg.opx_pure ((iv 0)) rfl (fun _ => by kernel_rfl) ?_)
      refine Xg.ops_op (by kernel_rfl) (Xg.opx_pure ((iv 0)) rfl (fun _ => by kernel_rfl) ?_)
      refine Xg.ops_op (by kernel_rfl) (Xg.opx_pure ((pv p 0)) rfl (fun _ => by kernel_rfl) ?_)
      refine Xg.ops_op (by kernel_rfl) (Xg.opx_pure ((pv p 0)) rfl (fun _ => by kernel_rfl) ?_)
      refine Xg.ops_op (by kernel_rfl) (Xg.opx_pure ((pv p 0)) rfl (fun _ => by kernel_rfl) ?_)
      refine Xg.ops_op (by kernel_rfl) (Xg.opx_load (b := p) (off := ((0 : Nat))) 1 (Value.slice ca (1 : Nat) cc) rfl (by kernel_rfl) (by kernel_rfl) (by kernel_rfl) ?_)
      refine Xg.ops_op (by kernel_rfl) (Xg.opx_pure ((iv 0)) rfl (fun _ => by kernel_rfl) ?_)
      refine Xg.ops_op (by kernel_rfl) (Xg.opx_ix_own (elem := 98) (kd := .i64) (e := ((0 : Int))) 2 3 ((0 : Nat)) ((0 : Nat)) rfl (by kernel_rfl) (by kernel_rfl) (by kernel_rfl) (by kernel_rfl) rfl (by omega) (by omega) ?_)
      refine Xg.ops_op (by kernel_rfl) (Xg.opx_pure ((pv (blk ca) 0)) rfl (fun _ => by kernel_rfl) ?_)
      refine Xg.ops_op (by kernel_rfl) (Xg.opx_load_own (a := ca) (off := ((0 : Nat))) 2 (iv n) rfl (by kernel_rfl) (Xg.get_recs' (wd := 3) (fun _ => rfl) default ((0 : Nat)) 0 (by omega) (by decide) (by omega) (by kernel_rfl)) (by kernel_rfl) ?_)
      refine Xg.ops_op (by kernel_rfl) (Xg.opx_pure ((Value.agg #[iv 0, iv 0, iv n])) rfl (fun _ => by kernel_rfl) ?_)
      refine Xg.ops_op (by kernel_rfl) (Xg.opx_storen 3 (off := 0) 0 [iv 0, iv 0, iv n] (by kernel_rfl) rfl (by kernel_rfl) (by kernel_rfl) rfl (by kernel_rfl) (Nat.le_of_ble_eq_true (by kernel_rfl)) ?_)
      refine Xg.ops_nil ?_
      refine Xg.at_ret_feed (v := (Value.agg #[iv 0, iv 0, iv n])) [(Addr.mk xb1 (0 : Nat) none), (Addr.mk xb1 (1 : Nat) none), (Addr.mk xb1 (2 : Nat) none)] [iv 0, iv 0, iv n] [1, 2, 3] [H2 p ab ca cc ba bc, C2 ca cc n fa fl fc, B2 ba bc ((0 : Int), x2, x3, x4) ((0 : Int), y2, y3, y4)] Go.Proofs.Try.func42 (by kernel_rfl) (Xg.cells_cons (b := xb1) (off := 0) 0 rfl (by kernel_rfl) (Xg.cells_cons (b := xb1) (off := 1) 0 rfl (by kernel_rfl) (Xg.cells_cons (b := xb1) (off := 2) 0 rfl (by kernel_rfl) Xg.cells_nil))) (by kernel_rfl) (by kernel_rfl) ?_
      exact ⟨by kernel_rfl, by kernel_rfl⟩)
  · (focus
      refine Xg.spec_of Go.Proofs.Try.func42 rfl Go.Proofs.Try.ntmps42 fun g F => ?_)
    (focus
      refine Xg.at_seq ?_
      refine Xg.at_region ?_
      refine Xg.ops_op (by kernel_rfl) (Xg.opx_new 3 [iv 0, iv 0, iv 0] (by kernel_rfl) (by kernel_rfl) fun xb1 => ?_)
      refine Xg.ops_nil ?_
      refine Xg.at_seq ?_
      refine Xg.at_region ?_
      refine Xg.ops_op (by kernel_rfl) (Xg.opx_pure ((pv p 0)) rfl (fun _ => by kernel_rfl) ?_)
      refine Xg.ops_op (by kernel_rfl) (Xg.opx_pure ((pv p 0)) rfl (fun _ => by kernel_rfl) ?_)
      refine Xg.ops_op (by kernel_rfl) (Xg.opx_pure ((pv p 1)) rfl (fun _ => by kernel_rfl) ?_)
      refine Xg.ops_op (by kernel_rfl) (Xg.opx_load (b := p) (off := ((1 : Nat))) 1 (Value.slice ba (2 : Nat) bc) rfl (by kernel_rfl) (by kernel_rfl) (by kernel_rfl) ?_)
      refine Xg.ops_op (by kernel_rfl) (Xg.opx_pure ((iv 1)) rfl (fun _ => by kernel_rfl) ?_)
      refine Xg.ops_op (by kernel_rfl) (Xg.opx_ix_own (elem := 101) (kd := .i64) (e := ((1 : Int))) 3 2 ((1 : Nat)) ((2 : Nat)) rfl (by kernel_rfl) (by kernel_rfl) (by kernel_rfl) (by kernel_rfl) rfl (by omega) (by omega) ?_)
      refine Xg.ops_op (by kernel_rfl) (Xg.opx_pure ((pv (blk ba) 2)) rfl (fun _ => by kernel_rfl) ?_)
      refine Xg.ops_op (by kernel_rfl) (Xg.opx_load_own (a := ba) (off := ((2 : Nat))) 3 (iv 0) rfl (by kernel_rfl) (Xg.get_recs' (wd := 2) (fun _ => rfl) default ((1 : Nat)) 0 (by omega) (by decide) (by omega) (by kernel_rfl)) (by kernel_rfl) ?_)
      refine Xg.ops_op (by kernel_rfl) (Xg.opx_pure ((iv 0)) rfl (fun _ => by kernel_rfl) ?_)
      refine Xg.ops_nil ?_
      refine Xg.at_seq ?_
      refine Xg.at_region ?_
      refine Xg.ops_op (by kernel_rfl) (Xg.opx_pure ((iv 1)) rfl (fun _ => by kernel_rfl) ?_)
      refine Xg.ops_op (by kernel_rfl) (Xg.opx_pure ((iv 0)) rfl (fun _ => by kernel_rfl) ?_)
      refine Xg.ops_op (by kernel_rfl) (Xg.opx_pure ((pv p 0)) rfl (fun _ => by kernel_rfl) ?_)
      refine Xg.ops_op (by kernel_rfl) (Xg.opx_pure ((pv p 0)) rfl (fun _ => by kernel_rfl) ?_)
      refine Xg.ops_op (by kernel_rfl) (Xg.opx_pure ((pv p 0)) rfl (fun _ => by kernel_rfl) ?_)
      refine Xg.ops_op (by kernel_rfl) (Xg.opx_load (b := p) (off := ((0 : Nat))) 1 (Value.slice ca (1 : Nat) cc) rfl (by kernel_rfl) (by kernel_rfl) (by kernel_rfl) ?_)
      refine Xg.ops_op (by kernel_rfl) (Xg.opx_pure ((iv 0)) rfl (fun _ => by kernel_rfl) ?_)
      refine Xg.ops_op (by kernel_rfl) (Xg.opx_ix_own (elem := 98) (kd := .i64) (e := ((0 : Int))) 2 3 ((0 : Nat)) ((0 : Nat)) rfl (by kernel_rfl) (by kernel_rfl) (by kernel_rfl) (by kernel_rfl) rfl (by omega) (by omega) ?_)
      refine Xg.ops_op (by kernel_rfl) (Xg.opx_pure ((pv (blk ca) 0)) rfl (fun _ => by kernel_rfl) ?_)
      refine Xg.ops_op (by kernel_rfl) (Xg.opx_load_own (a := ca) (off := ((0 : Nat))) 2 (iv n) rfl (by kernel_rfl) (Xg.get_recs' (wd := 3) (fun _ => rfl) default ((0 : Nat)) 0 (by omega) (by decide) (by omega) (by kernel_rfl)) (by kernel_rfl) ?_)
      refine Xg.ops_op (by kernel_rfl) (Xg.opx_pure ((Value.agg #[iv 1, iv 0, iv n])) rfl (fun _ => by kernel_rfl) ?_)
      refine Xg.ops_op (by kernel_rfl) (Xg.opx_storen 3 (off := 0) 0 [iv 1, iv 0, iv n] (by kernel_rfl) rfl (by kernel_rfl) (by kernel_rfl) rfl (by kernel_rfl) (Nat.le_of_ble_eq_true (by kernel_rfl)) ?_)
      refine Xg.ops_nil ?_
      refine Xg.at_ret_feed (v := (Value.agg #[iv 1, iv 0, iv n])) [(Addr.mk xb1 (0 : Nat) none), (Addr.mk xb1 (1 : Nat) none), (Addr.mk xb1 (2 : Nat) none)] [iv 1, iv 0, iv n] [1, 2, 3] [H2 p ab ca cc ba bc, C2 ca cc n fa fl fc, B2 ba bc ((0 : Int), x2, x3, x4) ((0 : Int), y2, y3, y4)] Go.Proofs.Try.func42 (by kernel_rfl) (Xg.cells_cons (b := xb1) (off := 0) 0 rfl (by kernel_rfl) (Xg.cells_cons (b := xb1) (off := 1) 0 rfl (by kernel_rfl) (Xg.cells_cons (b := xb1) (off := 2) 0 rfl (by kernel_rfl) Xg.cells_nil))) (by kernel_rfl) (by kernel_rfl) ?_
      exact ⟨by kernel_rfl, by kernel_rfl⟩)
end Go.Proofs.Ytmplimmcjdkhlaa
