/- The arena package: a class of two buffers: Take, twice. -/
import Derived.Test.YtmplimmcjdkhlaaKP8
import Derived.Test.YtmplimmcjdkhlaaKS
namespace Go.Proofs.Ytmplimmcjdkhlaa
open Go.Sl Go.Xg
set_option linter.unusedVariables false
set_option linter.unusedSimpArgs false
set_option linter.unnecessarySimpa false
set_option maxHeartbeats 4000000
set_option maxRecDepth 100000

def nA : Option Addr := none
abbrev Y2 (a : Option Addr) (c : Nat) (l : List Int) : HP := ints 5 .u8 a c l
theorem take0_d (p ab r : Nat) (ca : Option Addr) (cc : Nat) (ba : Option Addr) (bc : Nat) (n : Nat) (hn : 1 ≤ n) (hn3 : n ≤ 300) (fa : Option Addr) (fc : Nat) (q : Int) (hq : (n : Int) ≤ q ∧ q ≤ 1000) (size : Int) (hs : 1 ≤ size ∧ size ≤ n) :
    Does Try.prog 17 [.pointer (some ⟨p, 0, none⟩), .int .i64 0, .int .i64 size, .int .i64 0] [H2 p ab ca cc ba bc, C2 ca cc n fa 2 fc, B2 ba bc (0, nA, 0, 0) (0, nA, 0, 0), A2 ab r, R2 r q 0 none 0 0, I2 fa fc [0, 1]]
    (RetE (fun x : Option Addr × Option Addr × Nat => x.1.isNone = false) (fun x => .tuple #[.agg #[.int .i64 0, .int .i64 0, .int .i64 (n : Nat)], .int .i64 0])
      (fun x => [H2 p ab ca cc ba bc, C2 ca cc n fa 1 fc, B2 ba bc (0, x.1, n, n) (0, nA, 0, 0), A2 ab r, R2 r q n x.2.1 1 x.2.2, I2 fa fc [1], Y2 x.1 n (List.replicate n 0), I2 x.2.1 x.2.2 [0]])) := by
  have ho := of1_d p ab r ca cc ba bc
  have hi := fun b => idx_d b ca cc n size fa 2 fc hs.2
  have ht : Does Try.prog 41 [.pointer (some ⟨blk ca, 1, none⟩), .int .i64 0] [C2 ca cc n fa 2 fc, I2 fa fc [0, 1]] (Ret (.int .i64 0) [C2 ca cc n fa 1 fc, I2 fa fc [1]]) := take_d ca cc n fa fc 0 [1]
  have hls := fun xa => lease_d p ab ca cc ba bc n fa 1 fc (0, xa, n, n) (0, nA, 0, 0) rfl rfl 0 (by decide)
  have hl1 : ([((n : Int), fa, 2, fc)] : List (Int × Option Addr × Nat × Nat)).length = 1 := rfl
  have hl2 : ([((n : Int), fa, 1, fc)] : List (Int × Option Addr × Nat × Nat)).length = 1 := rfl
  have hl3 : ([((0 : Int), nA, 0, 0), (0, nA, 0, 0)] : List (Int × Option Addr × Nat × Nat)).length = 2 := rfl
  have hl4 : ([0, 1] : List Int).length = 2 := rfl
  have hl5 : ([1] : List Int).length = 1 := rfl
  (focus
    refine Xg.spec_of Go.Proofs.Try.func17 rfl Go.Proofs.Try.ntmps17 fun g F => ?_)
  refine Xg.at_off 1 rfl (by omega) fun hoff => ?_
  refine Xg.at_off 2 rfl (by omega) fun hoff2 => ?_
  (focus
    refine Xg.at_seq ?_
    refine Xg.at_region ?_
    refine Xg.ops_op (by kernel_rfl) (Xg.opx_box (v := (iv size)) [(iv size)] (by kernel_rfl) (by kernel_rfl) fun xb1 => ?_)
    refine Xg.ops_op (by kernel_rfl) (Xg.opx_new 3 [iv 0, iv 0, iv 0] (by kernel_rfl) (by kernel_rfl) fun xb2 => ?_)
    refine Xg.ops_op (by kernel_rfl) (Xg.opx_pure ((iv 0)) rfl (fun _ => by kernel_rfl) ?_)
    refine Xg.ops_nil ?_
    refine Xg.at_seq ?_
    refine Xg.at_region ?_
    refine Xg.ops_op (by kernel_rfl) (Xg.opx_pure ((pv p 0)) rfl (fun _ => by kernel_rfl) ?_)
    refine Xg.ops_op (by kernel_rfl) (Xg.opx_pure ((iv 0)) rfl (fun _ => by kernel_rfl) ?_)
    refine Xg.ops_op (by kernel_rfl) (Xg.opx_call1' [2, 5] [H2 p ab ca cc ba bc, A2 ab r, row xb2 (42 : Nat) [iv 0, iv 0, iv 0], row xb1 (3 : Nat) [iv size], C2 ca cc (↑n : Int) fa (2 : Nat) fc, B2 ba bc ((0 : Int), nA, (0 : Nat), (0 : Nat)) ((0 : Int), nA, (0 : Nat), (0 : Nat)), R2 r q (0 : Int) none (0 : Nat) (0 : Nat), I2 fa fc [(0 : Int), (1 : Int)]] (fun _ => by kernel_rfl) (@ho ) (by kernel_rfl) (by kernel_rfl) (by kernel_rfl) ?_)
    refine Xg.ops_op (by kernel_rfl) (Xg.opx_pure ((pv r 0)) rfl (fun _ => by kernel_rfl) ?_)
    refine Xg.ops_nil ?_
    refine Xg.at_seq ?_
    refine Xg.at_seq ?_
    refine Xg.at_region ?_
    refine Xg.ops_op (by kernel_rfl) (Xg.opx_pure ((pv r 0)) rfl (fun _ => by kernel_rfl) ?_)
    refine Xg.ops_op (by kernel_rfl) (Xg.opx_pure ((Value.bool false)) rfl (fun _ => by kernel_rfl) ?_)
    refine Xg.ops_nil ?_
    refine Xg.at_false (t := false) (by kernel_rfl) rfl ?_
    refine Xg.at_skip ?_
    refine Xg.at_seq ?_
    refine Xg.at_region ?_
    refine Xg.ops_op (by kernel_rfl) (Xg.opx_pure ((pv p 0)) rfl (fun _ => by kernel_rfl) ?_)
    refine Xg.ops_op (by kernel_rfl) (Xg.opx_pure ((pv p 0)) rfl (fun _ => by kernel_rfl) ?_)
    refine Xg.ops_op (by kernel_rfl) (Xg.opx_pure ((pv p 0)) rfl (fun _ => by kernel_rfl) ?_)
    refine Xg.ops_op (by kernel_rfl) (Xg.opx_load (b := p) (off := ((0 : Nat))) 0 (Value.slice ca (1 : Nat) cc) rfl (by kernel_rfl) (by kernel_rfl) (by kernel_rfl) ?_)
    refine Xg.ops_op (by kernel_rfl) (Xg.opx_pure ((Value.func (Fn.func (40 : Nat)) #[] #[pv xb1 0])) rfl (fun _ => by kernel_rfl) ?_)
    refine Xg.ops_op (by kernel_rfl) (Xg.opx_call1' [4, 3] [C2 ca cc (↑n : Int) fa (2 : Nat) fc, row xb1 (3 : TypeId) [iv size], H2 p ab ca cc ba bc, A2 ab r, row xb2 (42 : Nat) [iv 0, iv 0, iv 0], B2 ba bc ((0 : Int), nA, (0 : Nat), (0 : Nat)) ((0 : Int), nA, (0 : Nat), (0 : Nat)), R2 r q (0 : Int) none (0 : Nat) (0 : Nat), I2 fa fc [(0 : Int), (1 : Int)]] (fun _ => by kernel_rfl) (@hi (xb1)) (by kernel_rfl) (by kernel_rfl) (by kernel_rfl) ?_)
    refine Xg.ops_op (by kernel_rfl) (Xg.opx_pure ((iv 0)) rfl (fun _ => by kernel_rfl) ?_)
    refine Xg.ops_nil ?_
    refine Xg.at_seq ?_
    refine Xg.at_seq ?_
    refine Xg.at_region ?_
    refine Xg.ops_op (by kernel_rfl) (Xg.opx_load (b := xb1) (off := ((0 : Nat))) 1 (iv size) rfl (by kernel_rfl) (by kernel_rfl) (by kernel_rfl) ?_)
    refine Xg.ops_op (by kernel_rfl) (Xg.opx_pure (.bool (decide ((size : Int) < ((1 : Int))))) rfl (fun _ => by kernel_rfl) ?_)
    refine Xg.ops_op (by kernel_rfl) (Xg.opx_pure ((Value.bool (decide (size < (1 : Int))))) rfl (fun _ => by kernel_rfl) ?_)
    refine Xg.ops_flag (j := 29) (c := (decide (size < (1 : Int)))) (by kernel_rfl) (fun xh1 => absurd (of_decide_eq_true xh1) (by omega)) (fun _ => ?_)
    refine Xg.ops_op (by kernel_rfl) (Xg.opx_pure ((iv 0)) rfl (fun _ => by kernel_rfl) ?_)
    refine Xg.ops_op (by kernel_rfl) (Xg.opx_pure ((Value.bool false)) rfl (fun _ => by kernel_rfl) ?_)
    refine Xg.ops_op (by kernel_rfl) (Xg.opx_pure ((Value.bool false)) rfl (fun _ => by kernel_rfl) ?_)
    refine Xg.ops_nil ?_
    refine Xg.at_false (t := false) (by kernel_rfl) rfl ?_
    refine Xg.at_skip ?_
    refine Xg.at_seq ?_
    refine Xg.at_region ?_
    refine Xg.ops_op (by kernel_rfl) (Xg.opx_pure ((pv p 0)) rfl (fun _ => by kernel_rfl) ?_)
    refine Xg.ops_op (by kernel_rfl) (Xg.opx_pure ((pv p 0)) rfl (fun _ => by kernel_rfl) ?_)
    refine Xg.ops_op (by kernel_rfl) (Xg.opx_pure ((pv p 0)) rfl (fun _ => by kernel_rfl) ?_)
    refine Xg.ops_op (by kernel_rfl) (Xg.opx_load (b := p) (off := ((0 : Nat))) 2 (Value.slice ca (1 : Nat) cc) rfl (by kernel_rfl) (by kernel_rfl) (by kernel_rfl) ?_)
    refine Xg.ops_op (by kernel_rfl) (Xg.opx_pure ((iv 0)) rfl (fun _ => by kernel_rfl) ?_)
    refine Xg.ops_op (by kernel_rfl) (Xg.opx_ix_own (elem := 98) (kd := .i64) (e := ((0 : Int))) 0 3 ((0 : Nat)) ((0 : Nat)) rfl (by kernel_rfl) (by kernel_rfl) (by kernel_rfl) (by kernel_rfl) rfl (by omega) (by omega) ?_)
    refine Xg.ops_op (by kernel_rfl) (Xg.opx_pure ((pv (blk ca) 0)) rfl (fun _ => by kernel_rfl) ?_)
    refine Xg.ops_nil ?_
    refine Xg.at_seq ?_
    refine Xg.at_region ?_
    refine Xg.ops_op (by kernel_rfl) (Xg.opx_pure ((pv (blk ca) 0)) rfl (fun _ => by kernel_rfl) ?_)
    refine Xg.ops_op (by kernel_rfl) (Xg.opx_pure ((pv (blk ca) 0)) rfl (fun _ => by kernel_rfl) ?_)
    refine Xg.ops_op (by kernel_rfl) (Xg.opx_pure ((pv (blk ca) 1)) rfl (fun _ => by kernel_rfl) ?_)
    refine Xg.ops_op (by kernel_rfl) (Xg.opx_pure ((pv (blk ca) 1)) rfl (fun _ => by kernel_rfl) ?_)
    refine Xg.ops_op (by kernel_rfl) (Xg.opx_load_own (a := ca) (off := ((1 : Nat))) 0 (Value.slice fa (2 : Nat) fc) rfl (by kernel_rfl) (Xg.get_recs' (wd := 3) (fun _ => rfl) default ((0 : Nat)) 1 (by omega) (by decide) (by omega) (by kernel_rfl)) (by kernel_rfl) ?_)
    refine Xg.ops_op (by kernel_rfl) (Xg.opx_pure ((iv 2)) rfl (fun _ => by kernel_rfl) ?_)
    refine Xg.ops_op (by kernel_rfl) (Xg.opx_pure ((iv 2)) rfl (fun _ => by kernel_rfl) ?_)
    refine Xg.ops_nil ?_
    refine Xg.at_seq ?_
    refine Xg.at_block ?_
    refine Xg.at_seq ?_
    refine Xg.at_draw [] [(3, [0, 1, 2, 3, 4, 5, 6, 7, 8, 9, 10, 11, 12], (RdIs (3 : Nat) (Value.slice ca [((↑n : Int), fa, (2 : Nat), fc)].length cc) [((↑n : Int), fa, (2 : Nat), fc)].length (recs clC [((↑n : Int), fa, (2 : Nat), fc)]))), (7, [0, 1, 2, 3, 4, 5, 6, 7, 8, 9, 10, 11], Xg.CellIs (r) (((0 : Nat))) ((iv q))), (11, [0, 1, 2, 3, 4, 5, 6, 7, 8, 9, 10, 11], Xg.CellIs (r) (((1 : Nat))) ((iv 0)))] (by kernel_rfl) ?_
    refine Xg.any_pure ((pv (blk ca) 0)) 0 (by kernel_rfl) rfl (by kernel_rfl) (by kernel_rfl) (by kernel_rfl) (by kernel_rfl) rfl (fun _ => by kernel_rfl) ?_
    refine Xg.any_pure ((pv (blk ca) 0)) 1 (by kernel_rfl) rfl (by kernel_rfl) (by kernel_rfl) (by kernel_rfl) (by kernel_rfl) rfl (fun _ => by kernel_rfl) ?_
    refine Xg.any_pure ((pv (blk ca) 0)) 2 (by kernel_rfl) rfl (by kernel_rfl) (by kernel_rfl) (by kernel_rfl) (by kernel_rfl) rfl (fun _ => by kernel_rfl) ?_
    refine Xg.any_reads (iv (↑n : Int)) 3 0 (by kernel_rfl) rfl (by kernel_rfl) (by kernel_rfl) (by kernel_rfl) (by kernel_rfl) rfl rfl (by kernel_rfl) (Xg.rd_now 0 (Xg.reads_own (E := ((98 : Nat))) (sz := ((3 : Nat))) (n := ([((↑n : Int), fa, (2 : Nat), fc)].length)) (c := cc) (a := ca) (vs := (recs clC [((↑n : Int), fa, (2 : Nat), fc)]))) (by kernel_rfl)) (Xg.run_load_rd (off0 := ((0 : Nat))) ((0 : Nat)) (by kernel_rfl) (by omega) (Xg.get_recs' (wd := 3) (fun _ => rfl) default ((0 : Nat)) 0 (by omega) (by decide) (by omega) (by kernel_rfl)) (by kernel_rfl)) ?_
    refine Xg.any_pure ((pv r 0)) 4 (by kernel_rfl) rfl (by kernel_rfl) (by kernel_rfl) (by kernel_rfl) (by kernel_rfl) rfl (fun _ => by kernel_rfl) ?_
    refine Xg.any_pure ((pv r 0)) 5 (by kernel_rfl) rfl (by kernel_rfl) (by kernel_rfl) (by kernel_rfl) (by kernel_rfl) rfl (fun _ => by kernel_rfl) ?_
    refine Xg.any_pure ((pv r 0)) 6 (by kernel_rfl) rfl (by kernel_rfl) (by kernel_rfl) (by kernel_rfl) (by kernel_rfl) rfl (fun _ => by kernel_rfl) ?_
    refine Xg.any_reads (iv q) 7 1 (by kernel_rfl) rfl (by kernel_rfl) (by kernel_rfl) (by kernel_rfl) (by kernel_rfl) rfl rfl (by kernel_rfl) (Xg.cell_now (b := r) (off := ((0 : Nat))) 6 rfl (by kernel_rfl)) (fun _ h => Xg.run_load (by kernel_rfl) (by kernel_rfl) h) ?_
    refine Xg.any_pure ((pv r 0)) 8 (by kernel_rfl) rfl (by kernel_rfl) (by kernel_rfl) (by kernel_rfl) (by kernel_rfl) rfl (fun _ => by kernel_rfl) ?_
    refine Xg.any_pure ((pv r 0)) 9 (by kernel_rfl) rfl (by kernel_rfl) (by kernel_rfl) (by kernel_rfl) (by kernel_rfl) rfl (fun _ => by kernel_rfl) ?_
    refine Xg.any_pure ((pv r 1)) 10 (by kernel_rfl) rfl (by kernel_rfl) (by kernel_rfl) (by kernel_rfl) (by kernel_rfl) rfl (fun _ => by kernel_rfl) ?_
    refine Xg.any_reads (iv 0) 11 2 (by kernel_rfl) rfl (by kernel_rfl) (by kernel_rfl) (by kernel_rfl) (by kernel_rfl) rfl rfl (by kernel_rfl) (Xg.cell_now (b := r) (off := ((1 : Nat))) 6 rfl (by kernel_rfl)) (fun _ h => Xg.run_load (by kernel_rfl) (by kernel_rfl) h) ?_
    refine Xg.any_int .i64 (IntKind.wrap .i64 ((q - (0 : Int)))) 12 (by kernel_rfl) rfl (by kernel_rfl) (by kernel_rfl) (by kernel_rfl) (by kernel_rfl) rfl (fun _ => by kernel_rfl) (Xg.wrap_i64_in (by omega)) ?_
    refine Xg.any_pure (.bool (decide ((((↑n : Int)) : Int) > (q - (0 : Int))))) 13 (by kernel_rfl) rfl (by kernel_rfl) (by kernel_rfl) (by kernel_rfl) (by kernel_rfl) rfl (fun _ => by kernel_rfl) ?_
    refine Xg.any_pure ((Value.bool (decide ((↑n : Int) > q - (0 : Int))))) 14 (by kernel_rfl) rfl (by kernel_rfl) (by kernel_rfl) (by kernel_rfl) (by kernel_rfl) rfl (fun _ => by kernel_rfl) ?_
    refine Xg.any_nil (by kernel_rfl) ?_
    refine Xg.at_false (t := decide (((↑n : Int) > q - (0 : Int)))) (by kernel_rfl) (decide_eq_false (by omega)) ?_
    refine Xg.at_seq ?_
    refine Xg.at_region ?_
    refine Xg.ops_op (by kernel_rfl) (Xg.opx_pure ((iv 2)) rfl (fun _ => by kernel_rfl) ?_)
    refine Xg.ops_op (by kernel_rfl) (Xg.opx_pure ((Value.bool false)) rfl (fun _ => by kernel_rfl) ?_)
    refine Xg.ops_op (by kernel_rfl) (Xg.opx_pure ((Value.bool false)) rfl (fun _ => by kernel_rfl) ?_)
    refine Xg.ops_nil ?_
    refine Xg.at_false (t := false) (by kernel_rfl) rfl ?_
    refine Xg.at_skip ?_
    refine Xg.at_inBlock ?_
    refine Xg.at_seq ?_
    refine Xg.at_seq ?_
    refine Xg.at_region ?_
    refine Xg.ops_op (by kernel_rfl) (Xg.opx_pure ((iv 0)) rfl (fun _ => by kernel_rfl) ?_)
    refine Xg.ops_op (by kernel_rfl) (Xg.opx_pure ((Value.bool false)) rfl (fun _ => by kernel_rfl) ?_)
    refine Xg.ops_nil ?_
    refine Xg.at_false (t := false) (by kernel_rfl) rfl ?_
    refine Xg.at_skip ?_
    refine Xg.at_seq ?_
    refine Xg.at_draw [6] [] (by kernel_rfl) ?_
    refine Xg.any_pure ((pv (blk ca) 0)) 0 (by kernel_rfl) rfl (by kernel_rfl) (by kernel_rfl) (by kernel_rfl) (by kernel_rfl) rfl (fun _ => by kernel_rfl) ?_
    refine Xg.any_pure ((pv (blk ca) 0)) 1 (by kernel_rfl) rfl (by kernel_rfl) (by kernel_rfl) (by kernel_rfl) (by kernel_rfl) rfl (fun _ => by kernel_rfl) ?_
    refine Xg.any_pure ((pv (blk ca) 1)) 2 (by kernel_rfl) rfl (by kernel_rfl) (by kernel_rfl) (by kernel_rfl) (by kernel_rfl) rfl (fun _ => by kernel_rfl) ?_
    refine Xg.any_pure ((iv 0)) 3 (by kernel_rfl) rfl (by kernel_rfl) (by kernel_rfl) (by kernel_rfl) (by kernel_rfl) rfl (fun _ => by kernel_rfl) ?_
    refine Xg.any_pure ((iv 2)) 4 (by kernel_rfl) rfl (by kernel_rfl) (by kernel_rfl) (by kernel_rfl) (by kernel_rfl) rfl (fun _ => by kernel_rfl) ?_
    refine Xg.any_pure ((iv 0)) 5 (by kernel_rfl) rfl (by kernel_rfl) (by kernel_rfl) (by kernel_rfl) (by kernel_rfl) rfl (fun _ => by kernel_rfl) ?_
    refine Xg.any_each [6] (by kernel_rfl) rfl ⟨?_, trivial⟩
    refine Xg.comes_act rfl (by kernel_rfl) (by kernel_rfl) (Xg.opx_call1' [0, 7] [C2 ca cc (↑n : Int) fa (1 : Nat) fc, I2 fa fc [(1 : Int)], row xb1 (3 : TypeId) [iv size], H2 p ab ca cc ba bc, A2 ab r, row xb2 (42 : Nat) [iv 0, iv 0, iv 0], B2 ba bc ((0 : Int), nA, (0 : Nat), (0 : Nat)) ((0 : Int), nA, (0 : Nat), (0 : Nat)), R2 r q (0 : Int) none (0 : Nat) (0 : Nat)] (fun _ => by kernel_rfl) (@ht ) (by kernel_rfl) (by kernel_rfl) (by kernel_rfl) ?_)
    refine Xg.acts Xg.owes_nil ?_
    refine Xg.any_pure ((iv 0)) 7 (by kernel_rfl) rfl (by kernel_rfl) (by kernel_rfl) (by kernel_rfl) (by kernel_rfl) rfl (fun _ => by kernel_rfl) ?_
    refine Xg.any_nil (by kernel_rfl) ?_
    refine Xg.at_seq ?_
    refine Xg.at_draw [9, 12] [(3, [0, 1, 2, 3, 4, 5, 6, 7, 8, 9], Xg.CellIs (p) (((1 : Nat))) ((Value.slice ba (2 : Nat) bc))), (8, [0, 1, 2, 3, 4, 5, 6, 7, 8], (RdIs (3 : Nat) (Value.slice ca [((↑n : Int), fa, (1 : Nat), fc)].length cc) [((↑n : Int), fa, (1 : Nat), fc)].length (recs clC [((↑n : Int), fa, (1 : Nat), fc)]))), (10, [0, 1, 2, 3, 4, 5, 6, 7, 8, 9, 10], (RdIs (2 : Nat) (Value.slice ba [((0 : Int), nA, (0 : Nat), (0 : Nat)), ((0 : Int), nA, (0 : Nat), (0 : Nat))].length bc) [((0 : Int), nA, (0 : Nat), (0 : Nat)), ((0 : Int), nA, (0 : Nat), (0 : Nat))].length (recs bfC [((0 : Int), nA, (0 : Nat), (0 : Nat)), ((0 : Int), nA, (0 : Nat), (0 : Nat))])))] (by kernel_rfl) ?_
    refine Xg.any_pure ((pv p 0)) 0 (by kernel_rfl) rfl (by kernel_rfl) (by kernel_rfl) (by kernel_rfl) (by kernel_rfl) rfl (fun _ => by kernel_rfl) ?_
    refine Xg.any_pure ((pv p 0)) 1 (by kernel_rfl) rfl (by kernel_rfl) (by kernel_rfl) (by kernel_rfl) (by kernel_rfl) rfl (fun _ => by kernel_rfl) ?_
    refine Xg.any_pure ((pv p 1)) 2 (by kernel_rfl) rfl (by kernel_rfl) (by kernel_rfl) (by kernel_rfl) (by kernel_rfl) rfl (fun _ => by kernel_rfl) ?_
    refine Xg.any_reads (Value.slice ba (2 : Nat) bc) 3 0 (by kernel_rfl) rfl (by kernel_rfl) (by kernel_rfl) (by kernel_rfl) (by kernel_rfl) rfl rfl (by kernel_rfl) (Xg.cell_now (b := p) (off := ((1 : Nat))) 3 rfl (by kernel_rfl)) (fun _ h => Xg.run_load (by kernel_rfl) (by kernel_rfl) h) ?_
    refine Xg.any_pure ((iv 0)) 4 (by kernel_rfl) rfl (by kernel_rfl) (by kernel_rfl) (by kernel_rfl) (by kernel_rfl) rfl (fun _ => by kernel_rfl) ?_
    refine Xg.any_pure ((pv (blk ca) 0)) 5 (by kernel_rfl) rfl (by kernel_rfl) (by kernel_rfl) (by kernel_rfl) (by kernel_rfl) rfl (fun _ => by kernel_rfl) ?_
    refine Xg.any_pure ((pv (blk ca) 0)) 6 (by kernel_rfl) rfl (by kernel_rfl) (by kernel_rfl) (by kernel_rfl) (by kernel_rfl) rfl (fun _ => by kernel_rfl) ?_
    refine Xg.any_pure ((pv (blk ca) 0)) 7 (by kernel_rfl) rfl (by kernel_rfl) (by kernel_rfl) (by kernel_rfl) (by kernel_rfl) rfl (fun _ => by kernel_rfl) ?_
    refine Xg.any_reads (iv (↑n : Int)) 8 1 (by kernel_rfl) rfl (by kernel_rfl) (by kernel_rfl) (by kernel_rfl) (by kernel_rfl) rfl rfl (by kernel_rfl) (Xg.rd_now 0 (Xg.reads_own (E := ((98 : Nat))) (sz := ((3 : Nat))) (n := ([((↑n : Int), fa, (1 : Nat), fc)].length)) (c := cc) (a := ca) (vs := (recs clC [((↑n : Int), fa, (1 : Nat), fc)]))) (by kernel_rfl)) (Xg.run_load_rd (off0 := ((0 : Nat))) ((0 : Nat)) (by kernel_rfl) (by omega) (Xg.get_recs' (wd := 3) (fun _ => rfl) default ((0 : Nat)) 0 (by omega) (by decide) (by omega) (by kernel_rfl)) (by kernel_rfl)) ?_
    refine Xg.any_each [9] (by kernel_rfl) rfl ⟨?_, trivial⟩
    refine Xg.comes_act rfl (by kernel_rfl) (by kernel_rfl) (Xg.opx_make_hid (elem := 5) (kd := .u8) (by_ := 1) (k1 := .i64) (k2 := .i64) (n := ((↑n : Int))) (c := ((↑n : Int))) n n (by kernel_rfl) (by kernel_rfl) (by kernel_rfl) (by kernel_rfl) rfl rfl (by omega) (by omega) fun xa1 xs1 xh1 xl1 xz1 => ?_)
    refine Xg.acts (Xg.owes_cell 4 rfl (by kernel_rfl) (Xg.owes_skip (by kernel_rfl) (Xg.owes_rd 7 (Xg.reads_own (E := ((101 : Nat))) (sz := ((2 : Nat))) (n := ([((0 : Int), nA, (0 : Nat), (0 : Nat)), ((0 : Int), nA, (0 : Nat), (0 : Nat))].length)) (c := bc) (a := ba) (vs := (recs bfC [((0 : Int), nA, (0 : Nat), (0 : Nat)), ((0 : Int), nA, (0 : Nat), (0 : Nat))]))) (by kernel_rfl) Xg.owes_nil))) ?_
    refine Xg.any_reads (.pointer (some (Addr.mk (Xg.blk ba) (offA ba + (0 : Nat)) none))) 10 2 (by kernel_rfl) rfl (by kernel_rfl) (by kernel_rfl) (by kernel_rfl) (by kernel_rfl) rfl rfl (by kernel_rfl) (Xg.rd_now 7 (Xg.reads_own (E := ((101 : Nat))) (sz := ((2 : Nat))) (n := ([((0 : Int), nA, (0 : Nat), (0 : Nat)), ((0 : Int), nA, (0 : Nat), (0 : Nat))].length)) (c := bc) (a := ba) (vs := (recs bfC [((0 : Int), nA, (0 : Nat), (0 : Nat)), ((0 : Int), nA, (0 : Nat), (0 : Nat))]))) (by kernel_rfl)) (Xg.run_ix_rd (elem := 101) (kd := .i64) (e := ((0 : Int))) 2 ((0 : Nat)) (offA ba + (0 : Nat)) (by kernel_rfl) (by kernel_rfl) (by kernel_rfl) (by kernel_rfl) rfl (by omega) (by rw [Xg.recs_len (wd := 2) (fun _ => rfl)]; omega) (by omega)) ?_
    refine Xg.any_pure ((Value.pointer (some (Addr.mk (blk ba) (offA ba + (1 : Nat)) none)))) 11 (by kernel_rfl) rfl (by kernel_rfl) (by kernel_rfl) (by kernel_rfl) (by kernel_rfl) rfl (fun _ => by kernel_rfl) ?_
    refine Xg.any_each [12] (by kernel_rfl) rfl ⟨?_, trivial⟩
    refine Xg.comes_act rfl (by kernel_rfl) (by kernel_rfl) (Xg.opx_store_own (a := ba) (off := (offA ba + (1 : Nat))) 7 (Value.slice xa1 xs1.length n) (by kernel_rfl) rfl (by kernel_rfl) (by kernel_rfl) (by kernel_rfl) (by first | omega | (simp; done) | (simp; omega)) ?_)
    refine Xg.acts (Xg.owes_skip (by kernel_rfl) (Xg.owes_skip (by kernel_rfl) (Xg.owes_skip (by kernel_rfl) Xg.owes_nil))) ?_
    refine Xg.any_nil (by kernel_rfl) ?_
    refine Xg.at_seq ?_)
  have hxl : xs1.length = n := by assumption
  have hxz : ∀ i : Nat, xs1.getD i 0 = 0 := by assumption
  have hxr : xs1 = List.replicate n 0 := by
    apply List.ext_getElem (by rw [hxl, List.length_replicate])
    intro i g1 g2
    have := hxz i
    simpa [List.getD, g1] using this
  rw [hxl, hoff2]
  subst hxr
  (focus
    refine Xg.at_cut (α := (Unit) × (Nat → Value)) (fun x9 => ((fun _ => True) : (Unit) → Prop) x9.1) (fun x9 => Xg.headT [pv p 0, iv 0, iv size, iv 0, tu, tu, pv xb1 0, tu, pv xb2 0, iv 0, pv r 0, iv 0, pv (blk ca) 0, iv 2, iv 0, pv p 0, iv 0, pv r 0, pv r 0, Value.bool false, tu, pv p 0, pv p 0, pv p 0, Value.slice ca (1 : Nat) cc, Value.func (Fn.func (40 : Nat)) #[] #[pv xb1 0], iv 0, iv size, Value.bool (decide (size < (1 : Int))), Value.bool false, iv 0, Value.bool false, Value.bool false, tu, pv p 0, pv p 0, pv p 0, Value.slice ca (1 : Nat) cc, iv 0, pv (blk ca) 0, pv (blk ca) 0, pv (blk ca) 0, pv (blk ca) 1, pv (blk ca) 1, Value.slice fa (2 : Nat) fc, iv 2, Value.bool (decide ((↑n : Int) > q - (0 : Int))), pv (blk ca) 0, pv (blk ca) 0, pv (blk ca) 0, iv (↑n : Int), pv r 0, pv r 0, pv r 0, iv q, pv r 0, pv r 0, pv r 1, iv 0, iv (q - (0 : Int)), Value.bool (decide ((↑n : Int) > q - (0 : Int))), tu, Value.bool false, iv 2, Value.bool false, tu, iv 0, Value.bool false, tu, tu, tu, pv (blk ca) 0, pv (blk ca) 0, pv (blk ca) 1, iv 0, iv 2, iv 0, iv 0, pv p 0, pv p 0, pv p 1, Value.slice ba (2 : Nat) bc, iv 0, pv (blk ca) 0, pv (blk ca) 0, pv (blk ca) 0, iv (↑n : Int), Value.slice xa1 n n, pv (blk ba) 0, pv (blk ba) 1, tu, tu, tu, tu, tu, tu, tu, tu, tu, tu, tu, tu, tu, tu, tu, tu, tu, tu, tu, tu, tu, tu, tu, tu] [90, 91, 92, 93, 94, 95, 96, 97, 98, 99, 100] (((fun _ => []) : (Unit) → List (Nat × Go.Value)) x9.1) x9.2) (fun x9 => ((fun _ => [H2 p ab ca cc ba bc, C2 ca cc n fa 1 fc, B2 ba bc (0, xa1, n, n) (0, nA, 0, 0), A2 ab r, R2 r q n none 0 0, I2 fa fc [1], Y2 xa1 n (List.replicate n 0), row xb2 42 [.int .i64 0, .int .i64 0, .int .i64 0]]) : (Unit) → List Go.Sl.HP) x9.1) (fun kk hk => ?_) ?_)
  · (focus
      refine Xg.at_draw [11] [(3, [0, 1, 2, 3, 4, 5, 6, 7], Xg.CellIs (r) (((1 : Nat))) ((iv 0))), (7, [0, 1, 2, 3, 4, 5, 6, 7], (RdIs (3 : Nat) (Value.slice ca [((↑n : Int), fa, (1 : Nat), fc)].length cc) [((↑n : Int), fa, (1 : Nat), fc)].length (recs clC [((↑n : Int), fa, (1 : Nat), fc)])))] (by kernel_rfl) ?_
      refine Xg.any_pure ((pv r 0)) 0 (by kernel_rfl) rfl (by kernel_rfl) (by kernel_rfl) (by kernel_rfl) (by kernel_rfl) rfl (fun _ => by kernel_rfl) ?_
      refine Xg.any_pure ((pv r 0)) 1 (by kernel_rfl) rfl (by kernel_rfl) (by kernel_rfl) (by kernel_rfl) (by kernel_rfl) rfl (fun _ => by kernel_rfl) ?_
      refine Xg.any_pure ((pv r 1)) 2 (by kernel_rfl) rfl (by kernel_rfl) (by kernel_rfl) (by kernel_rfl) (by kernel_rfl) rfl (fun _ => by kernel_rfl) ?_
      refine Xg.any_reads (iv 0) 3 0 (by kernel_rfl) rfl (by kernel_rfl) (by kernel_rfl) (by kernel_rfl) (by kernel_rfl) rfl rfl (by kernel_rfl) (Xg.cell_now (b := r) (off := ((1 : Nat))) 8 rfl (by kernel_rfl)) (fun _ h => Xg.run_load (by kernel_rfl) (by kernel_rfl) h) ?_
      refine Xg.any_pure ((pv (blk ca) 0)) 4 (by kernel_rfl) rfl (by kernel_rfl) (by kernel_rfl) (by kernel_rfl) (by kernel_rfl) rfl (fun _ => by kernel_rfl) ?_
      refine Xg.any_pure ((pv (blk ca) 0)) 5 (by kernel_rfl) rfl (by kernel_rfl) (by kernel_rfl) (by kernel_rfl) (by kernel_rfl) rfl (fun _ => by kernel_rfl) ?_
      refine Xg.any_pure ((pv (blk ca) 0)) 6 (by kernel_rfl) rfl (by kernel_rfl) (by kernel_rfl) (by kernel_rfl) (by kernel_rfl) rfl (fun _ => by kernel_rfl) ?_
      refine Xg.any_reads (iv (↑n : Int)) 7 1 (by kernel_rfl) rfl (by kernel_rfl) (by kernel_rfl) (by kernel_rfl) (by kernel_rfl) rfl rfl (by kernel_rfl) (Xg.rd_now 1 (Xg.reads_own (E := ((98 : Nat))) (sz := ((3 : Nat))) (n := ([((↑n : Int), fa, (1 : Nat), fc)].length)) (c := cc) (a := ca) (vs := (recs clC [((↑n : Int), fa, (1 : Nat), fc)]))) (by kernel_rfl)) (Xg.run_load_rd (off0 := ((0 : Nat))) ((0 : Nat)) (by kernel_rfl) (by omega) (Xg.get_recs' (wd := 3) (fun _ => rfl) default ((0 : Nat)) 0 (by omega) (by decide) (by omega) (by kernel_rfl)) (by kernel_rfl)) ?_
      refine Xg.any_int .i64 (IntKind.wrap .i64 (((0 : Int) + (↑n : Int)))) 8 (by kernel_rfl) rfl (by kernel_rfl) (by kernel_rfl) (by kernel_rfl) (by kernel_rfl) rfl (fun _ => by kernel_rfl) (Xg.wrap_i64_in (by omega)) ?_
      refine Xg.any_pure ((pv r 0)) 9 (by kernel_rfl) rfl (by kernel_rfl) (by kernel_rfl) (by kernel_rfl) (by kernel_rfl) rfl (fun _ => by kernel_rfl) ?_
      refine Xg.any_pure ((pv r 1)) 10 (by kernel_rfl) rfl (by kernel_rfl) (by kernel_rfl) (by kernel_rfl) (by kernel_rfl) rfl (fun _ => by kernel_rfl) ?_
      refine Xg.any_each [11] (by kernel_rfl) rfl ⟨?_, trivial⟩
      refine Xg.comes_act rfl (by kernel_rfl) (by kernel_rfl) (Xg.opx_store1 (off := 1) 8 (iv ((0 : Int) + (↑n : Int))) (by kernel_rfl) rfl (by kernel_rfl) (by kernel_rfl) (by kernel_rfl) (Nat.le_of_ble_eq_true (by kernel_rfl)) ?_)
      refine Xg.acts (Xg.owes_skip (by kernel_rfl) (Xg.owes_skip (by kernel_rfl) Xg.owes_nil)) ?_
      refine Xg.any_nil (by kernel_rfl) ?_)
    rw [Int.zero_add]
    (focus
      refine Xg.at_keep [4, 1, 7, 5, 8, 2, 0, 6] (by kernel_rfl) ?_
      refine Xg.At.same (by kernel_rfl) ?_ (hk ((()), fun j9 => ([pv p 0, iv 0, iv size, iv 0, tu, tu, pv xb1 0, tu, pv xb2 0, iv 0, pv r 0, iv 0, pv (blk ca) 0, iv 2, iv 0, pv p 0, iv 0, pv r 0, pv r 0, Value.bool false, tu, pv p 0, pv p 0, pv p 0, Value.slice ca (1 : Nat) cc, Value.func (Fn.func (40 : Nat)) #[] #[pv xb1 0], iv 0, iv size, Value.bool (decide (size < (1 : Int))), Value.bool false, iv 0, Value.bool false, Value.bool false, tu, pv p 0, pv p 0, pv p 0, Value.slice ca (1 : Nat) cc, iv 0, pv (blk ca) 0, pv (blk ca) 0, pv (blk ca) 0, pv (blk ca) 1, pv (blk ca) 1, Value.slice fa (2 : Nat) fc, iv 2, Value.bool (decide ((↑n : Int) > q - (0 : Int))), pv (blk ca) 0, pv (blk ca) 0, pv (blk ca) 0, iv (↑n : Int), pv r 0, pv r 0, pv r 0, iv q, pv r 0, pv r 0, pv r 1, iv 0, iv (q - (0 : Int)), Value.bool (decide ((↑n : Int) > q - (0 : Int))), tu, Value.bool false, iv 2, Value.bool false, tu, iv 0, Value.bool false, tu, tu, tu, pv (blk ca) 0, pv (blk ca) 0, pv (blk ca) 1, iv 0, iv 2, iv 0, iv 0, pv p 0, pv p 0, pv p 1, Value.slice ba (2 : Nat) bc, iv 0, pv (blk ca) 0, pv (blk ca) 0, pv (blk ca) 0, iv (↑n : Int), Value.slice xa1 n n, pv (blk ba) 0, pv (blk ba) 1, pv r 0, pv r 0, pv r 1, iv 0, pv (blk ca) 0, pv (blk ca) 0, pv (blk ca) 0, iv (↑n : Int), iv (↑n : Int), pv r 0, pv r 1, tu, tu, tu, tu, tu, tu, tu, tu, tu, tu, tu, tu, tu] : List Value).getD j9 undef) ?_))
    · rfl
    · trivial
  rintro ⟨un, J⟩ _
  (focus
    refine Xg.At.same (T' := [pv p 0, iv 0, iv size, iv 0, tu, tu, pv xb1 0, tu, pv xb2 0, iv 0, pv r 0, iv 0, pv (blk ca) 0, iv 2, iv 0, pv p 0, iv 0, pv r 0, pv r 0, Value.bool false, tu, pv p 0, pv p 0, pv p 0, Value.slice ca (1 : Nat) cc, Value.func (Fn.func (40 : Nat)) #[] #[pv xb1 0], iv 0, iv size, Value.bool (decide (size < (1 : Int))), Value.bool false, iv 0, Value.bool false, Value.bool false, tu, pv p 0, pv p 0, pv p 0, Value.slice ca (1 : Nat) cc, iv 0, pv (blk ca) 0, pv (blk ca) 0, pv (blk ca) 0, pv (blk ca) 1, pv (blk ca) 1, Value.slice fa (2 : Nat) fc, iv 2, Value.bool (decide ((↑n : Int) > q - (0 : Int))), pv (blk ca) 0, pv (blk ca) 0, pv (blk ca) 0, iv (↑n : Int), pv r 0, pv r 0, pv r 0, iv q, pv r 0, pv r 0, pv r 1, iv 0, iv (q - (0 : Int)), Value.bool (decide ((↑n : Int) > q - (0 : Int))), tu, Value.bool false, iv 2, Value.bool false, tu, iv 0, Value.bool false, tu, tu, tu, pv (blk ca) 0, pv (blk ca) 0, pv (blk ca) 1, iv 0, iv 2, iv 0, iv 0, pv p 0, pv p 0, pv p 1, Value.slice ba (2 : Nat) bc, iv 0, pv (blk ca) 0, pv (blk ca) 0, pv (blk ca) 0, iv (↑n : Int), Value.slice xa1 n n, pv (blk ba) 0, pv (blk ba) 1, J 90, J 91, J 92, J 93, J 94, J 95, J 96, J 97, J 98, J 99, J 100, tu, tu, tu, tu, tu, tu, tu, tu, tu, tu, tu, tu, tu]) (L' := [H2 p ab ca cc ba bc, C2 ca cc (↑n : Int) fa (1 : Nat) fc, B2 ba bc ((0 : Int), xa1, n, n) ((0 : Int), nA, (0 : Nat), (0 : Nat)), A2 ab r, R2 r q (↑n : Int) none (0 : Nat) (0 : Nat), I2 fa fc [(1 : Int)], Y2 xa1 n (List.replicate n (0 : Int)), row xb2 (42 : TypeId) [iv 0, iv 0, iv 0]]) (by kernel_rfl) rfl ?_)
  refine Xg.at_nil_ints 3 .i64 ?_
  have hls1 := hls xa1
  (focus
    refine Xg.at_seq ?_
    refine Xg.at_region ?_
    refine Xg.ops_op (by kernel_rfl) (Xg.opx_pure ((pv r 0)) rfl (fun _ => by kernel_rfl) ?_)
    refine Xg.ops_op (by kernel_rfl) (Xg.opx_pure ((pv r 0)) rfl (fun _ => by kernel_rfl) ?_)
    refine Xg.ops_op (by kernel_rfl) (Xg.opx_pure ((pv r 0)) rfl (fun _ => by kernel_rfl) ?_)
    refine Xg.ops_op (by kernel_rfl) (Xg.opx_pure ((pv r 2)) rfl (fun _ => by kernel_rfl) ?_)
    refine Xg.ops_op (by kernel_rfl) (Xg.opx_load (b := r) (off := ((2 : Nat))) 5 (Value.slice none (0 : Nat) (0 : Nat)) rfl (by kernel_rfl) (by kernel_rfl) (by kernel_rfl) ?_)
    refine Xg.ops_op (by kernel_rfl) (Xg.opx_pure ((iv 0)) rfl (fun _ => by kernel_rfl) ?_)
    refine Xg.ops_op (by kernel_rfl) (Xg.opx_bs (elem := 3) 1 [iv 0] [iv 0] (by kernel_rfl) (by kernel_rfl) (by decide) rfl (by kernel_rfl) (by kernel_rfl) (by kernel_rfl) (by kernel_rfl) fun xb3 => ?_)
    refine Xg.ops_op (by kernel_rfl) (Xg.opx_append_ints (kd := .i64) (yv := (Value.slice (some (Addr.mk xb3 (0 : Nat) none)) (1 : Nat) (1 : Nat))) (m := ((1 : Nat))) (xs := []) (elem := 3) 1 8 [(0 : Int)] rfl (by kernel_rfl) (by kernel_rfl) (by kernel_rfl) (by kernel_rfl) (by first | rfl | assumption | omega | (simp; done) | (simp; omega)) (fun _ hS => Xg.row_rd hS 0 rfl (by kernel_rfl)) (by first | omega | (simp only [List.length_nil, List.length_cons]; omega) | (simp; omega)) (by first | omega | (simp only [List.length_nil, List.length_cons]; omega) | (simp; omega)) fun xa2 xc1 => ?_)
    have xl2 : ([] ++ [(0 : Int)] : List Int).length = ([] : List Int).length + ((1 : Nat)) := by first | (simp; done) | (simp; omega)
    refine Xg.ops_op (by kernel_rfl) (Xg.opx_pure ((pv r 0)) rfl (fun _ => by kernel_rfl) ?_)
    refine Xg.ops_op (by kernel_rfl) (Xg.opx_pure ((pv r 2)) rfl (fun _ => by kernel_rfl) ?_)
    refine Xg.ops_op (by kernel_rfl) (Xg.opx_store1 (off := 2) 6 (Value.slice xa2 (1 : Nat) xc1) (by kernel_rfl) rfl (by kernel_rfl) (by kernel_rfl) (by kernel_rfl) (Nat.le_of_ble_eq_true (by kernel_rfl)) ?_)
    refine Xg.ops_nil ?_
    refine Xg.at_seq ?_
    refine Xg.at_region ?_
    refine Xg.ops_op (by kernel_rfl) (Xg.opx_pure ((pv p 0)) rfl (fun _ => by kernel_rfl) ?_)
    refine Xg.ops_op (by kernel_rfl) (Xg.opx_pure ((iv 0)) rfl (fun _ => by kernel_rfl) ?_)
    refine Xg.ops_op (by kernel_rfl) (Xg.opx_call1' [2, 3, 4] [H2 p ab ca cc ba bc, C2 ca cc (↑n : Int) fa (1 : Nat) fc, B2 ba bc ((0 : Int), xa1, n, n) ((0 : Int), nA, (0 : Nat), (0 : Nat)), row xb3 (3 : TypeId) [iv 0], ints (3 : TypeId) IntKind.i64 xa2 xc1 ([] ++ [(0 : Int)]), A2 ab r, row r (105 : TypeId) [iv q, iv (↑n : Int), Value.slice xa2 (1 : Nat) xc1], I2 fa fc [(1 : Int)], Y2 xa1 n (List.replicate n (0 : Int)), row xb2 (42 : TypeId) [iv 0, iv 0, iv 0]] (fun _ => by kernel_rfl) (@hls1 ) (by kernel_rfl) (by kernel_rfl) (by kernel_rfl) ?_)
    refine Xg.ops_op (by kernel_rfl) (Xg.opx_storen 3 (off := 0) 9 [iv 0, iv 0, iv (↑n : Int)] (by kernel_rfl) rfl (by kernel_rfl) (by kernel_rfl) rfl (by kernel_rfl) (Nat.le_of_ble_eq_true (by kernel_rfl)) ?_)
    refine Xg.ops_op (by kernel_rfl) (Xg.opx_pure ((iv 0)) rfl (fun _ => by kernel_rfl) ?_)
    refine Xg.ops_nil ?_
    refine Xg.at_ret_feed (v := (Value.tuple #[Value.agg #[iv 0, iv 0, iv (↑n : Int)], iv 0])) [(Addr.mk xb2 (0 : Nat) none), (Addr.mk xb2 (1 : Nat) none), (Addr.mk xb2 (2 : Nat) none)] [iv 0, iv 0, iv (↑n : Int)] [0, 1, 2, 5, 6, 7, 8, 4] [H2 p ab ca cc ba bc, C2 ca cc (↑n : Int) fa (1 : Nat) fc, B2 ba bc ((0 : Int), xa1, n, n) ((0 : Int), nA, (0 : Nat), (0 : Nat)), A2 ab r, row r (105 : TypeId) [iv q, iv (↑n : Int), Value.slice xa2 (1 : Nat) xc1], I2 fa fc [(1 : Int)], Y2 xa1 n (List.replicate n (0 : Int)), ints (3 : TypeId) IntKind.i64 xa2 xc1 ([] ++ [(0 : Int)])] Go.Proofs.Try.func17 (by kernel_rfl) (Xg.cells_cons (b := xb2) (off := 0) 9 rfl (by kernel_rfl) (Xg.cells_cons (b := xb2) (off := 1) 9 rfl (by kernel_rfl) (Xg.cells_cons (b := xb2) (off := 2) 9 rfl (by kernel_rfl) Xg.cells_nil))) (by kernel_rfl) (by kernel_rfl) ?_
    refine ⟨((xa1, xa2, xc1)), ?_, by kernel_rfl, by kernel_rfl⟩)
  assumption
theorem take1_d (p ab r : Nat) (ca : Option Addr) (cc : Nat) (ba : Option Addr) (bc : Nat) (n : Nat) (hn : 1 ≤ n) (hn3 : n ≤ 300) (fa : Option Addr) (fc : Nat) (q : Int) (hq : (n : Int) + n ≤ q ∧ q ≤ 1000) (xa ta : Option Addr) (tc : Nat) (size : Int) (hs : 1 ≤ size ∧ size ≤ n) :
    Does Try.prog 17 [.pointer (some ⟨p, 0, none⟩), .int .i64 0, .int .i64 size, .int .i64 0] [H2 p ab ca cc ba bc, C2 ca cc n fa 1 fc, B2 ba bc (0, xa, n, n) (0, nA, 0, 0), A2 ab r, R2 r q n ta 1 tc, I2 fa fc [1], I2 ta tc [0]]
    (RetE (fun x : Option Addr × Option Addr × Nat => x.1.isNone = false) (fun x => .tuple #[.agg #[.int .i64 1, .int .i64 0, .int .i64 (n : Nat)], .int .i64 0])
      (fun x => [H2 p ab ca cc ba bc, C2 ca cc n fa 0 fc, B2 ba bc (0, xa, n, n) (0, x.1, n, n), A2 ab r, R2 r q ((n : Int) + n) x.2.1 2 x.2.2, I2 fa fc [], Y2 x.1 n (List.replicate n 0), I2 x.2.1 x.2.2 [0, 1]])) := by
  have ho := of1_d p ab r ca cc ba bc
  have hi := fun b => idx_d b ca cc n size fa 1 fc hs.2
  have ht : Does Try.prog 41 [.pointer (some ⟨blk ca, 1, none⟩), .int .i64 0] [C2 ca cc n fa 1 fc, I2 fa fc [1]] (Ret (.int .i64 1) [C2 ca cc n fa 0 fc, I2 fa fc []]) := take_d ca cc n fa fc 1 []
  have hls := fun ya => lease_d p ab ca cc ba bc n fa 0 fc (0, xa, n, n) (0, ya, n, n) rfl rfl 1 (by decide)
  have hl1 : ([((n : Int), fa, 0, fc)] : List (Int × Option Addr × Nat × Nat)).length = 1 := rfl
  have hl2 : ([((n : Int), fa, 1, fc)] : List (Int × Option Addr × Nat × Nat)).length = 1 := rfl
  have hl3 : ([((0 : Int), xa, n, n), (0, nA, 0, 0)] : List (Int × Option Addr × Nat × Nat)).length = 2 := rfl
  have hl4 : ([0] : List Int).length = 1 := rfl
  have hl5 : ([1] : List Int).length = 1 := rfl
  (focus
    refine Xg.spec_of Go.Proofs.Try.func17 rfl Go.Proofs.Try.ntmps17 fun g F => ?_)
  refine Xg.at_off 1 rfl (by omega) fun hoff => ?_
  refine Xg.at_off 2 rfl (by omega) fun hoff2 => ?_
  (focus
    refine Xg.at_seq ?_
    refine Xg.at_region ?_
    refine Xg.ops_op (by kernel_rfl) (Xg.opx_box (v := (iv size)) [(iv size)] (by kernel_rfl) (by kernel_rfl) fun xb1 => ?_)
    refine Xg.ops_op (by kernel_rfl) (Xg.opx_new 3 [iv 0, iv 0, iv 0] (by kernel_rfl) (by kernel_rfl) fun xb2 => ?_)
    refine Xg.ops_op (by kernel_rfl) (Xg.opx_pure ((iv 0)) rfl (fun _ => by kernel_rfl) ?_)
    refine Xg.ops_nil ?_
    refine Xg.at_seq ?_
    refine Xg.at_region ?_
    refine Xg.ops_op (by kernel_rfl) (Xg.opx_pure ((pv p 0)) rfl (fun _ => by kernel_rfl) ?_)
    refine Xg.ops_op (by kernel_rfl) (Xg.opx_pure ((iv 0)) rfl (fun _ => by kernel_rfl) ?_)
    refine Xg.ops_op (by kernel_rfl) (Xg.opx_call1' [2, 5] [H2 p ab ca cc ba bc, A2 ab r, row xb2 (42 : Nat) [iv 0, iv 0, iv 0], row xb1 (3 : Nat) [iv size], C2 ca cc (↑n : Int) fa (1 : Nat) fc, B2 ba bc ((0 : Int), xa, n, n) ((0 : Int), nA, (0 : Nat), (0 : Nat)), R2 r q (↑n : Int) ta (1 : Nat) tc, I2 fa fc [(1 : Int)], I2 ta tc [(0 : Int)]] (fun _ => by kernel_rfl) (@ho ) (by kernel_rfl) (by kernel_rfl) (by kernel_rfl) ?_)
    refine Xg.ops_op (by kernel_rfl) (Xg.opx_pure ((pv r 0)) rfl (fun _ => by kernel_rfl) ?_)
    refine Xg.ops_nil ?_
    refine Xg.at_seq ?_
    refine Xg.at_seq ?_
    refine Xg.at_region ?_
    refine Xg.ops_op (by kernel_rfl) (Xg.opx_pure ((pv r 0)) rfl (fun _ => by kernel_rfl) ?_)
    refine Xg.ops_op (by kernel_rfl) (Xg.opx_pure ((Value.bool false)) rfl (fun _ => by kernel_rfl) ?_)
    refine Xg.ops_nil ?_
    refine Xg.at_false (t := false) (by kernel_rfl) rfl ?_
    refine Xg.at_skip ?_
    refine Xg.at_seq ?_
    refine Xg.at_region ?_
    refine Xg.ops_op (by kernel_rfl) (Xg.opx_pure ((pv p 0)) rfl (fun _ => by kernel_rfl) ?_)
    refine Xg.ops_op (by kernel_rfl) (Xg.opx_pure ((pv p 0)) rfl (fun _ => by kernel_rfl) ?_)
    refine Xg.ops_op (by kernel_rfl) (Xg.opx_pure ((pv p 0)) rfl (fun _ => by kernel_rfl) ?_)
    refine Xg.ops_op (by kernel_rfl) (Xg.opx_load (b := p) (off := ((0 : Nat))) 0 (Value.slice ca (1 : Nat) cc) rfl (by kernel_rfl) (by kernel_rfl) (by kernel_rfl) ?_)
    refine Xg.ops_op (by kernel_rfl) (Xg.opx_pure ((Value.func (Fn.func (40 : Nat)) #[] #[pv xb1 0])) rfl (fun _ => by kernel_rfl) ?_)
    refine Xg.ops_op (by kernel_rfl) (Xg.opx_call1' [4, 3] [C2 ca cc (↑n : Int) fa (1 : Nat) fc, row xb1 (3 : TypeId) [iv size], H2 p ab ca cc ba bc, A2 ab r, row xb2 (42 : Nat) [iv 0, iv 0, iv 0], B2 ba bc ((0 : Int), xa, n, n) ((0 : Int), nA, (0 : Nat), (0 : Nat)), R2 r q (↑n : Int) ta (1 : Nat) tc, I2 fa fc [(1 : Int)], I2 ta tc [(0 : Int)]] (fun _ => by kernel_rfl) (@hi (xb1)) (by kernel_rfl) (by kernel_rfl) (by kernel_rfl) ?_)
    refine Xg.ops_op (by kernel_rfl) (Xg.opx_pure ((iv 0)) rfl (fun _ => by kernel_rfl) ?_)
    refine Xg.ops_nil ?_
    refine Xg.at_seq ?_
    refine Xg.at_seq ?_
    refine Xg.at_region ?_
    refine Xg.ops_op (by kernel_rfl) (Xg.opx_load (b := xb1) (off := ((0 : Nat))) 1 (iv size) rfl (by kernel_rfl) (by kernel_rfl) (by kernel_rfl) ?_)
    refine Xg.ops_op (by kernel_rfl) (Xg.opx_pure (.bool (decide ((size : Int) < ((1 : Int))))) rfl (fun _ => by kernel_rfl) ?_)
    refine Xg.ops_op (by kernel_rfl) (Xg.opx_pure ((Value.bool (decide (size < (1 : Int))))) rfl (fun _ => by kernel_rfl) ?_)
    refine Xg.ops_flag (j := 29) (c := (decide (size < (1 : Int)))) (by kernel_rfl) (fun xh1 => absurd (of_decide_eq_true xh1) (by omega)) (fun _ => ?_)
    refine Xg.ops_op (by kernel_rfl) (Xg.opx_pure ((iv 0)) rfl (fun _ => by kernel_rfl) ?_)
    refine Xg.ops_op (by kernel_rfl) (Xg.opx_pure ((Value.bool false)) rfl (fun _ => by kernel_rfl) ?_)
    refine Xg.ops_op (by kernel_rfl) (Xg.opx_pure ((Value.bool false)) rfl (fun _ => by kernel_rfl) ?_)
    refine Xg.ops_nil ?_
    refine Xg.at_false (t := false) (by kernel_rfl) rfl ?_
    refine Xg.at_skip ?_
    refine Xg.at_seq ?_
    refine Xg.at_region ?_
    refine Xg.ops_op (by kernel_rfl) (Xg.opx_pure ((pv p 0)) rfl (fun _ => by kernel_rfl) ?_)
    refine Xg.ops_op (by kernel_rfl) (Xg.opx_pure ((pv p 0)) rfl (fun _ => by kernel_rfl) ?_)
    refine Xg.ops_op (by kernel_rfl) (Xg.opx_pure ((pv p 0)) rfl (fun _ => by kernel_rfl) ?_)
    refine Xg.ops_op (by kernel_rfl) (Xg.opx_load (b := p) (off := ((0 : Nat))) 2 (Value.slice ca (1 : Nat) cc) rfl (by kernel_rfl) (by kernel_rfl) (by kernel_rfl) ?_)
    refine Xg.ops_op (by kernel_rfl) (Xg.opx_pure ((iv 0)) rfl (fun _ => by kernel_rfl) ?_)
    refine Xg.ops_op (by kernel_rfl) (Xg.opx_ix_own (elem := 98) (kd := .i64) (e := ((0 : Int))) 0 3 ((0 : Nat)) ((0 : Nat)) rfl (by kernel_rfl) (by kernel_rfl) (by kernel_rfl) (by kernel_rfl) rfl (by omega) (by omega) ?_)
    refine Xg.ops_op (by kernel_rfl) (Xg.opx_pure ((pv (blk ca) 0)) rfl (fun _ => by kernel_rfl) ?_)
    refine Xg.ops_nil ?_
    refine Xg.at_seq ?_
    refine Xg.at_region ?_
    refine Xg.ops_op (by kernel_rfl) (Xg.opx_pure ((pv (blk ca) 0)) rfl (fun _ => by kernel_rfl) ?_)
    refine Xg.ops_op (by kernel_rfl) (Xg.opx_pure ((pv (blk ca) 0)) rfl (fun _ => by kernel_rfl) ?_)
    refine Xg.ops_op (by kernel_rfl) (Xg.opx_pure ((pv (blk ca) 1)) rfl (fun _ => by kernel_rfl) ?_)
    refine Xg.ops_op (by kernel_rfl) (Xg.opx_pure ((pv (blk ca) 1)) rfl (fun _ => by kernel_rfl) ?_)
    refine Xg.ops_op (by kernel_rfl) (Xg.opx_load_own (a := ca) (off := ((1 : Nat))) 0 (Value.slice fa (1 : Nat) fc) rfl (by kernel_rfl) (Xg.get_recs' (wd := 3) (fun _ => rfl) default ((0 : Nat)) 1 (by omega) (by decide) (by omega) (by kernel_rfl)) (by kernel_rfl) ?_)
    refine Xg.ops_op (by kernel_rfl) (Xg.opx_pure ((iv 1)) rfl (fun _ => by kernel_rfl) ?_)
    refine Xg.ops_op (by kernel_rfl) (Xg.opx_pure ((iv 1)) rfl (fun _ => by kernel_rfl) ?_)
    refine Xg.ops_nil ?_
    refine Xg.at_seq ?_
    refine Xg.at_block ?_
    refine Xg.at_seq ?_
    refine Xg.at_draw [] [(3, [0, 1, 2, 3, 4, 5, 6, 7, 8, 9, 10, 11, 12], (RdIs (3 : Nat) (Value.slice ca [((↑n : Int), fa, (1 : Nat), fc)].length cc) [((↑n : Int), fa, (1 : Nat), fc)].length (recs clC [((↑n : Int), fa, (1 : Nat), fc)]))), (7, [0, 1, 2, 3, 4, 5, 6, 7, 8, 9, 10, 11], Xg.CellIs (r) (((0 : Nat))) ((iv q))), (11, [0, 1, 2, 3, 4, 5, 6, 7, 8, 9, 10, 11], Xg.CellIs (r) (((1 : Nat))) ((iv (↑n : Int))))] (by kernel_rfl) ?_
    refine Xg.any_pure ((pv (blk ca) 0)) 0 (by kernel_rfl) rfl (by kernel_rfl) (by kernel_rfl) (by kernel_rfl) (by kernel_rfl) rfl (fun _ => by kernel_rfl) ?_
    refine Xg.any_pure ((pv (blk ca) 0)) 1 (by kernel_rfl) rfl (by kernel_rfl) (by kernel_rfl) (by kernel_rfl) (by kernel_rfl) rfl (fun _ => by kernel_rfl) ?_
    refine Xg.any_pure ((pv (blk ca) 0)) 2 (by kernel_rfl) rfl (by kernel_rfl) (by kernel_rfl) (by kernel_rfl) (by kernel_rfl) rfl (fun _ => by kernel_rfl) ?_
    refine Xg.any_reads (iv (↑n : Int)) 3 0 (by kernel_rfl) rfl (by kernel_rfl) (by kernel_rfl) (by kernel_rfl) (by kernel_rfl) rfl rfl (by kernel_rfl) (Xg.rd_now 0 (Xg.reads_own (E := ((98 : Nat))) (sz := ((3 : Nat))) (n := ([((↑n : Int), fa, (1 : Nat), fc)].length)) (c := cc) (a := ca) (vs := (recs clC [((↑n : Int), fa, (1 : Nat), fc)]))) (by kernel_rfl)) (Xg.run_load_rd (off0 := ((0 : Nat))) ((0 : Nat)) (by kernel_rfl) (by omega) (Xg.get_recs' (wd := 3) (fun _ => rfl) default ((0 : Nat)) 0 (by omega) (by decide) (by omega) (by kernel_rfl)) (by kernel_rfl)) ?_
    refine Xg.any_pure ((pv r 0)) 4 (by kernel_rfl) rfl (by kernel_rfl) (by kernel_rfl) (by kernel_rfl) (by kernel_rfl) rfl (fun _ => by kernel_rfl) ?_
    refine Xg.any_pure ((pv r 0)) 5 (by kernel_rfl) rfl (by kernel_rfl) (by kernel_rfl) (by kernel_rfl) (by kernel_rfl) rfl (fun _ => by kernel_rfl) ?_
    refine Xg.any_pure ((pv r 0)) 6 (by kernel_rfl) rfl (by kernel_rfl) (by kernel_rfl) (by kernel_rfl) (by kernel_rfl) rfl (fun _ => by kernel_rfl) ?_
    refine Xg.any_reads (iv q) 7 1 (by kernel_rfl) rfl (by kernel_rfl) (by kernel_rfl) (by kernel_rfl) (by kernel_rfl) rfl rfl (by kernel_rfl) (Xg.cell_now (b := r) (off := ((0 : Nat))) 6 rfl (by kernel_rfl)) (fun _ h => Xg.run_load (by kernel_rfl) (by kernel_rfl) h) ?_
    refine Xg.any_pure ((pv r 0)) 8 (by kernel_rfl) rfl (by kernel_rfl) (by kernel_rfl) (by kernel_rfl) (by kernel_rfl) rfl (fun _ => by kernel_rfl) ?_
    refine Xg.any_pure ((pv r 0)) 9 (by kernel_rfl) rfl (by kernel_rfl) (by kernel_rfl) (by kernel_rfl) (by kernel_rfl) rfl (fun _ => by kernel_rfl) ?_
    refine Xg.any_pure ((pv r 1)) 10 (by kernel_rfl) rfl (by kernel_rfl) (by kernel_rfl) (by kernel_rfl) (by kernel_rfl) rfl (fun _ => by kernel_rfl) ?_
    refine Xg.any_reads (iv (↑n : Int)) 11 2 (by kernel_rfl) rfl (by kernel_rfl) (by kernel_rfl) (by kernel_rfl) (by kernel_rfl) rfl rfl (by kernel_rfl) (Xg.cell_now (b := r) (off := ((1 : Nat))) 6 rfl (by kernel_rfl)) (fun _ h => Xg.run_load (by kernel_rfl) (by kernel_rfl) h) ?_
    refine Xg.any_int .i64 (IntKind.wrap .i64 ((q - (↑n : Int)))) 12 (by kernel_rfl) rfl (by kernel_rfl) (by kernel_rfl) (by kernel_rfl) (by kernel_rfl) rfl (fun _ => by kernel_rfl) (Xg.wrap_i64_in (by omega)) ?_
    refine Xg.any_pure (.bool (decide ((((↑n : Int)) : Int) > (q - (↑n : Int))))) 13 (by kernel_rfl) rfl (by kernel_rfl) (by kernel_rfl) (by kernel_rfl) (by kernel_rfl) rfl (fun _ => by kernel_rfl) ?_
    refine Xg.any_pure ((Value.bool (decide ((↑n : Int) > q - (↑n : Int))))) 14 (by kernel_rfl) rfl (by kernel_rfl) (by kernel_rfl) (by kernel_rfl) (by kernel_rfl) rfl (fun _ => by kernel_rfl) ?_
    refine Xg.any_nil (by kernel_rfl) ?_
    refine Xg.at_false (t := decide (((↑n : Int) > q - (↑n : Int)))) (by kernel_rfl) (decide_eq_false (by omega)) ?_
    refine Xg.at_seq ?_
    refine Xg.at_region ?_
    refine Xg.ops_op (by kernel_rfl) (Xg.opx_pure ((iv 1)) rfl (fun _ => by kernel_rfl) ?_)
    refine Xg.ops_op (by kernel_rfl) (Xg.opx_pure ((Value.bool false)) rfl (fun _ => by kernel_rfl) ?_)
    refine Xg.ops_op (by kernel_rfl) (Xg.opx_pure ((Value.bool false)) rfl (fun _ => by kernel_rfl) ?_)
    refine Xg.ops_nil ?_
    refine Xg.at_false (t := false) (by kernel_rfl) rfl ?_
    refine Xg.at_skip ?_
    refine Xg.at_inBlock ?_
    refine Xg.at_seq ?_
    refine Xg.at_seq ?_
    refine Xg.at_region ?_
    refine Xg.ops_op (by kernel_rfl) (Xg.opx_pure ((iv 0)) rfl (fun _ => by kernel_rfl) ?_)
    refine Xg.ops_op (by kernel_rfl) (Xg.opx_pure ((Value.bool false)) rfl (fun _ => by kernel_rfl) ?_)
    refine Xg.ops_nil ?_
    refine Xg.at_false (t := false) (by kernel_rfl) rfl ?_
    refine Xg.at_skip ?_
    refine Xg.at_seq ?_
    refine Xg.at_draw [6] [] (by kernel_rfl) ?_
    refine Xg.any_pure ((pv (blk ca) 0)) 0 (by kernel_rfl) rfl (by kernel_rfl) (by kernel_rfl) (by kernel_rfl) (by kernel_rfl) rfl (fun _ => by kernel_rfl) ?_
    refine Xg.any_pure ((pv (blk ca) 0)) 1 (by kernel_rfl) rfl (by kernel_rfl) (by kernel_rfl) (by kernel_rfl) (by kernel_rfl) rfl (fun _ => by kernel_rfl) ?_
    refine Xg.any_pure ((pv (blk ca) 1)) 2 (by kernel_rfl) rfl (by kernel_rfl) (by kernel_rfl) (by kernel_rfl) (by kernel_rfl) rfl (fun _ => by kernel_rfl) ?_
    refine Xg.any_pure ((iv 0)) 3 (by kernel_rfl) rfl (by kernel_rfl) (by kernel_rfl) (by kernel_rfl) (by kernel_rfl) rfl (fun _ => by kernel_rfl) ?_
    refine Xg.any_pure ((iv 1)) 4 (by kernel_rfl) rfl (by kernel_rfl) (by kernel_rfl) (by kernel_rfl) (by kernel_rfl) rfl (fun _ => by kernel_rfl) ?_
    refine Xg.any_pure ((iv 0)) 5 (by kernel_rfl) rfl (by kernel_rfl) (by kernel_rfl) (by kernel_rfl) (by kernel_rfl) rfl (fun _ => by kernel_rfl) ?_
    refine Xg.any_each [6] (by kernel_rfl) rfl ⟨?_, trivial⟩
    refine Xg.comes_act rfl (by kernel_rfl) (by kernel_rfl) (Xg.opx_call1' [0, 7] [C2 ca cc (↑n : Int) fa (0 : Nat) fc, I2 fa fc [], row xb1 (3 : TypeId) [iv size], H2 p ab ca cc ba bc, A2 ab r, row xb2 (42 : Nat) [iv 0, iv 0, iv 0], B2 ba bc ((0 : Int), xa, n, n) ((0 : Int), nA, (0 : Nat), (0 : Nat)), R2 r q (↑n : Int) ta (1 : Nat) tc, I2 ta tc [(0 : Int)]] (fun _ => by kernel_rfl) (@ht ) (by kernel_rfl) (by kernel_rfl) (by kernel_rfl) ?_)
    refine Xg.acts Xg.owes_nil ?_
    refine Xg.any_pure ((iv 1)) 7 (by kernel_rfl) rfl (by kernel_rfl) (by kernel_rfl) (by kernel_rfl) (by kernel_rfl) rfl (fun _ => by kernel_rfl) ?_
    refine Xg.any_nil (by kernel_rfl) ?_
    refine Xg.at_seq ?_
    refine Xg.at_draw [9, 12] [(3, [0, 1, 2, 3, 4, 5, 6, 7, 8, 9], Xg.CellIs (p) (((1 : Nat))) ((Value.slice ba (2 : Nat) bc))), (8, [0, 1, 2, 3, 4, 5, 6, 7, 8], (RdIs (3 : Nat) (Value.slice ca [((↑n : Int), fa, (0 : Nat), fc)].length cc) [((↑n : Int), fa, (0 : Nat), fc)].length (recs clC [((↑n : Int), fa, (0 : Nat), fc)]))), (10, [0, 1, 2, 3, 4, 5, 6, 7, 8, 9, 10], (RdIs (2 : Nat) (Value.slice ba [((0 : Int), xa, n, n), ((0 : Int), nA, (0 : Nat), (0 : Nat))].length bc) [((0 : Int), xa, n, n), ((0 : Int), nA, (0 : Nat), (0 : Nat))].length (recs bfC [((0 : Int), xa, n, n), ((0 : Int), nA, (0 : Nat), (0 : Nat))])))] (by kernel_rfl) ?_
    refine Xg.any_pure ((pv p 0)) 0 (by kernel_rfl) rfl (by kernel_rfl) (by kernel_rfl) (by kernel_rfl) (by kernel_rfl) rfl (fun _ => by kernel_rfl) ?_
    refine Xg.any_pure ((pv p 0)) 1 (by kernel_rfl) rfl (by kernel_rfl) (by kernel_rfl) (by kernel_rfl) (by kernel_rfl) rfl (fun _ => by kernel_rfl) ?_
    refine Xg.any_pure ((pv p 1)) 2 (by kernel_rfl) rfl (by kernel_rfl) (by kernel_rfl) (by kernel_rfl) (by kernel_rfl) rfl (fun _ => by kernel_rfl) ?_
    refine Xg.any_reads (Value.slice ba (2 : Nat) bc) 3 0 (by kernel_rfl) rfl (by kernel_rfl) (by kernel_rfl) (by kernel_rfl) (by kernel_rfl) rfl rfl (by kernel_rfl) (Xg.cell_now (b := p) (off := ((1 : Nat))) 3 rfl (by kernel_rfl)) (fun _ h => Xg.run_load (by kernel_rfl) (by kernel_rfl) h) ?_
    refine Xg.any_pure ((iv 1)) 4 (by kernel_rfl) rfl (by kernel_rfl) (by kernel_rfl) (by kernel_rfl) (by kernel_rfl) rfl (fun _ => by kernel_rfl) ?_
    refine Xg.any_pure ((pv (blk ca) 0)) 5 (by kernel_rfl) rfl (by kernel_rfl) (by kernel_rfl) (by kernel_rfl) (by kernel_rfl) rfl (fun _ => by kernel_rfl) ?_
    refine Xg.any_pure ((pv (blk ca) 0)) 6 (by kernel_rfl) rfl (by kernel_rfl) (by kernel_rfl) (by kernel_rfl) (by kernel_rfl) rfl (fun _ => by kernel_rfl) ?_
    refine Xg.any_pure ((pv (blk ca) 0)) 7 (by kernel_rfl) rfl (by kernel_rfl) (by kernel_rfl) (by kernel_rfl) (by kernel_rfl) rfl (fun _ => by kernel_rfl) ?_
    refine Xg.any_reads (iv (↑n : Int)) 8 1 (by kernel_rfl) rfl (by kernel_rfl) (by kernel_rfl) (by kernel_rfl) (by kernel_rfl) rfl rfl (by kernel_rfl) (Xg.rd_now 0 (Xg.reads_own (E := ((98 : Nat))) (sz := ((3 : Nat))) (n := ([((↑n : Int), fa, (0 : Nat), fc)].length)) (c := cc) (a := ca) (vs := (recs clC [((↑n : Int), fa, (0 : Nat), fc)]))) (by kernel_rfl)) (Xg.run_load_rd (off0 := ((0 : Nat))) ((0 : Nat)) (by kernel_rfl) (by omega) (Xg.get_recs' (wd := 3) (fun _ => rfl) default ((0 : Nat)) 0 (by omega) (by decide) (by omega) (by kernel_rfl)) (by kernel_rfl)) ?_
    refine Xg.any_each [9] (by kernel_rfl) rfl ⟨?_, trivial⟩
    refine Xg.comes_act rfl (by kernel_rfl) (by kernel_rfl) (Xg.opx_make_hid (elem := 5) (kd := .u8) (by_ := 1) (k1 := .i64) (k2 := .i64) (n := ((↑n : Int))) (c := ((↑n : Int))) n n (by kernel_rfl) (by kernel_rfl) (by kernel_rfl) (by kernel_rfl) rfl rfl (by omega) (by omega) fun xa1 xs1 xh1 xl1 xz1 => ?_)
    refine Xg.acts (Xg.owes_cell 4 rfl (by kernel_rfl) (Xg.owes_skip (by kernel_rfl) (Xg.owes_rd 7 (Xg.reads_own (E := ((101 : Nat))) (sz := ((2 : Nat))) (n := ([((0 : Int), xa, n, n), ((0 : Int), nA, (0 : Nat), (0 : Nat))].length)) (c := bc) (a := ba) (vs := (recs bfC [((0 : Int), xa, n, n), ((0 : Int), nA, (0 : Nat), (0 : Nat))]))) (by kernel_rfl) Xg.owes_nil))) ?_
    refine Xg.any_reads (.pointer (some (Addr.mk (Xg.blk ba) (offA ba + (2 : Nat)) none))) 10 2 (by kernel_rfl) rfl (by kernel_rfl) (by kernel_rfl) (by kernel_rfl) (by kernel_rfl) rfl rfl (by kernel_rfl) (Xg.rd_now 7 (Xg.reads_own (E := ((101 : Nat))) (sz := ((2 : Nat))) (n := ([((0 : Int), xa, n, n), ((0 : Int), nA, (0 : Nat), (0 : Nat))].length)) (c := bc) (a := ba) (vs := (recs bfC [((0 : Int), xa, n, n), ((0 : Int), nA, (0 : Nat), (0 : Nat))]))) (by kernel_rfl)) (Xg.run_ix_rd (elem := 101) (kd := .i64) (e := ((1 : Int))) 2 ((1 : Nat)) (offA ba + (2 : Nat)) (by kernel_rfl) (by kernel_rfl) (by kernel_rfl) (by kernel_rfl) rfl (by omega) (by rw [Xg.recs_len (wd := 2) (fun _ => rfl)]; omega) (by omega)) ?_
    refine Xg.any_pure ((Value.pointer (some (Addr.mk (blk ba) (offA ba + (2 : Nat) + (1 : Nat)) none)))) 11 (by kernel_rfl) rfl (by kernel_rfl) (by kernel_rfl) (by kernel_rfl) (by kernel_rfl) rfl (fun _ => by kernel_rfl) ?_
    refine Xg.any_each [12] (by kernel_rfl) rfl ⟨?_, trivial⟩
    refine Xg.comes_act rfl (by kernel_rfl) (by kernel_rfl) (Xg.opx_store_own (a := ba) (off := (offA ba + (2 : Nat) + (1 : Nat))) 7 (Value.slice xa1 xs1.length n) (by kernel_rfl) rfl (by kernel_rfl) (by kernel_rfl) (by kernel_rfl) (by first | omega | (simp; done) | (simp; omega)) ?_)
    refine Xg.acts (Xg.owes_skip (by kernel_rfl) (Xg.owes_skip (by kernel_rfl) (Xg.owes_skip (by kernel_rfl) Xg.owes_nil))) ?_
    refine Xg.any_nil (by kernel_rfl) ?_
    refine Xg.at_seq ?_)
  have hxl : xs1.length = n := by assumption
  have hxz : ∀ i : Nat, xs1.getD i 0 = 0 := by assumption
  have hxr : xs1 = List.replicate n 0 := by
    apply List.ext_getElem (by rw [hxl, List.length_replicate])
    intro i g1 g2
    have := hxz i
    simpa [List.getD, g1] using this
  rw [hxl, hoff2]
  subst hxr
  (focus
    refine Xg.at_cut (α := (Unit) × (Nat → Value)) (fun x9 => ((fun _ => True) : (Unit) → Prop) x9.1) (fun x9 => Xg.headT [pv p 0, iv 0, iv size, iv 0, tu, tu, pv xb1 0, tu, pv xb2 0, iv 0, pv r 0, iv 0, pv (blk ca) 0, iv 1, iv 1, pv p 0, iv 0, pv r 0, pv r 0, Value.bool false, tu, pv p 0, pv p 0, pv p 0, Value.slice ca (1 : Nat) cc, Value.func (Fn.func (40 : Nat)) #[] #[pv xb1 0], iv 0, iv size, Value.bool (decide (size < (1 : Int))), Value.bool false, iv 0, Value.bool false, Value.bool false, tu, pv p 0, pv p 0, pv p 0, Value.slice ca (1 : Nat) cc, iv 0, pv (blk ca) 0, pv (blk ca) 0, pv (blk ca) 0, pv (blk ca) 1, pv (blk ca) 1, Value.slice fa (1 : Nat) fc, iv 1, Value.bool (decide ((↑n : Int) > q - (↑n : Int))), pv (blk ca) 0, pv (blk ca) 0, pv (blk ca) 0, iv (↑n : Int), pv r 0, pv r 0, pv r 0, iv q, pv r 0, pv r 0, pv r 1, iv (↑n : Int), iv (q - (↑n : Int)), Value.bool (decide ((↑n : Int) > q - (↑n : Int))), tu, Value.bool false, iv 1, Value.bool false, tu, iv 0, Value.bool false, tu, tu, tu, pv (blk ca) 0, pv (blk ca) 0, pv (blk ca) 1, iv 0, iv 1, iv 0, iv 1, pv p 0, pv p 0, pv p 1, Value.slice ba (2 : Nat) bc, iv 1, pv (blk ca) 0, pv (blk ca) 0, pv (blk ca) 0, iv (↑n : Int), Value.slice xa1 n n, pv (blk ba) 2, pv (blk ba) 3, tu, tu, tu, tu, tu, tu, tu, tu, tu, tu, tu, tu, tu, tu, tu, tu, tu, tu, tu, tu, tu, tu, tu, tu] [90, 91, 92, 93, 94, 95, 96, 97, 98, 99, 100] (((fun _ => []) : (Unit) → List (Nat × Go.Value)) x9.1) x9.2) (fun x9 => ((fun _ => [H2 p ab ca cc ba bc, C2 ca cc n fa 0 fc, B2 ba bc (0, xa, n, n) (0, xa1, n, n), A2 ab r, R2 r q ((n : Int) + n) ta 1 tc, I2 fa fc [], Y2 xa1 n (List.replicate n 0), I2 ta tc [0], row xb2 42 [.int .i64 0, .int .i64 0, .int .i64 0]]) : (Unit) → List Go.Sl.HP) x9.1) (fun kk hk => ?_) ?_)
  · (focus
      refine Xg.at_draw [11] [(3, [0, 1, 2, 3, 4, 5, 6, 7], Xg.CellIs (r) (((1 : Nat))) ((iv (↑n : Int)))), (7, [0, 1, 2, 3, 4, 5, 6, 7], (RdIs (3 : Nat) (Value.slice ca [((↑n : Int), fa, (0 : Nat), fc)].length cc) [((↑n : Int), fa, (0 : Nat), fc)].length (recs clC [((↑n : Int), fa, (0 : Nat), fc)])))] (by kernel_rfl) ?_
      refine Xg.any_pure ((pv r 0)) 0 (by kernel_rfl) rfl (by kernel_rfl) (by kernel_rfl) (by kernel_rfl) (by kernel_rfl) rfl (fun _ => by kernel_rfl) ?_
      refine Xg.any_pure ((pv r 0)) 1 (by kernel_rfl) rfl (by kernel_rfl) (by kernel_rfl) (by kernel_rfl) (by kernel_rfl) rfl (fun _ => by kernel_rfl) ?_
      refine Xg.any_pure ((pv r 1)) 2 (by kernel_rfl) rfl (by kernel_rfl) (by kernel_rfl) (by kernel_rfl) (by kernel_rfl) rfl (fun _ => by kernel_rfl) ?_
      refine Xg.any_reads (iv (↑n : Int)) 3 0 (by kernel_rfl) rfl (by kernel_rfl) (by kernel_rfl) (by kernel_rfl) (by kernel_rfl) rfl rfl (by kernel_rfl) (Xg.cell_now (b := r) (off := ((1 : Nat))) 8 rfl (by kernel_rfl)) (fun _ h => Xg.run_load (by kernel_rfl) (by kernel_rfl) h) ?_
      refine Xg.any_pure ((pv (blk ca) 0)) 4 (by kernel_rfl) rfl (by kernel_rfl) (by kernel_rfl) (by kernel_rfl) (by kernel_rfl) rfl (fun _ => by kernel_rfl) ?_
      refine Xg.any_pure ((pv (blk ca) 0)) 5 (by kernel_rfl) rfl (by kernel_rfl) (by kernel_rfl) (by kernel_rfl) (by kernel_rfl) rfl (fun _ => by kernel_rfl) ?_
      refine Xg.any_pure ((pv (blk ca) 0)) 6 (by kernel_rfl) rfl (by kernel_rfl) (by kernel_rfl) (by kernel_rfl) (by kernel_rfl) rfl (fun _ => by kernel_rfl) ?_
      refine Xg.any_reads (iv (↑n : Int)) 7 1 (by kernel_rfl) rfl (by kernel_rfl) (by kernel_rfl) (by kernel_rfl) (by kernel_rfl) rfl rfl (by kernel_rfl) (Xg.rd_now 1 (Xg.reads_own (E := ((98 : Nat))) (sz := ((3 : Nat))) (n := ([((↑n : Int), fa, (0 : Nat), fc)].length)) (c := cc) (a := ca) (vs := (recs clC [((↑n : Int), fa, (0 : Nat), fc)]))) (by kernel_rfl)) (Xg.run_load_rd (off0 := ((0 : Nat))) ((0 : Nat)) (by kernel_rfl) (by omega) (Xg.get_recs' (wd := 3) (fun _ => rfl) default ((0 : Nat)) 0 (by omega) (by decide) (by omega) (by kernel_rfl)) (by kernel_rfl)) ?_
      refine Xg.any_int .i64 (IntKind.wrap .i64 (((↑n : Int) + (↑n : Int)))) 8 (by kernel_rfl) rfl (by kernel_rfl) (by kernel_rfl) (by kernel_rfl) (by kernel_rfl) rfl (fun _ => by kernel_rfl) (Xg.wrap_i64_in (by omega)) ?_
      refine Xg.any_pure ((pv r 0)) 9 (by kernel_rfl) rfl (by kernel_rfl) (by kernel_rfl) (by kernel_rfl) (by kernel_rfl) rfl (fun _ => by kernel_rfl) ?_
      refine Xg.any_pure ((pv r 1)) 10 (by kernel_rfl) rfl (by kernel_rfl) (by kernel_rfl) (by kernel_rfl) (by kernel_rfl) rfl (fun _ => by kernel_rfl) ?_
      refine Xg.any_each [11] (by kernel_rfl) rfl ⟨?_, trivial⟩
      refine Xg.comes_act rfl (by kernel_rfl) (by kernel_rfl) (Xg.opx_store1 (off := 1) 8 (iv ((↑n : Int) + (↑n : Int))) (by kernel_rfl) rfl (by kernel_rfl) (by kernel_rfl) (by kernel_rfl) (Nat.le_of_ble_eq_true (by kernel_rfl)) ?_)
      refine Xg.acts (Xg.owes_skip (by kernel_rfl) (Xg.owes_skip (by kernel_rfl) Xg.owes_nil)) ?_
      refine Xg.any_nil (by kernel_rfl) ?_)
    (focus
      refine Xg.at_keep [4, 1, 7, 5, 8, 2, 0, 9, 6] (by kernel_rfl) ?_
      refine Xg.At.same (by kernel_rfl) ?_ (hk ((()), fun j9 => ([pv p 0, iv 0, iv size, iv 0, tu, tu, pv xb1 0, tu, pv xb2 0, iv 0, pv r 0, iv 0, pv (blk ca) 0, iv 1, iv 1, pv p 0, iv 0, pv r 0, pv r 0, Value.bool false, tu, pv p 0, pv p 0, pv p 0, Value.slice ca (1 : Nat) cc, Value.func (Fn.func (40 : Nat)) #[] #[pv xb1 0], iv 0, iv size, Value.bool (decide (size < (1 : Int))), Value.bool false, iv 0, Value.bool false, Value.bool false, tu, pv p 0, pv p 0, pv p 0, Value.slice ca (1 : Nat) cc, iv 0, pv (blk ca) 0, pv (blk ca) 0, pv (blk ca) 0, pv (blk ca) 1, pv (blk ca) 1, Value.slice fa (1 : Nat) fc, iv 1, Value.bool (decide ((↑n : Int) > q - (↑n : Int))), pv (blk ca) 0, pv (blk ca) 0, pv (blk ca) 0, iv (↑n : Int), pv r 0, pv r 0, pv r 0, iv q, pv r 0, pv r 0, pv r 1, iv (↑n : Int), iv (q - (↑n : Int)), Value.bool (decide ((↑n : Int) > q - (↑n : Int))), tu, Value.bool false, iv 1, Value.bool false, tu, iv 0, Value.bool false, tu, tu, tu, pv (blk ca) 0, pv (blk ca) 0, pv (blk ca) 1, iv 0, iv 1, iv 0, iv 1, pv p 0, pv p 0, pv p 1, Value.slice ba (2 : Nat) bc, iv 1, pv (blk ca) 0, pv (blk ca) 0, pv (blk ca) 0, iv (↑n : Int), Value.slice xa1 n n, pv (blk ba) 2, pv (blk ba) 3, pv r 0, pv r 0, pv r 1, iv (↑n : Int), pv (blk ca) 0, pv (blk ca) 0, pv (blk ca) 0, iv (↑n : Int), iv ((↑n : Int) + (↑n : Int)), pv r 0, pv r 1, tu, tu, tu, tu, tu, tu, tu, tu, tu, tu, tu, tu, tu] : List Value).getD j9 undef) ?_))
    · rfl
    · trivial
  rintro ⟨un, J⟩ _
  (focus
    refine Xg.At.same (T' := [pv p 0, iv 0, iv size, iv 0, tu, tu, pv xb1 0, tu, pv xb2 0, iv 0, pv r 0, iv 0, pv (blk ca) 0, iv 1, iv 1, pv p 0, iv 0, pv r 0, pv r 0, Value.bool false, tu, pv p 0, pv p 0, pv p 0, Value.slice ca (1 : Nat) cc, Value.func (Fn.func (40 : Nat)) #[] #[pv xb1 0], iv 0, iv size, Value.bool (decide (size < (1 : Int))), Value.bool false, iv 0, Value.bool false, Value.bool false, tu, pv p 0, pv p 0, pv p 0, Value.slice ca (1 : Nat) cc, iv 0, pv (blk ca) 0, pv (blk ca) 0, pv (blk ca) 0, pv (blk ca) 1, pv (blk ca) 1, Value.slice fa (1 : Nat) fc, iv 1, Value.bool (decide ((↑n : Int) > q - (↑n : Int))), pv (blk ca) 0, pv (blk ca) 0, pv (blk ca) 0, iv (↑n : Int), pv r 0, pv r 0, pv r 0, iv q, pv r 0, pv r 0, pv r 1, iv (↑n : Int), iv (q - (↑n : Int)), Value.bool (decide ((↑n : Int) > q - (↑n : Int))), tu, Value.bool false, iv 1, Value.bool false, tu, iv 0, Value.bool false, tu, tu, tu, pv (blk ca) 0, pv (blk ca) 0, pv (blk ca) 1, iv 0, iv 1, iv 0, iv 1, pv p 0, pv p 0, pv p 1, Value.slice ba (2 : Nat) bc, iv 1, pv (blk ca) 0, pv (blk ca) 0, pv (blk ca) 0, iv (↑n : Int), Value.slice xa1 n n, pv (blk ba) 2, pv (blk ba) 3, J 90, J 91, J 92, J 93, J 94, J 95, J 96, J 97, J 98, J 99, J 100, tu, tu, tu, tu, tu, tu, tu, tu, tu, tu, tu, tu, tu]) (L' := [H2 p ab ca cc ba bc, C2 ca cc (↑n : Int) fa (0 : Nat) fc, B2 ba bc ((0 : Int), xa, n, n) ((0 : Int), xa1, n, n), A2 ab r, R2 r q ((↑n : Int) + (↑n : Int)) ta (1 : Nat) tc, I2 fa fc [], Y2 xa1 n (List.replicate n (0 : Int)), I2 ta tc [(0 : Int)], row xb2 (42 : TypeId) [iv 0, iv 0, iv 0]]) (by kernel_rfl) rfl ?_)
  have hls1 := hls xa1
  (focus
    refine Xg.at_seq ?_
    refine Xg.at_region ?_
    refine Xg.ops_op (by kernel_rfl) (Xg.opx_pure ((pv r 0)) rfl (fun _ => by kernel_rfl) ?_)
    refine Xg.ops_op (by kernel_rfl) (Xg.opx_pure ((pv r 0)) rfl (fun _ => by kernel_rfl) ?_)
    refine Xg.ops_op (by kernel_rfl) (Xg.opx_pure ((pv r 0)) rfl (fun _ => by kernel_rfl) ?_)
    refine Xg.ops_op (by kernel_rfl) (Xg.opx_pure ((pv r 2)) rfl (fun _ => by kernel_rfl) ?_)
    refine Xg.ops_op (by kernel_rfl) (Xg.opx_load (b := r) (off := ((2 : Nat))) 4 (Value.slice ta (1 : Nat) tc) rfl (by kernel_rfl) (by kernel_rfl) (by kernel_rfl) ?_)
    refine Xg.ops_op (by kernel_rfl) (Xg.opx_pure ((iv 1)) rfl (fun _ => by kernel_rfl) ?_)
    refine Xg.ops_op (by kernel_rfl) (Xg.opx_bs (elem := 3) 1 [iv 1] [iv 1] (by kernel_rfl) (by kernel_rfl) (by decide) rfl (by kernel_rfl) (by kernel_rfl) (by kernel_rfl) (by kernel_rfl) fun xb3 => ?_)
    refine Xg.ops_op (by kernel_rfl) (Xg.opx_append_ints (kd := .i64) (yv := (Value.slice (some (Addr.mk xb3 (0 : Nat) none)) (1 : Nat) (1 : Nat))) (m := ((1 : Nat))) (xs := [(0 : Int)]) (elem := 3) 8 8 [(1 : Int)] rfl (by kernel_rfl) (by kernel_rfl) (by kernel_rfl) (by kernel_rfl) (by first | rfl | assumption | omega | (simp; done) | (simp; omega)) (fun _ hS => Xg.row_rd hS 0 rfl (by kernel_rfl)) (by first | omega | (simp only [List.length_nil, List.length_cons]; omega) | (simp; omega)) (by first | omega | (simp only [List.length_nil, List.length_cons]; omega) | (simp; omega)) fun xa2 xc1 => ?_)
    have xl2 : ([(0 : Int)] ++ [(1 : Int)] : List Int).length = ([(0 : Int)] : List Int).length + ((1 : Nat)) := by first | (simp; done) | (simp; omega)
    refine Xg.ops_op (by kernel_rfl) (Xg.opx_pure ((pv r 0)) rfl (fun _ => by kernel_rfl) ?_)
    refine Xg.ops_op (by kernel_rfl) (Xg.opx_pure ((pv r 2)) rfl (fun _ => by kernel_rfl) ?_)
    refine Xg.ops_op (by kernel_rfl) (Xg.opx_store1 (off := 2) 5 (Value.slice xa2 (2 : Nat) xc1) (by kernel_rfl) rfl (by kernel_rfl) (by kernel_rfl) (by kernel_rfl) (Nat.le_of_ble_eq_true (by kernel_rfl)) ?_)
    refine Xg.ops_nil ?_
    refine Xg.at_seq ?_
    refine Xg.at_region ?_
    refine Xg.ops_op (by kernel_rfl) (Xg.opx_pure ((pv p 0)) rfl (fun _ => by kernel_rfl) ?_)
    refine Xg.ops_op (by kernel_rfl) (Xg.opx_pure ((iv 1)) rfl (fun _ => by kernel_rfl) ?_)
    refine Xg.ops_op (by kernel_rfl) (Xg.opx_call1' [1, 2, 3] [H2 p ab ca cc ba bc, C2 ca cc (↑n : Int) fa (0 : Nat) fc, B2 ba bc ((0 : Int), xa, n, n) ((0 : Int), xa1, n, n), row xb3 (3 : TypeId) [iv 1], A2 ab r, row r (105 : TypeId) [iv q, iv ((↑n : Int) + (↑n : Int)), Value.slice xa2 (2 : Nat) xc1], I2 fa fc [], Y2 xa1 n (List.replicate n (0 : Int)), ints (3 : TypeId) IntKind.i64 xa2 xc1 ([(0 : Int)] ++ [(1 : Int)]), row xb2 (42 : TypeId) [iv 0, iv 0, iv 0]] (fun _ => by kernel_rfl) (@hls1 ) (by kernel_rfl) (by kernel_rfl) (by kernel_rfl) ?_)
    refine Xg.ops_op (by kernel_rfl) (Xg.opx_storen 3 (off := 0) 9 [iv 1, iv 0, iv (↑n : Int)] (by kernel_rfl) rfl (by kernel_rfl) (by kernel_rfl) rfl (by kernel_rfl) (Nat.le_of_ble_eq_true (by kernel_rfl)) ?_)
    refine Xg.ops_op (by kernel_rfl) (Xg.opx_pure ((iv 0)) rfl (fun _ => by kernel_rfl) ?_)
    refine Xg.ops_nil ?_
    refine Xg.at_ret_feed (v := (Value.tuple #[Value.agg #[iv 1, iv 0, iv (↑n : Int)], iv 0])) [(Addr.mk xb2 (0 : Nat) none), (Addr.mk xb2 (1 : Nat) none), (Addr.mk xb2 (2 : Nat) none)] [iv 1, iv 0, iv (↑n : Int)] [0, 1, 2, 4, 5, 6, 7, 8] [H2 p ab ca cc ba bc, C2 ca cc (↑n : Int) fa (0 : Nat) fc, B2 ba bc ((0 : Int), xa, n, n) ((0 : Int), xa1, n, n), A2 ab r, row r (105 : TypeId) [iv q, iv ((↑n : Int) + (↑n : Int)), Value.slice xa2 (2 : Nat) xc1], I2 fa fc [], Y2 xa1 n (List.replicate n (0 : Int)), ints (3 : TypeId) IntKind.i64 xa2 xc1 ([(0 : Int)] ++ [(1 : Int)])] Go.Proofs.Try.func17 (by kernel_rfl) (Xg.cells_cons (b := xb2) (off := 0) 9 rfl (by kernel_rfl) (Xg.cells_cons (b := xb2) (off := 1) 9 rfl (by kernel_rfl) (Xg.cells_cons (b := xb2) (off := 2) 9 rfl (by kernel_rfl) Xg.cells_nil))) (by kernel_rfl) (by kernel_rfl) ?_
    refine ⟨((xa1, xa2, xc1)), ?_, by kernel_rfl, by kernel_rfl⟩)
  assumption
end Go.Proofs.Ytmplimmcjdkhlaa
