import Derived.Test.YtmplimmcjdkhlaaMPicked14
/- The arena laws: acts: Take is refused. -/
namespace Go.Proofs.Ytmplimmcjdkhlaa
open Go.Sl Go.Xg
set_option linter.unusedVariables false
set_option linter.unusedSectionVars false
set_option linter.unusedSimpArgs false
set_option linter.unnecessarySimpa false
set_option maxHeartbeats 4000000
set_option maxRecDepth 100000

section
variable (p : Nat) (σ τ : Po) (x : HdV) (a : Ac) (ha : Acok a) (q : Int) (hl5 : Lok5 x.les) (hZ5 : x.Z.length ≤ 5000) (hk : pickN a.kd 8 ≤ 1) (fr : List Int)
 (hfree : Does Try.prog 27 [.pointer (some ⟨p, 0, none⟩), .int .i64 (clsA a : Nat)] [PoolS p σ] (RetE (fun z : Option Addr × Nat => True) (fun z => .slice z.1 fr.length z.2) (fun z => [PoolS p σ, I2 z.1 z.2 fr])))
 (hq2 : -1000000 ≤ q ∧ q ≤ 1000000) (hf5 : fr.length ≤ 5000)
include ha hl5 hZ5 hk hfree hq2 hf5
theorem acts_quota (htake : Does Try.prog 17 [.pointer (some ⟨p, 0, none⟩), .int .i64 (x.id : Nat), .int .i64 (1 + (pickN a.sz 16 : Nat)), .int .i64 a.pk] [PoolS p σ] (Ret (.tuple #[.agg #[.int .i64 0, .int .i64 0, .int .i64 0], .int .i64 92]) [PoolS p σ]))
    (hq : q < sizeL x.les + hasA a) : Does Try.prog 25 [.pointer (some ⟨p, 0, none⟩), hdV x, acV a, .int .i64 q] [PoolS p σ, LeP x, BhP x] (Ret (.tuple #[hdV x, .bool true]) [PoolS p σ, LeP x, BhP x]) := by
  obtain ⟨a1, a2, a3, a4, a5, a6⟩ := id ha
  have hl50 := hl5.1
  have hp8 := pick_r a.kd 8 a1 (by decide)
  have hp16 := pick_r a.sz 16 a3 (by decide)
  have h16 := pickN_lt a.sz 16 (by decide)
  have hsd := fun id aa c bv => size_d id aa c bv x.les hl5
  have hsb := sizeL_bd hl5 x.les.length (Nat.le_refl _)
  rw [List.take_length] at hsb
  (focus
    refine Xg.spec_of Go.Proofs.Try.func25 rfl Go.Proofs.Try.ntmps25 fun g F => ?_)
  (focus
    refine Xg.at_seq ?_
    refine Xg.at_region ?_
    refine Xg.ops_op (by kernel_rfl) (Xg.opx_box (v := (Value.agg #[iv (↑x.id : Int), Value.slice x.la x.les.length x.lc, Value.slice x.ba x.Z.length x.bc])) [iv (↑x.id : Int), Value.slice x.la x.les.length x.lc, Value.slice x.ba x.Z.length x.bc] (by kernel_rfl) (by kernel_rfl) fun xb1 => ?_)
    refine Xg.ops_op (by kernel_rfl) (Xg.opx_box (v := (Value.agg #[iv a.kd, iv a.wh, iv a.sz, iv a.pk, iv a.ap, iv a.bt])) [iv a.kd, iv a.wh, iv a.sz, iv a.pk, iv a.ap, iv a.bt] (by kernel_rfl) (by kernel_rfl) fun xb2 => ?_)
    refine Xg.ops_op (by kernel_rfl) (Xg.opx_new 3 [iv 0, Value.slice none (0 : Nat) (0 : Nat), Value.slice none (0 : Nat) (0 : Nat)] (by kernel_rfl) (by kernel_rfl) fun xb3 => ?_)
    refine Xg.ops_op (by kernel_rfl) (Xg.opx_pure ((Value.bool false)) rfl (fun _ => by kernel_rfl) ?_)
    refine Xg.ops_nil ?_
    refine Xg.at_seq ?_
    refine Xg.at_region ?_
    refine Xg.ops_op (by kernel_rfl) (Xg.opx_pure ((iv 0)) rfl (fun _ => by kernel_rfl) ?_)
    refine Xg.ops_nil ?_
    refine Xg.at_seq ?_
    refine Xg.at_seq ?_
    refine Xg.at_region ?_
    refine Xg.ops_op (by kernel_rfl) (Xg.opx_pure ((pv xb1 1)) rfl (fun _ => by kernel_rfl) ?_)
    refine Xg.ops_op (by kernel_rfl) (Xg.opx_load (b := xb1) (off := ((1 : Nat))) 2 (Value.slice x.la x.les.length x.lc) rfl (by kernel_rfl) (by kernel_rfl) (by kernel_rfl) ?_)
    refine Xg.ops_op (by kernel_rfl) (Xg.opx_pure ((iv (↑x.les.length : Int))) rfl (fun _ => by kernel_rfl) ?_)
    refine Xg.ops_op (by kernel_rfl) (Xg.opx_pure (.bool (decide ((((↑x.les.length : Int)) : Int) > ((0 : Int))))) rfl (fun _ => by kernel_rfl) ?_)
    refine Xg.ops_nil ?_)
  (focus
    refine Xg.at_cut (α := (Nat) × (Nat → Value)) (fun x9 => ((fun k => k = kOf a x.les.length) : (Nat) → Prop) x9.1) (fun x9 => Xg.headT [pv p 0, Value.agg #[iv (↑x.id : Int), Value.slice x.la x.les.length x.lc, Value.slice x.ba x.Z.length x.bc], Value.agg #[iv a.kd, iv a.wh, iv a.sz, iv a.pk, iv a.ap, iv a.bt], iv q, tu, pv xb1 0, pv xb2 0, tu, pv xb3 0, Value.bool false, iv 0, tu, tu, tu, tu, tu, tu, tu, tu, tu, tu, tu, tu, tu, tu, tu, tu, tu, pv xb1 1, Value.slice x.la x.les.length x.lc, iv (↑x.les.length : Int), Value.bool (decide ((↑x.les.length : Int) > (0 : Int))), tu, tu, tu, tu, tu, tu, tu, tu, tu, tu, tu, tu, tu, tu, tu, tu, tu, tu, tu, tu, tu, tu, tu, tu, tu, tu, tu, tu, tu, tu, tu, tu, tu, tu, tu, tu, tu, tu, tu, tu, tu, tu, tu, tu, tu, tu, tu, tu, tu, tu, tu, tu, tu, tu, tu, tu, tu, tu, tu, tu, tu, tu, tu, tu, tu, tu, tu, tu, tu, tu, tu, tu, tu, tu, tu, tu, tu, tu, tu, tu, tu, tu, tu, tu, tu, tu, tu, tu, tu, tu, tu, tu, tu, tu, tu, tu, tu, tu, tu, tu, tu, tu, tu, tu, tu, tu, tu, tu, tu, tu, tu, tu, tu, tu, tu, tu, tu, tu, tu, tu, tu, tu, tu, tu, tu, tu, tu, tu, tu, tu, tu, tu, tu, tu, tu, tu, tu, tu, tu, tu, tu, tu, tu, tu, tu, tu, tu, tu, tu, tu, tu, tu, tu, tu, tu, tu, tu, tu, tu, tu, tu, tu, tu, tu, tu, tu, tu, tu, tu, tu, tu, tu, tu, tu, tu, tu, tu, tu, tu, tu, tu, tu, tu, tu, tu, tu, tu, tu, tu, tu, tu, tu, tu, tu, tu, tu, tu, tu, tu, tu, tu, tu, tu, tu, tu, tu, tu, tu, tu, tu, tu, tu, tu, tu, tu] [32, 33, 34, 35, 36, 37] (((fun k => [(10, .int .i64 (k : Nat))]) : (Nat) → List (Nat × Go.Value)) x9.1) x9.2) (fun x9 => ((fun k => [PoolS p σ, LeP x, BhP x, row xb1 62 (hdK x), row xb2 59 (acC a), row xb3 62 [.int .i64 0, .slice none 0 0, .slice none 0 0]]) : (Nat) → List Go.Sl.HP) x9.1) (fun kk hk => ?_) ?_)
  · by_cases h0 : 0 < x.les.length
    · have hpk := pick_r a.pk x.les.length a4 h0
      (focus
        refine Xg.at_true (t := decide (((↑x.les.length : Int) > (0 : Int)))) (by kernel_rfl) (decide_eq_true (by omega)) ?_
        refine Xg.at_region ?_
        refine Xg.ops_op (by kernel_rfl) (Xg.opx_pure ((pv xb2 3)) rfl (fun _ => by kernel_rfl) ?_)
        refine Xg.ops_op (by kernel_rfl) (Xg.opx_load (b := xb2) (off := ((3 : Nat))) 1 (iv a.pk) rfl (by kernel_rfl) (by kernel_rfl) (by kernel_rfl) ?_)
        refine Xg.ops_op (by kernel_rfl) (Xg.opx_pure ((pv xb1 1)) rfl (fun _ => by kernel_rfl) ?_)
        refine Xg.ops_op (by kernel_rfl) (Xg.opx_load (b := xb1) (off := ((1 : Nat))) 2 (Value.slice x.la x.les.length x.lc) rfl (by kernel_rfl) (by kernel_rfl) (by kernel_rfl) ?_)
        refine Xg.ops_op (by kernel_rfl) (Xg.opx_pure ((iv (↑x.les.length : Int))) rfl (fun _ => by kernel_rfl) ?_)
        refine Xg.ops_op (by kernel_rfl) (Xg.opx_call1' [] [row xb3 (62 : Nat) [iv 0, Value.slice none (0 : Nat) (0 : Nat), Value.slice none (0 : Nat) (0 : Nat)], row xb2 (59 : Nat) [iv a.kd, iv a.wh, iv a.sz, iv a.pk, iv a.ap, iv a.bt], row xb1 (62 : Nat) [iv (↑x.id : Int), Value.slice x.la x.les.length x.lc, Value.slice x.ba x.Z.length x.bc], PoolS p σ, LeP x, BhP x] (fun _ => by kernel_rfl) (@hpk ) (by kernel_rfl) (by kernel_rfl) (by kernel_rfl) ?_)
        refine Xg.ops_op (by kernel_rfl) (Xg.opx_pure ((iv (↑(pickN a.pk x.les.length) : Int))) rfl (fun _ => by kernel_rfl) ?_)
        refine Xg.ops_nil ?_)
      (focus
        refine Xg.at_keep [3, 4, 5, 2, 1, 0] (by kernel_rfl) ?_
        refine Xg.At.same (by kernel_rfl) ?_ (hk ((pickN a.pk x.les.length), fun j9 => ([pv p 0, Value.agg #[iv (↑x.id : Int), Value.slice x.la x.les.length x.lc, Value.slice x.ba x.Z.length x.bc], Value.agg #[iv a.kd, iv a.wh, iv a.sz, iv a.pk, iv a.ap, iv a.bt], iv q, tu, pv xb1 0, pv xb2 0, tu, pv xb3 0, Value.bool false, iv (↑(pickN a.pk x.les.length) : Int), tu, tu, tu, tu, tu, tu, tu, tu, tu, tu, tu, tu, tu, tu, tu, tu, tu, pv xb1 1, Value.slice x.la x.les.length x.lc, iv (↑x.les.length : Int), Value.bool (decide ((↑x.les.length : Int) > (0 : Int))), pv xb2 3, iv a.pk, pv xb1 1, Value.slice x.la x.les.length x.lc, iv (↑x.les.length : Int), iv (↑(pickN a.pk x.les.length) : Int), tu, tu, tu, tu, tu, tu, tu, tu, tu, tu, tu, tu, tu, tu, tu, tu, tu, tu, tu, tu, tu, tu, tu, tu, tu, tu, tu, tu, tu, tu, tu, tu, tu, tu, tu, tu, tu, tu, tu, tu, tu, tu, tu, tu, tu, tu, tu, tu, tu, tu, tu, tu, tu, tu, tu, tu, tu, tu, tu, tu, tu, tu, tu, tu, tu, tu, tu, tu, tu, tu, tu, tu, tu, tu, tu, tu, tu, tu, tu, tu, tu, tu, tu, tu, tu, tu, tu, tu, tu, tu, tu, tu, tu, tu, tu, tu, tu, tu, tu, tu, tu, tu, tu, tu, tu, tu, tu, tu, tu, tu, tu, tu, tu, tu, tu, tu, tu, tu, tu, tu, tu, tu, tu, tu, tu, tu, tu, tu, tu, tu, tu, tu, tu, tu, tu, tu, tu, tu, tu, tu, tu, tu, tu, tu, tu, tu, tu, tu, tu, tu, tu, tu, tu, tu, tu, tu, tu, tu, tu, tu, tu, tu, tu, tu, tu, tu, tu, tu, tu, tu, tu, tu, tu, tu, tu, tu, tu, tu, tu, tu, tu, tu, tu, tu, tu, tu, tu, tu, tu, tu, tu, tu, tu, tu, tu, tu, tu, tu, tu, tu, tu, tu, tu, tu, tu, tu, tu, tu, tu] : List Value).getD j9 undef) ?_))
      · rfl
      · dsimp only; unfold kOf; rw [if_pos h0]
    · (focus
        refine Xg.at_false (t := decide (((↑x.les.length : Int) > (0 : Int)))) (by kernel_rfl) (decide_eq_false (by omega)) ?_
        refine Xg.at_skip ?_)
      (focus
        refine Xg.at_keep [3, 4, 5, 2, 1, 0] (by kernel_rfl) ?_
        refine Xg.At.same (by kernel_rfl) ?_ (hk ((0), fun j9 => ([pv p 0, Value.agg #[iv (↑x.id : Int), Value.slice x.la x.les.length x.lc, Value.slice x.ba x.Z.length x.bc], Value.agg #[iv a.kd, iv a.wh, iv a.sz, iv a.pk, iv a.ap, iv a.bt], iv q, tu, pv xb1 0, pv xb2 0, tu, pv xb3 0, Value.bool false, iv 0, tu, tu, tu, tu, tu, tu, tu, tu, tu, tu, tu, tu, tu, tu, tu, tu, tu, pv xb1 1, Value.slice x.la x.les.length x.lc, iv (↑x.les.length : Int), Value.bool (decide ((↑x.les.length : Int) > (0 : Int))), tu, tu, tu, tu, tu, tu, tu, tu, tu, tu, tu, tu, tu, tu, tu, tu, tu, tu, tu, tu, tu, tu, tu, tu, tu, tu, tu, tu, tu, tu, tu, tu, tu, tu, tu, tu, tu, tu, tu, tu, tu, tu, tu, tu, tu, tu, tu, tu, tu, tu, tu, tu, tu, tu, tu, tu, tu, tu, tu, tu, tu, tu, tu, tu, tu, tu, tu, tu, tu, tu, tu, tu, tu, tu, tu, tu, tu, tu, tu, tu, tu, tu, tu, tu, tu, tu, tu, tu, tu, tu, tu, tu, tu, tu, tu, tu, tu, tu, tu, tu, tu, tu, tu, tu, tu, tu, tu, tu, tu, tu, tu, tu, tu, tu, tu, tu, tu, tu, tu, tu, tu, tu, tu, tu, tu, tu, tu, tu, tu, tu, tu, tu, tu, tu, tu, tu, tu, tu, tu, tu, tu, tu, tu, tu, tu, tu, tu, tu, tu, tu, tu, tu, tu, tu, tu, tu, tu, tu, tu, tu, tu, tu, tu, tu, tu, tu, tu, tu, tu, tu, tu, tu, tu, tu, tu, tu, tu, tu, tu, tu, tu, tu, tu, tu, tu, tu, tu, tu, tu, tu, tu, tu, tu, tu, tu, tu, tu, tu, tu, tu, tu, tu, tu, tu, tu, tu, tu, tu, tu, tu, tu, tu, tu, tu, tu] : List Value).getD j9 undef) ?_))
      · rfl
      · dsimp only; unfold kOf; rw [if_neg h0]
  rintro ⟨k, J⟩ hkk
  dsimp only at hkk
  (focus
    refine Xg.At.same (T' := [pv p 0, Value.agg #[iv (↑x.id : Int), Value.slice x.la x.les.length x.lc, Value.slice x.ba x.Z.length x.bc], Value.agg #[iv a.kd, iv a.wh, iv a.sz, iv a.pk, iv a.ap, iv a.bt], iv q, tu, pv xb1 0, pv xb2 0, tu, pv xb3 0, Value.bool false, iv (↑k : Int), tu, tu, tu, tu, tu, tu, tu, tu, tu, tu, tu, tu, tu, tu, tu, tu, tu, pv xb1 1, Value.slice x.la x.les.length x.lc, iv (↑x.les.length : Int), Value.bool (decide ((↑x.les.length : Int) > (0 : Int))), J 32, J 33, J 34, J 35, J 36, J 37, tu, tu, tu, tu, tu, tu, tu, tu, tu, tu, tu, tu, tu, tu, tu, tu, tu, tu, tu, tu, tu, tu, tu, tu, tu, tu, tu, tu, tu, tu, tu, tu, tu, tu, tu, tu, tu, tu, tu, tu, tu, tu, tu, tu, tu, tu, tu, tu, tu, tu, tu, tu, tu, tu, tu, tu, tu, tu, tu, tu, tu, tu, tu, tu, tu, tu, tu, tu, tu, tu, tu, tu, tu, tu, tu, tu, tu, tu, tu, tu, tu, tu, tu, tu, tu, tu, tu, tu, tu, tu, tu, tu, tu, tu, tu, tu, tu, tu, tu, tu, tu, tu, tu, tu, tu, tu, tu, tu, tu, tu, tu, tu, tu, tu, tu, tu, tu, tu, tu, tu, tu, tu, tu, tu, tu, tu, tu, tu, tu, tu, tu, tu, tu, tu, tu, tu, tu, tu, tu, tu, tu, tu, tu, tu, tu, tu, tu, tu, tu, tu, tu, tu, tu, tu, tu, tu, tu, tu, tu, tu, tu, tu, tu, tu, tu, tu, tu, tu, tu, tu, tu, tu, tu, tu, tu, tu, tu, tu, tu, tu, tu, tu, tu, tu, tu, tu, tu, tu, tu, tu, tu, tu, tu, tu, tu, tu, tu, tu, tu, tu, tu, tu, tu, tu, tu, tu, tu, tu, tu]) (L' := [PoolS p σ, LeP x, BhP x, row xb1 (62 : TypeId) (hdK x), row xb2 (59 : TypeId) (acC a), row xb3 (62 : TypeId) [iv 0, Value.slice none (0 : Nat) (0 : Nat), Value.slice none (0 : Nat) (0 : Nat)]]) (by kernel_rfl) rfl ?_)
  (focus
    refine Xg.at_seq ?_
    refine Xg.at_seq ?_
    refine Xg.at_region ?_
    refine Xg.ops_op (by kernel_rfl) (Xg.opx_pure ((pv xb2 0)) rfl (fun _ => by kernel_rfl) ?_)
    refine Xg.ops_op (by kernel_rfl) (Xg.opx_load (b := xb2) (off := ((0 : Nat))) 4 (iv a.kd) rfl (by kernel_rfl) (by kernel_rfl) (by kernel_rfl) ?_)
    refine Xg.ops_op (by kernel_rfl) (Xg.opx_call1' [] [PoolS p σ, LeP x, BhP x, row xb1 (62 : TypeId) [iv (↑x.id : Int), Value.slice x.la x.les.length x.lc, Value.slice x.ba x.Z.length x.bc], row xb2 (59 : TypeId) [iv a.kd, iv a.wh, iv a.sz, iv a.pk, iv a.ap, iv a.bt], row xb3 (62 : TypeId) [iv 0, Value.slice none (0 : Nat) (0 : Nat), Value.slice none (0 : Nat) (0 : Nat)]] (fun _ => by kernel_rfl) (@hp8 ) (by kernel_rfl) (by kernel_rfl) (by kernel_rfl) ?_)
    refine Xg.ops_nil ?_
    refine Xg.at_block ?_
    refine Xg.at_seq ?_
    refine Xg.at_seq ?_)
  (focus
    refine Xg.at_cut2 (α := (Bool) × (Nat → Value)) (fun x9 => ((fun b => b = true) : (Bool) → Prop) x9.1) (fun x9 => Xg.headT [pv p 0, Value.agg #[iv (↑x.id : Int), Value.slice x.la x.les.length x.lc, Value.slice x.ba x.Z.length x.bc], Value.agg #[iv a.kd, iv a.wh, iv a.sz, iv a.pk, iv a.ap, iv a.bt], iv q, tu, pv xb1 0, pv xb2 0, tu, pv xb3 0, Value.bool false, iv (↑k : Int), tu, tu, tu, tu, tu, tu, tu, tu, tu, tu, tu, tu, tu, tu, tu, tu, tu, pv xb1 1, Value.slice x.la x.les.length x.lc, iv (↑x.les.length : Int), Value.bool (decide ((↑x.les.length : Int) > (0 : Int))), J 32, J 33, J 34, J 35, J 36, J 37, pv xb2 0, iv a.kd, iv (↑(pickN a.kd (8 : Nat)) : Int), tu, tu, tu, tu, tu, tu, tu, tu, tu, tu, tu, tu, tu, tu, tu, tu, tu, tu, tu, tu, tu, tu, tu, tu, tu, tu, tu, tu, tu, tu, tu, tu, tu, tu, tu, tu, tu, tu, tu, tu, tu, tu, tu, tu, tu, tu, tu, tu, tu, tu, tu, tu, tu, tu, tu, tu, tu, tu, tu, tu, tu, tu, tu, tu, tu, tu, tu, tu, tu, tu, tu, tu, tu, tu, tu, tu, tu, tu, tu, tu, tu, tu, tu, tu, tu, tu, tu, tu, tu, tu, tu, tu, tu, tu, tu, tu, tu, tu, tu, tu, tu, tu, tu, tu, tu, tu, tu, tu, tu, tu, tu, tu, tu, tu, tu, tu, tu, tu, tu, tu, tu, tu, tu, tu, tu, tu, tu, tu, tu, tu, tu, tu, tu, tu, tu, tu, tu, tu, tu, tu, tu, tu, tu, tu, tu, tu, tu, tu, tu, tu, tu, tu, tu, tu, tu, tu, tu, tu, tu, tu, tu, tu, tu, tu, tu, tu, tu, tu, tu, tu, tu, tu, tu, tu, tu, tu, tu, tu, tu, tu, tu, tu, tu, tu, tu, tu, tu, tu, tu, tu, tu, tu, tu, tu, tu, tu, tu, tu, tu, tu, tu, tu, tu, tu, tu, tu] [42, 43] (((fun b => [(41, .bool b)]) : (Bool) → List (Nat × Go.Value)) x9.1) x9.2) (fun x9 => ((fun _ => [PoolS p σ, LeP x, BhP x, row xb1 62 (hdK x), row xb2 59 (acC a), row xb3 62 [.int .i64 0, .slice none 0 0, .slice none 0 0]]) : (Bool) → List Go.Sl.HP) x9.1) (fun kk hk => ?_) ?_)
  · by_cases h01 : pickN a.kd 8 = 0
    · (focus
        refine Xg.at_region ?_
        refine Xg.ops_op (by kernel_rfl) (Xg.opx_pure (.bool (decide ((((↑(pickN a.kd (8 : Nat)) : Int)) : Int) = ((0 : Int))))) rfl (fun _ => by kernel_rfl) ?_)
        refine Xg.ops_op (by kernel_rfl) (Xg.opx_pure ((Value.bool (decide ((↑(pickN a.kd (8 : Nat)) : Int) = (0 : Int))))) rfl (fun _ => by kernel_rfl) ?_)
        refine Xg.ops_nil ?_
        refine Xg.at_true (t := decide (((↑(pickN a.kd (8 : Nat)) : Int) = (0 : Int)))) (by kernel_rfl) (decide_eq_true (by omega)) ?_
        refine Xg.at_skip ?_)
      (focus
        refine Xg.at_keep [0, 1, 2, 3, 4, 5] (by kernel_rfl) ?_
        refine Xg.At.same (by kernel_rfl) ?_ (hk ((decide (((pickN a.kd 8 : Nat) : Int) = 0)), fun j9 => ([pv p 0, Value.agg #[iv (↑x.id : Int), Value.slice x.la x.les.length x.lc, Value.slice x.ba x.Z.length x.bc], Value.agg #[iv a.kd, iv a.wh, iv a.sz, iv a.pk, iv a.ap, iv a.bt], iv q, tu, pv xb1 0, pv xb2 0, tu, pv xb3 0, Value.bool false, iv (↑k : Int), tu, tu, tu, tu, tu, tu, tu, tu, tu, tu, tu, tu, tu, tu, tu, tu, tu, pv xb1 1, Value.slice x.la x.les.length x.lc, iv (↑x.les.length : Int), Value.bool (decide ((↑x.les.length : Int) > (0 : Int))), J 32, J 33, J 34, J 35, J 36, J 37, pv xb2 0, iv a.kd, iv (↑(pickN a.kd (8 : Nat)) : Int), Value.bool (decide ((↑(pickN a.kd (8 : Nat)) : Int) = (0 : Int))), Value.bool (decide ((↑(pickN a.kd (8 : Nat)) : Int) = (0 : Int))), tu, tu, tu, tu, tu, tu, tu, tu, tu, tu, tu, tu, tu, tu, tu, tu, tu, tu, tu, tu, tu, tu, tu, tu, tu, tu, tu, tu, tu, tu, tu, tu, tu, tu, tu, tu, tu, tu, tu, tu, tu, tu, tu, tu, tu, tu, tu, tu, tu, tu, tu, tu, tu, tu, tu, tu, tu, tu, tu, tu, tu, tu, tu, tu, tu, tu, tu, tu, tu, tu, tu, tu, tu, tu, tu, tu, tu, tu, tu, tu, tu, tu, tu, tu, tu, tu, tu, tu, tu, tu, tu, tu, tu, tu, tu, tu, tu, tu, tu, tu, tu, tu, tu, tu, tu, tu, tu, tu, tu, tu, tu, tu, tu, tu, tu, tu, tu, tu, tu, tu, tu, tu, tu, tu, tu, tu, tu, tu, tu, tu, tu, tu, tu, tu, tu, tu, tu, tu, tu, tu, tu, tu, tu, tu, tu, tu, tu, tu, tu, tu, tu, tu, tu, tu, tu, tu, tu, tu, tu, tu, tu, tu, tu, tu, tu, tu, tu, tu, tu, tu, tu, tu, tu, tu, tu, tu, tu, tu, tu, tu, tu, tu, tu, tu, tu, tu, tu, tu, tu, tu, tu, tu, tu, tu, tu, tu, tu, tu, tu, tu, tu, tu, tu, tu] : List Value).getD j9 undef) ?_))
      · rfl
      · exact decide_eq_true (by omega)
    · have h02 : pickN a.kd 8 = 1 := by omega
      (focus
        refine Xg.at_region ?_
        refine Xg.ops_op (by kernel_rfl) (Xg.opx_pure (.bool (decide ((((↑(pickN a.kd (8 : Nat)) : Int)) : Int) = ((0 : Int))))) rfl (fun _ => by kernel_rfl) ?_)
        refine Xg.ops_op (by kernel_rfl) (Xg.opx_pure ((Value.bool (decide ((↑(pickN a.kd (8 : Nat)) : Int) = (0 : Int))))) rfl (fun _ => by kernel_rfl) ?_)
        refine Xg.ops_nil ?_
        refine Xg.at_false (t := decide (((↑(pickN a.kd (8 : Nat)) : Int) = (0 : Int)))) (by kernel_rfl) (decide_eq_false (by omega)) ?_
        refine Xg.at_region ?_
        refine Xg.ops_op (by kernel_rfl) (Xg.opx_pure (.bool (decide ((((↑(pickN a.kd (8 : Nat)) : Int)) : Int) = ((1 : Int))))) rfl (fun _ => by kernel_rfl) ?_)
        refine Xg.ops_op (by kernel_rfl) (Xg.opx_pure ((Value.bool (decide ((↑(pickN a.kd (8 : Nat)) : Int) = (1 : Int))))) rfl (fun _ => by kernel_rfl) ?_)
        refine Xg.ops_nil ?_)
      (focus
        refine Xg.at_keep [0, 1, 2, 3, 4, 5] (by kernel_rfl) ?_
        refine Xg.At.same (by kernel_rfl) ?_ (hk ((decide (((pickN a.kd 8 : Nat) : Int) = 1)), fun j9 => ([pv p 0, Value.agg #[iv (↑x.id : Int), Value.slice x.la x.les.length x.lc, Value.slice x.ba x.Z.length x.bc], Value.agg #[iv a.kd, iv a.wh, iv a.sz, iv a.pk, iv a.ap, iv a.bt], iv q, tu, pv xb1 0, pv xb2 0, tu, pv xb3 0, Value.bool false, iv (↑k : Int), tu, tu, tu, tu, tu, tu, tu, tu, tu, tu, tu, tu, tu, tu, tu, tu, tu, pv xb1 1, Value.slice x.la x.les.length x.lc, iv (↑x.les.length : Int), Value.bool (decide ((↑x.les.length : Int) > (0 : Int))), J 32, J 33, J 34, J 35, J 36, J 37, pv xb2 0, iv a.kd, iv (↑(pickN a.kd (8 : Nat)) : Int), Value.bool (decide ((↑(pickN a.kd (8 : Nat)) : Int) = (1 : Int))), Value.bool (decide ((↑(pickN a.kd (8 : Nat)) : Int) = (0 : Int))), Value.bool (decide ((↑(pickN a.kd (8 : Nat)) : Int) = (1 : Int))), tu, tu, tu, tu, tu, tu, tu, tu, tu, tu, tu, tu, tu, tu, tu, tu, tu, tu, tu, tu, tu, tu, tu, tu, tu, tu, tu, tu, tu, tu, tu, tu, tu, tu, tu, tu, tu, tu, tu, tu, tu, tu, tu, tu, tu, tu, tu, tu, tu, tu, tu, tu, tu, tu, tu, tu, tu, tu, tu, tu, tu, tu, tu, tu, tu, tu, tu, tu, tu, tu, tu, tu, tu, tu, tu, tu, tu, tu, tu, tu, tu, tu, tu, tu, tu, tu, tu, tu, tu, tu, tu, tu, tu, tu, tu, tu, tu, tu, tu, tu, tu, tu, tu, tu, tu, tu, tu, tu, tu, tu, tu, tu, tu, tu, tu, tu, tu, tu, tu, tu, tu, tu, tu, tu, tu, tu, tu, tu, tu, tu, tu, tu, tu, tu, tu, tu, tu, tu, tu, tu, tu, tu, tu, tu, tu, tu, tu, tu, tu, tu, tu, tu, tu, tu, tu, tu, tu, tu, tu, tu, tu, tu, tu, tu, tu, tu, tu, tu, tu, tu, tu, tu, tu, tu, tu, tu, tu, tu, tu, tu, tu, tu, tu, tu, tu, tu, tu, tu, tu, tu, tu, tu, tu, tu, tu, tu, tu, tu, tu, tu, tu, tu, tu] : List Value).getD j9 undef) ?_))
      · rfl
      · exact decide_eq_true (by omega)
  rintro ⟨b0, J0⟩ hu0
  dsimp only at hu0
  subst hu0
  (focus
    refine Xg.At.same (T' := [pv p 0, Value.agg #[iv (↑x.id : Int), Value.slice x.la x.les.length x.lc, Value.slice x.ba x.Z.length x.bc], Value.agg #[iv a.kd, iv a.wh, iv a.sz, iv a.pk, iv a.ap, iv a.bt], iv q, tu, pv xb1 0, pv xb2 0, tu, pv xb3 0, Value.bool false, iv (↑k : Int), tu, tu, tu, tu, tu, tu, tu, tu, tu, tu, tu, tu, tu, tu, tu, tu, tu, pv xb1 1, Value.slice x.la x.les.length x.lc, iv (↑x.les.length : Int), Value.bool (decide ((↑x.les.length : Int) > (0 : Int))), J 32, J 33, J 34, J 35, J 36, J 37, pv xb2 0, iv a.kd, iv (↑(pickN a.kd (8 : Nat)) : Int), Value.bool true, J0 42, J0 43, tu, tu, tu, tu, tu, tu, tu, tu, tu, tu, tu, tu, tu, tu, tu, tu, tu, tu, tu, tu, tu, tu, tu, tu, tu, tu, tu, tu, tu, tu, tu, tu, tu, tu, tu, tu, tu, tu, tu, tu, tu, tu, tu, tu, tu, tu, tu, tu, tu, tu, tu, tu, tu, tu, tu, tu, tu, tu, tu, tu, tu, tu, tu, tu, tu, tu, tu, tu, tu, tu, tu, tu, tu, tu, tu, tu, tu, tu, tu, tu, tu, tu, tu, tu, tu, tu, tu, tu, tu, tu, tu, tu, tu, tu, tu, tu, tu, tu, tu, tu, tu, tu, tu, tu, tu, tu, tu, tu, tu, tu, tu, tu, tu, tu, tu, tu, tu, tu, tu, tu, tu, tu, tu, tu, tu, tu, tu, tu, tu, tu, tu, tu, tu, tu, tu, tu, tu, tu, tu, tu, tu, tu, tu, tu, tu, tu, tu, tu, tu, tu, tu, tu, tu, tu, tu, tu, tu, tu, tu, tu, tu, tu, tu, tu, tu, tu, tu, tu, tu, tu, tu, tu, tu, tu, tu, tu, tu, tu, tu, tu, tu, tu, tu, tu, tu, tu, tu, tu, tu, tu, tu, tu, tu, tu, tu, tu, tu, tu, tu, tu, tu, tu, tu]) (L' := [PoolS p σ, LeP x, BhP x, row xb1 (62 : TypeId) (hdK x), row xb2 (59 : TypeId) (acC a), row xb3 (62 : TypeId) [iv 0, Value.slice none (0 : Nat) (0 : Nat), Value.slice none (0 : Nat) (0 : Nat)]]) (by kernel_rfl) rfl ?_)
  (focus
    refine Xg.at_true (t := true) (by kernel_rfl) rfl ?_
    refine Xg.at_seq ?_
    refine Xg.at_region ?_
    refine Xg.ops_op (by kernel_rfl) (Xg.opx_pure ((pv xb2 2)) rfl (fun _ => by kernel_rfl) ?_)
    refine Xg.ops_op (by kernel_rfl) (Xg.opx_load (b := xb2) (off := ((2 : Nat))) 4 (iv a.sz) rfl (by kernel_rfl) (by kernel_rfl) (by kernel_rfl) ?_)
    refine Xg.ops_op (by kernel_rfl) (Xg.opx_call1' [] [PoolS p σ, LeP x, BhP x, row xb1 (62 : TypeId) [iv (↑x.id : Int), Value.slice x.la x.les.length x.lc, Value.slice x.ba x.Z.length x.bc], row xb2 (59 : TypeId) [iv a.kd, iv a.wh, iv a.sz, iv a.pk, iv a.ap, iv a.bt], row xb3 (62 : TypeId) [iv 0, Value.slice none (0 : Nat) (0 : Nat), Value.slice none (0 : Nat) (0 : Nat)]] (fun _ => by kernel_rfl) (@hp16 ) (by kernel_rfl) (by kernel_rfl) (by kernel_rfl) ?_)
    refine Xg.ops_op (by kernel_rfl) (Xg.opx_int .i64 (IntKind.wrap .i64 (((1 : Int) + (↑(pickN a.sz (16 : Nat)) : Int)))) rfl (fun _ => by kernel_rfl) (Xg.wrap_i64_in (by omega)) ?_)
    refine Xg.ops_op (by kernel_rfl) (Xg.opx_pure ((iv ((1 : Int) + (↑(pickN a.sz (16 : Nat)) : Int)))) rfl (fun _ => by kernel_rfl) ?_)
    refine Xg.ops_nil ?_
    refine Xg.at_seq ?_
    refine Xg.at_region ?_
    refine Xg.ops_op (by kernel_rfl) (Xg.opx_pure ((iv 0)) rfl (fun _ => by kernel_rfl) ?_)
    refine Xg.ops_nil ?_
    refine Xg.at_seq ?_
    refine Xg.at_region ?_
    refine Xg.ops_op (by kernel_rfl) (Xg.opx_pure ((iv 4)) rfl (fun _ => by kernel_rfl) ?_)
    refine Xg.ops_nil ?_
    refine Xg.at_seq ?_
    refine Xg.at_seq ?_
    refine Xg.at_region ?_
    refine Xg.ops_op (by kernel_rfl) (Xg.opx_pure ((iv ((1 : Int) + (↑(pickN a.sz (16 : Nat)) : Int)))) rfl (fun _ => by kernel_rfl) ?_)
    refine Xg.ops_op (by kernel_rfl) (Xg.opx_pure (.bool (decide ((((1 : Int) + (↑(pickN a.sz (16 : Nat)) : Int)) : Int) > ((4 : Int))))) rfl (fun _ => by kernel_rfl) ?_)
    refine Xg.ops_nil ?_)
  (focus
    refine Xg.at_cut (α := (Nat × Nat) × (Nat → Value)) (fun x9 => ((fun y => y.1 = clsA a ∧ y.2 = hasA a) : (Nat × Nat) → Prop) x9.1) (fun x9 => Xg.headT [pv p 0, Value.agg #[iv (↑x.id : Int), Value.slice x.la x.les.length x.lc, Value.slice x.ba x.Z.length x.bc], Value.agg #[iv a.kd, iv a.wh, iv a.sz, iv a.pk, iv a.ap, iv a.bt], iv q, tu, pv xb1 0, pv xb2 0, tu, pv xb3 0, Value.bool false, iv (↑k : Int), iv ((1 : Int) + (↑(pickN a.sz (16 : Nat)) : Int)), iv 0, iv 4, tu, tu, tu, tu, tu, tu, tu, tu, tu, tu, tu, tu, tu, tu, pv xb1 1, Value.slice x.la x.les.length x.lc, iv (↑x.les.length : Int), Value.bool (decide ((↑x.les.length : Int) > (0 : Int))), J 32, J 33, J 34, J 35, J 36, J 37, pv xb2 0, iv a.kd, iv (↑(pickN a.kd (8 : Nat)) : Int), Value.bool true, J0 42, J0 43, pv xb2 2, iv a.sz, iv (↑(pickN a.sz (16 : Nat)) : Int), iv ((1 : Int) + (↑(pickN a.sz (16 : Nat)) : Int)), iv ((1 : Int) + (↑(pickN a.sz (16 : Nat)) : Int)), Value.bool (decide ((1 : Int) + (↑(pickN a.sz (16 : Nat)) : Int) > (4 : Int))), tu, tu, tu, tu, tu, tu, tu, tu, tu, tu, tu, tu, tu, tu, tu, tu, tu, tu, tu, tu, tu, tu, tu, tu, tu, tu, tu, tu, tu, tu, tu, tu, tu, tu, tu, tu, tu, tu, tu, tu, tu, tu, tu, tu, tu, tu, tu, tu, tu, tu, tu, tu, tu, tu, tu, tu, tu, tu, tu, tu, tu, tu, tu, tu, tu, tu, tu, tu, tu, tu, tu, tu, tu, tu, tu, tu, tu, tu, tu, tu, tu, tu, tu, tu, tu, tu, tu, tu, tu, tu, tu, tu, tu, tu, tu, tu, tu, tu, tu, tu, tu, tu, tu, tu, tu, tu, tu, tu, tu, tu, tu, tu, tu, tu, tu, tu, tu, tu, tu, tu, tu, tu, tu, tu, tu, tu, tu, tu, tu, tu, tu, tu, tu, tu, tu, tu, tu, tu, tu, tu, tu, tu, tu, tu, tu, tu, tu, tu, tu, tu, tu, tu, tu, tu, tu, tu, tu, tu, tu, tu, tu, tu, tu, tu, tu, tu, tu, tu, tu, tu, tu, tu, tu, tu, tu, tu, tu, tu, tu, tu, tu, tu, tu, tu, tu, tu, tu, tu, tu, tu, tu, tu, tu, tu, tu, tu, tu] [] (((fun y => [(12, .int .i64 (y.1 : Nat)), (13, .int .i64 (y.2 : Nat))]) : (Nat × Nat) → List (Nat × Go.Value)) x9.1) x9.2) (fun x9 => ((fun y => [PoolS p σ, LeP x, BhP x, row xb1 62 (hdK x), row xb2 59 (acC a), row xb3 62 [.int .i64 0, .slice none 0 0, .slice none 0 0]]) : (Nat × Nat) → List Go.Sl.HP) x9.1) (fun kk hk => ?_) ?_)
  · by_cases h4 : 1 + pickN a.sz 16 > 4
    · (focus
        refine Xg.at_true (t := decide (((1 : Int) + (↑(pickN a.sz (16 : Nat)) : Int) > (4 : Int)))) (by kernel_rfl) (decide_eq_true (by omega)) ?_
        refine Xg.at_seq ?_
        refine Xg.at_region ?_
        refine Xg.ops_op (by kernel_rfl) (Xg.opx_pure ((iv 1)) rfl (fun _ => by kernel_rfl) ?_)
        refine Xg.ops_nil ?_
        refine Xg.at_region ?_
        refine Xg.ops_op (by kernel_rfl) (Xg.opx_pure ((iv 16)) rfl (fun _ => by kernel_rfl) ?_)
        refine Xg.ops_nil ?_)
      (focus
        refine Xg.at_keep [0, 1, 2, 3, 4, 5] (by kernel_rfl) ?_
        refine Xg.At.same (by kernel_rfl) ?_ (hk (((1, 16)), fun j9 => ([pv p 0, Value.agg #[iv (↑x.id : Int), Value.slice x.la x.les.length x.lc, Value.slice x.ba x.Z.length x.bc], Value.agg #[iv a.kd, iv a.wh, iv a.sz, iv a.pk, iv a.ap, iv a.bt], iv q, tu, pv xb1 0, pv xb2 0, tu, pv xb3 0, Value.bool false, iv (↑k : Int), iv ((1 : Int) + (↑(pickN a.sz (16 : Nat)) : Int)), iv 1, iv 16, tu, tu, tu, tu, tu, tu, tu, tu, tu, tu, tu, tu, tu, tu, pv xb1 1, Value.slice x.la x.les.length x.lc, iv (↑x.les.length : Int), Value.bool (decide ((↑x.les.length : Int) > (0 : Int))), J 32, J 33, J 34, J 35, J 36, J 37, pv xb2 0, iv a.kd, iv (↑(pickN a.kd (8 : Nat)) : Int), Value.bool true, J0 42, J0 43, pv xb2 2, iv a.sz, iv (↑(pickN a.sz (16 : Nat)) : Int), iv ((1 : Int) + (↑(pickN a.sz (16 : Nat)) : Int)), iv ((1 : Int) + (↑(pickN a.sz (16 : Nat)) : Int)), Value.bool (decide ((1 : Int) + (↑(pickN a.sz (16 : Nat)) : Int) > (4 : Int))), tu, tu, tu, tu, tu, tu, tu, tu, tu, tu, tu, tu, tu, tu, tu, tu, tu, tu, tu, tu, tu, tu, tu, tu, tu, tu, tu, tu, tu, tu, tu, tu, tu, tu, tu, tu, tu, tu, tu, tu, tu, tu, tu, tu, tu, tu, tu, tu, tu, tu, tu, tu, tu, tu, tu, tu, tu, tu, tu, tu, tu, tu, tu, tu, tu, tu, tu, tu, tu, tu, tu, tu, tu, tu, tu, tu, tu, tu, tu, tu, tu, tu, tu, tu, tu, tu, tu, tu, tu, tu, tu, tu, tu, tu, tu, tu, tu, tu, tu, tu, tu, tu, tu, tu, tu, tu, tu, tu, tu, tu, tu, tu, tu, tu, tu, tu, tu, tu, tu, tu, tu, tu, tu, tu, tu, tu, tu, tu, tu, tu, tu, tu, tu, tu, tu, tu, tu, tu, tu, tu, tu, tu, tu, tu, tu, tu, tu, tu, tu, tu, tu, tu, tu, tu, tu, tu, tu, tu, tu, tu, tu, tu, tu, tu, tu, tu, tu, tu, tu, tu, tu, tu, tu, tu, tu, tu, tu, tu, tu, tu, tu, tu, tu, tu, tu, tu, tu, tu, tu, tu, tu, tu, tu, tu, tu, tu, tu] : List Value).getD j9 undef) ?_))
      · rfl
      · dsimp only; unfold clsA hasA; rw [if_pos h4, if_pos h4]; exact ⟨rfl, rfl⟩
    · (focus
        refine Xg.at_false (t := decide (((1 : Int) + (↑(pickN a.sz (16 : Nat)) : Int) > (4 : Int)))) (by kernel_rfl) (decide_eq_false (by omega)) ?_
        refine Xg.at_skip ?_)
      (focus
        refine Xg.at_keep [0, 1, 2, 3, 4, 5] (by kernel_rfl) ?_
        refine Xg.At.same (by kernel_rfl) ?_ (hk (((0, 4)), fun j9 => ([pv p 0, Value.agg #[iv (↑x.id : Int), Value.slice x.la x.les.length x.lc, Value.slice x.ba x.Z.length x.bc], Value.agg #[iv a.kd, iv a.wh, iv a.sz, iv a.pk, iv a.ap, iv a.bt], iv q, tu, pv xb1 0, pv xb2 0, tu, pv xb3 0, Value.bool false, iv (↑k : Int), iv ((1 : Int) + (↑(pickN a.sz (16 : Nat)) : Int)), iv 0, iv 4, tu, tu, tu, tu, tu, tu, tu, tu, tu, tu, tu, tu, tu, tu, pv xb1 1, Value.slice x.la x.les.length x.lc, iv (↑x.les.length : Int), Value.bool (decide ((↑x.les.length : Int) > (0 : Int))), J 32, J 33, J 34, J 35, J 36, J 37, pv xb2 0, iv a.kd, iv (↑(pickN a.kd (8 : Nat)) : Int), Value.bool true, J0 42, J0 43, pv xb2 2, iv a.sz, iv (↑(pickN a.sz (16 : Nat)) : Int), iv ((1 : Int) + (↑(pickN a.sz (16 : Nat)) : Int)), iv ((1 : Int) + (↑(pickN a.sz (16 : Nat)) : Int)), Value.bool (decide ((1 : Int) + (↑(pickN a.sz (16 : Nat)) : Int) > (4 : Int))), tu, tu, tu, tu, tu, tu, tu, tu, tu, tu, tu, tu, tu, tu, tu, tu, tu, tu, tu, tu, tu, tu, tu, tu, tu, tu, tu, tu, tu, tu, tu, tu, tu, tu, tu, tu, tu, tu, tu, tu, tu, tu, tu, tu, tu, tu, tu, tu, tu, tu, tu, tu, tu, tu, tu, tu, tu, tu, tu, tu, tu, tu, tu, tu, tu, tu, tu, tu, tu, tu, tu, tu, tu, tu, tu, tu, tu, tu, tu, tu, tu, tu, tu, tu, tu, tu, tu, tu, tu, tu, tu, tu, tu, tu, tu, tu, tu, tu, tu, tu, tu, tu, tu, tu, tu, tu, tu, tu, tu, tu, tu, tu, tu, tu, tu, tu, tu, tu, tu, tu, tu, tu, tu, tu, tu, tu, tu, tu, tu, tu, tu, tu, tu, tu, tu, tu, tu, tu, tu, tu, tu, tu, tu, tu, tu, tu, tu, tu, tu, tu, tu, tu, tu, tu, tu, tu, tu, tu, tu, tu, tu, tu, tu, tu, tu, tu, tu, tu, tu, tu, tu, tu, tu, tu, tu, tu, tu, tu, tu, tu, tu, tu, tu, tu, tu, tu, tu, tu, tu, tu, tu, tu, tu, tu, tu, tu, tu] : List Value).getD j9 undef) ?_))
      · rfl
      · dsimp only; unfold clsA hasA; rw [if_neg h4, if_neg h4]; exact ⟨rfl, rfl⟩
  rintro ⟨⟨c, h⟩, J2⟩ hch
  obtain ⟨hc, hh⟩ := hch
  dsimp only at hc hh
  have hh2 : hasA a ≤ 16 := by unfold hasA; split <;> omega
  have hc2 : clsA a ≤ 1 := by unfold clsA; split <;> omega
  subst hc
  subst hh
  (focus
    refine Xg.At.same (T' := [pv p 0, Value.agg #[iv (↑x.id : Int), Value.slice x.la x.les.length x.lc, Value.slice x.ba x.Z.length x.bc], Value.agg #[iv a.kd, iv a.wh, iv a.sz, iv a.pk, iv a.ap, iv a.bt], iv q, tu, pv xb1 0, pv xb2 0, tu, pv xb3 0, Value.bool false, iv (↑k : Int), iv ((1 : Int) + (↑(pickN a.sz (16 : Nat)) : Int)), iv (↑(clsA a) : Int), iv (↑(hasA a) : Int), tu, tu, tu, tu, tu, tu, tu, tu, tu, tu, tu, tu, tu, tu, pv xb1 1, Value.slice x.la x.les.length x.lc, iv (↑x.les.length : Int), Value.bool (decide ((↑x.les.length : Int) > (0 : Int))), J 32, J 33, J 34, J 35, J 36, J 37, pv xb2 0, iv a.kd, iv (↑(pickN a.kd (8 : Nat)) : Int), Value.bool true, J0 42, J0 43, pv xb2 2, iv a.sz, iv (↑(pickN a.sz (16 : Nat)) : Int), iv ((1 : Int) + (↑(pickN a.sz (16 : Nat)) : Int)), iv ((1 : Int) + (↑(pickN a.sz (16 : Nat)) : Int)), Value.bool (decide ((1 : Int) + (↑(pickN a.sz (16 : Nat)) : Int) > (4 : Int))), tu, tu, tu, tu, tu, tu, tu, tu, tu, tu, tu, tu, tu, tu, tu, tu, tu, tu, tu, tu, tu, tu, tu, tu, tu, tu, tu, tu, tu, tu, tu, tu, tu, tu, tu, tu, tu, tu, tu, tu, tu, tu, tu, tu, tu, tu, tu, tu, tu, tu, tu, tu, tu, tu, tu, tu, tu, tu, tu, tu, tu, tu, tu, tu, tu, tu, tu, tu, tu, tu, tu, tu, tu, tu, tu, tu, tu, tu, tu, tu, tu, tu, tu, tu, tu, tu, tu, tu, tu, tu, tu, tu, tu, tu, tu, tu, tu, tu, tu, tu, tu, tu, tu, tu, tu, tu, tu, tu, tu, tu, tu, tu, tu, tu, tu, tu, tu, tu, tu, tu, tu, tu, tu, tu, tu, tu, tu, tu, tu, tu, tu, tu, tu, tu, tu, tu, tu, tu, tu, tu, tu, tu, tu, tu, tu, tu, tu, tu, tu, tu, tu, tu, tu, tu, tu, tu, tu, tu, tu, tu, tu, tu, tu, tu, tu, tu, tu, tu, tu, tu, tu, tu, tu, tu, tu, tu, tu, tu, tu, tu, tu, tu, tu, tu, tu, tu, tu, tu, tu, tu, tu, tu, tu, tu, tu, tu, tu]) (L' := [PoolS p σ, LeP x, BhP x, row xb1 (62 : TypeId) (hdK x), row xb2 (59 : TypeId) (acC a), row xb3 (62 : TypeId) [iv 0, Value.slice none (0 : Nat) (0 : Nat), Value.slice none (0 : Nat) (0 : Nat)]]) (by kernel_rfl) rfl ?_)
  (focus
    refine Xg.at_seq ?_
    refine Xg.at_region ?_
    refine Xg.ops_op (by kernel_rfl) (Xg.opx_pure ((pv p 0)) rfl (fun _ => by kernel_rfl) ?_)
    refine Xg.ops_op (by kernel_rfl) (Xg.opx_pure ((iv (↑(clsA a) : Int))) rfl (fun _ => by kernel_rfl) ?_)
    refine Xg.ops_op (by kernel_rfl) (Xg.opx_callE' [0] (fun xx1 => [PoolS p σ, I2 xx1.fst xx1.snd fr, LeP x, BhP x, row xb1 (62 : TypeId) [iv (↑x.id : Int), Value.slice x.la x.les.length x.lc, Value.slice x.ba x.Z.length x.bc], row xb2 (59 : TypeId) [iv a.kd, iv a.wh, iv a.sz, iv a.pk, iv a.ap, iv a.bt], row xb3 (62 : TypeId) [iv 0, Value.slice none (0 : Nat) (0 : Nat), Value.slice none (0 : Nat) (0 : Nat)]]) (fun _ => by kernel_rfl) (@hfree ) (by kernel_rfl) (by kernel_rfl) (by kernel_rfl) fun xx1 xh1 => ?_)
    try dsimp only at xh1
    refine Xg.ops_op (by kernel_rfl) (Xg.opx_pure ((Value.slice xx1.fst fr.length xx1.snd)) rfl (fun _ => by kernel_rfl) ?_)
    refine Xg.ops_nil ?_
    refine Xg.at_seq ?_
    refine Xg.at_region ?_
    refine Xg.ops_op (by kernel_rfl) (Xg.opx_pure ((pv p 0)) rfl (fun _ => by kernel_rfl) ?_)
    refine Xg.ops_op (by kernel_rfl) (Xg.opx_pure ((pv xb1 0)) rfl (fun _ => by kernel_rfl) ?_)
    refine Xg.ops_op (by kernel_rfl) (Xg.opx_load (b := xb1) (off := ((0 : Nat))) 4 (iv (↑x.id : Int)) rfl (by kernel_rfl) (by kernel_rfl) (by kernel_rfl) ?_)
    refine Xg.ops_op (by kernel_rfl) (Xg.opx_pure ((iv ((1 : Int) + (↑(pickN a.sz (16 : Nat)) : Int)))) rfl (fun _ => by kernel_rfl) ?_)
    refine Xg.ops_op (by kernel_rfl) (Xg.opx_pure ((pv xb2 3)) rfl (fun _ => by kernel_rfl) ?_)
    refine Xg.ops_op (by kernel_rfl) (Xg.opx_load (b := xb2) (off := ((3 : Nat))) 5 (iv a.pk) rfl (by kernel_rfl) (by kernel_rfl) (by kernel_rfl) ?_)
    refine Xg.ops_op (by kernel_rfl) (Xg.opx_call1' [0] [PoolS p σ, I2 xx1.fst xx1.snd fr, LeP x, BhP x, row xb1 (62 : TypeId) [iv (↑x.id : Int), Value.slice x.la x.les.length x.lc, Value.slice x.ba x.Z.length x.bc], row xb2 (59 : TypeId) [iv a.kd, iv a.wh, iv a.sz, iv a.pk, iv a.ap, iv a.bt], row xb3 (62 : TypeId) [iv 0, Value.slice none (0 : Nat) (0 : Nat), Value.slice none (0 : Nat) (0 : Nat)]] (fun _ => by kernel_rfl) (@htake ) (by kernel_rfl) (by kernel_rfl) (by kernel_rfl) ?_)
    refine Xg.ops_op (by kernel_rfl) (Xg.opx_pure ((Value.tuple #[Value.agg #[iv 0, iv 0, iv 0], iv 92])) rfl (fun _ => by kernel_rfl) ?_)
    refine Xg.ops_op (by kernel_rfl) (Xg.opx_pure ((Value.agg #[iv 0, iv 0, iv 0])) rfl (fun _ => by kernel_rfl) ?_)
    refine Xg.ops_op (by kernel_rfl) (Xg.opx_pure ((iv 92)) rfl (fun _ => by kernel_rfl) ?_)
    refine Xg.ops_op (by kernel_rfl) (Xg.opx_new 3 [iv 0, iv 0, iv 0] (by kernel_rfl) (by kernel_rfl) fun xb4 => ?_)
    refine Xg.ops_op (by kernel_rfl) (Xg.opx_storen 3 (off := 0) 0 [iv 0, iv 0, iv 0] (by kernel_rfl) rfl (by kernel_rfl) (by kernel_rfl) rfl (by kernel_rfl) (Nat.le_of_ble_eq_true (by kernel_rfl)) ?_)
    refine Xg.ops_op (by kernel_rfl) (Xg.opx_pure ((iv 92)) rfl (fun _ => by kernel_rfl) ?_)
    refine Xg.ops_nil ?_
    refine Xg.at_seq ?_
    refine Xg.at_block ?_
    refine Xg.at_seq ?_
    refine Xg.at_region ?_
    refine Xg.ops_op (by kernel_rfl) (Xg.opx_loadn (off := 0) 3 5 [iv (↑x.id : Int), Value.slice x.la x.les.length x.lc, Value.slice x.ba x.Z.length x.bc] (by kernel_rfl) rfl (by kernel_rfl) rfl (Xg.cells_at (by kernel_rfl)) (by kernel_rfl) ?_)
    refine Xg.ops_op (by kernel_rfl) (Xg.opx_call1' [3] [recsO (42 : Nat) (3 : Nat) leK x.la x.lc x.les, row xb4 (42 : Nat) [iv 0, iv 0, iv 0], PoolS p σ, I2 xx1.fst xx1.snd fr, BhP x, row xb1 (62 : TypeId) [iv (↑x.id : Int), Value.slice x.la x.les.length x.lc, Value.slice x.ba x.Z.length x.bc], row xb2 (59 : TypeId) [iv a.kd, iv a.wh, iv a.sz, iv a.pk, iv a.ap, iv a.bt], row xb3 (62 : TypeId) [iv 0, Value.slice none (0 : Nat) (0 : Nat), Value.slice none (0 : Nat) (0 : Nat)]] (fun _ => by kernel_rfl) (@hsd (((↑x.id : Int))) (x.la) (x.lc) ((Value.slice x.ba x.Z.length x.bc))) (by kernel_rfl) (by kernel_rfl) (by kernel_rfl) ?_)
    refine Xg.ops_op (by kernel_rfl) (Xg.opx_pure ((iv (↑(hasA a) : Int))) rfl (fun _ => by kernel_rfl) ?_)
    refine Xg.ops_op (by kernel_rfl) (Xg.opx_int .i64 (IntKind.wrap .i64 ((sizeL x.les + (↑(hasA a) : Int)))) rfl (fun _ => by kernel_rfl) (Xg.wrap_i64_in (by omega)) ?_)
    refine Xg.ops_op (by kernel_rfl) (Xg.opx_pure ((iv q)) rfl (fun _ => by kernel_rfl) ?_)
    refine Xg.ops_op (by kernel_rfl) (Xg.opx_pure (.bool (decide (((sizeL x.les + (↑(hasA a) : Int)) : Int) > q))) rfl (fun _ => by kernel_rfl) ?_)
    refine Xg.ops_op (by kernel_rfl) (Xg.opx_pure ((Value.bool (decide (sizeL x.les + (↑(hasA a) : Int) > q)))) rfl (fun _ => by kernel_rfl) ?_)
    refine Xg.ops_nil ?_
    refine Xg.at_true (t := decide ((sizeL x.les + (↑(hasA a) : Int) > q))) (by kernel_rfl) (decide_eq_true (by omega)) ?_
    refine Xg.at_seq ?_
    refine Xg.at_region ?_
    refine Xg.ops_op (by kernel_rfl) (Xg.opx_loadn (off := 0) 3 5 [iv (↑x.id : Int), Value.slice x.la x.les.length x.lc, Value.slice x.ba x.Z.length x.bc] (by kernel_rfl) rfl (by kernel_rfl) rfl (Xg.cells_at (by kernel_rfl)) (by kernel_rfl) ?_)
    refine Xg.ops_op (by kernel_rfl) (Xg.opx_pure ((iv 92)) rfl (fun _ => by kernel_rfl) ?_)
    refine Xg.ops_op (by kernel_rfl) (Xg.opx_pure ((Value.bool true)) rfl (fun _ => by kernel_rfl) ?_)
    refine Xg.ops_op (by kernel_rfl) (Xg.opx_storen 3 (off := 0) 7 [iv (↑x.id : Int), Value.slice x.la x.les.length x.lc, Value.slice x.ba x.Z.length x.bc] (by kernel_rfl) rfl (by kernel_rfl) (by kernel_rfl) rfl (by kernel_rfl) (Nat.le_of_ble_eq_true (by kernel_rfl)) ?_)
    refine Xg.ops_op (by kernel_rfl) (Xg.opx_pure ((Value.bool true)) rfl (fun _ => by kernel_rfl) ?_)
    refine Xg.ops_nil ?_
    refine Xg.at_ret_feed (v := (Value.tuple #[Value.agg #[iv (↑x.id : Int), Value.slice x.la x.les.length x.lc, Value.slice x.ba x.Z.length x.bc], Value.bool true])) [(Addr.mk xb3 (0 : Nat) none), (Addr.mk xb3 (1 : Nat) none), (Addr.mk xb3 (2 : Nat) none)] [iv (↑x.id : Int), Value.slice x.la x.les.length x.lc, Value.slice x.ba x.Z.length x.bc] [2, 0, 4] [PoolS p σ, recsO (42 : Nat) (3 : Nat) leK x.la x.lc x.les, BhP x] Go.Proofs.Try.func25 (by kernel_rfl) (Xg.cells_cons (b := xb3) (off := 0) 7 rfl (by kernel_rfl) (Xg.cells_cons (b := xb3) (off := 1) 7 rfl (by kernel_rfl) (Xg.cells_cons (b := xb3) (off := 2) 7 rfl (by kernel_rfl) Xg.cells_nil))) (by kernel_rfl) (by kernel_rfl) ?_
    exact ⟨by kernel_rfl, by kernel_rfl⟩)
theorem acts_empty (htake : Does Try.prog 17 [.pointer (some ⟨p, 0, none⟩), .int .i64 (x.id : Nat), .int .i64 (1 + (pickN a.sz 16 : Nat)), .int .i64 a.pk] [PoolS p σ] (Ret (.tuple #[.agg #[.int .i64 0, .int .i64 0, .int .i64 0], .int .i64 96]) [PoolS p σ]))
    (hq : sizeL x.les + hasA a ≤ q) (hf : fr.length = 0) : Does Try.prog 25 [.pointer (some ⟨p, 0, none⟩), hdV x, acV a, .int .i64 q] [PoolS p σ, LeP x, BhP x] (Ret (.tuple #[hdV x, .bool true]) [PoolS p σ, LeP x, BhP x]) := by
  obtain ⟨a1, a2, a3, a4, a5, a6⟩ := id ha
  have hl50 := hl5.1
  have hp8 := pick_r a.kd 8 a1 (by decide)
  have hp16 := pick_r a.sz 16 a3 (by decide)
  have h16 := pickN_lt a.sz 16 (by decide)
  have hsd := fun id aa c bv => size_d id aa c bv x.les hl5
  have hsb := sizeL_bd hl5 x.les.length (Nat.le_refl _)
  rw [List.take_length] at hsb
  (focus
    refine Xg.spec_of Go.Proofs.Try.func25 rfl Go.Proofs.Try.ntmps25 fun g F => ?_)
  (focus
    refine Xg.at_seq ?_
    refine Xg.at_region ?_
    refine Xg.ops_op (by kernel_rfl) (Xg.opx_box (v := (Value.agg #[iv (↑x.id : Int), Value.slice x.la x.les.length x.lc, Value.slice x.ba x.Z.length x.bc])) [iv (↑x.id : Int), Value.slice x.la x.les.length x.lc, Value.slice x.ba x.Z.length x.bc] (by kernel_rfl) (by kernel_rfl) fun xb1 => ?_)
    refine Xg.ops_op (by kernel_rfl) (Xg.opx_box (v := (Value.agg #[iv a.kd, iv a.wh, iv a.sz, iv a.pk, iv a.ap, iv a.bt])) [iv a.kd, iv a.wh, iv a.sz, iv a.pk, iv a.ap, iv a.bt] (by kernel_rfl) (by kernel_rfl) fun xb2 => ?_)
    refine Xg.ops_op (by kernel_rfl) (Xg.opx_new 3 [iv 0, Value.slice none (0 : Nat) (0 : Nat), Value.slice none (0 : Nat) (0 : Nat)] (by kernel_rfl) (by kernel_rfl) fun xb3 => ?_)
    refine Xg.ops_op (by kernel_rfl) (Xg.opx_pure ((Value.bool false)) rfl (fun _ => by kernel_rfl) ?_)
    refine Xg.ops_nil ?_
    refine Xg.at_seq ?_
    refine Xg.at_region ?_
    refine Xg.ops_op (by kernel_rfl) (Xg.opx_pure ((iv 0)) rfl (fun _ => by kernel_rfl) ?_)
    refine Xg.ops_nil ?_
    refine Xg.at_seq ?_
    refine Xg.at_seq ?_
    refine Xg.at_region ?_
    refine Xg.ops_op (by kernel_rfl) (Xg.opx_pure ((pv xb1 1)) rfl (fun _ => by kernel_rfl) ?_)
    refine Xg.ops_op (by kernel_rfl) (Xg.opx_load (b := xb1) (off := ((1 : Nat))) 2 (Value.slice x.la x.les.length x.lc) rfl (by kernel_rfl) (by kernel_rfl) (by kernel_rfl) ?_)
    refine Xg.ops_op (by kernel_rfl) (Xg.opx_pure ((iv (↑x.les.length : Int))) rfl (fun _ => by kernel_rfl) ?_)
    refine Xg.ops_op (by kernel_rfl) (Xg.opx_pure (.bool (decide ((((↑x.les.length : Int)) : Int) > ((0 : Int))))) rfl (fun _ => by kernel_rfl) ?_)
    refine Xg.ops_nil ?_)
  (focus
    refine Xg.at_cut (α := (Nat) × (Nat → Value)) (fun x9 => ((fun k => k = kOf a x.les.length) : (Nat) → Prop) x9.1) (fun x9 => Xg.headT [pv p 0, Value.agg #[iv (↑x.id : Int), Value.slice x.la x.les.length x.lc, Value.slice x.ba x.Z.length x.bc], Value.agg #[iv a.kd, iv a.wh, iv a.sz, iv a.pk, iv a.ap, iv a.bt], iv q, tu, pv xb1 0, pv xb2 0, tu, pv xb3 0, Value.bool false, iv 0, tu, tu, tu, tu, tu, tu, tu, tu, tu, tu, tu, tu, tu, tu, tu, tu, tu, pv xb1 1, Value.slice x.la x.les.length x.lc, iv (↑x.les.length : Int), Value.bool (decide ((↑x.les.length : Int) > (0 : Int))), tu, tu, tu, tu, tu, tu, tu, tu, tu, tu, tu, tu, tu, tu, tu, tu, tu, tu, tu, tu, tu, tu, tu, tu, tu, tu, tu, tu, tu, tu, tu, tu, tu, tu, tu, tu, tu, tu, tu, tu, tu, tu, tu, tu, tu, tu, tu, tu, tu, tu, tu, tu, tu, tu, tu, tu, tu, tu, tu, tu, tu, tu, tu, tu, tu, tu, tu, tu, tu, tu, tu, tu, tu, tu, tu, tu, tu, tu, tu, tu, tu, tu, tu, tu, tu, tu, tu, tu, tu, tu, tu, tu, tu, tu, tu, tu, tu, tu, tu, tu, tu, tu, tu, tu, tu, tu, tu, tu, tu, tu, tu, tu, tu, tu, tu, tu, tu, tu, tu, tu, tu, tu, tu, tu, tu, tu, tu, tu, tu, tu, tu, tu, tu, tu, tu, tu, tu, tu, tu, tu, tu, tu, tu, tu, tu, tu, tu, tu, tu, tu, tu, tu, tu, tu, tu, tu, tu, tu, tu, tu, tu, tu, tu, tu, tu, tu, tu, tu, tu, tu, tu, tu, tu, tu, tu, tu, tu, tu, tu, tu, tu, tu, tu, tu, tu, tu, tu, tu, tu, tu, tu, tu, tu, tu, tu, tu, tu, tu, tu, tu, tu, tu, tu, tu, tu, tu, tu, tu, tu, tu, tu, tu, tu, tu, tu] [32, 33, 34, 35, 36, 37] (((fun k => [(10, .int .i64 (k : Nat))]) : (Nat) → List (Nat × Go.Value)) x9.1) x9.2) (fun x9 => ((fun k => [PoolS p σ, LeP x, BhP x, row xb1 62 (hdK x), row xb2 59 (acC a), row xb3 62 [.int .i64 0, .slice none 0 0, .slice none 0 0]]) : (Nat) → List Go.Sl.HP) x9.1) (fun kk hk => ?_) ?_)
  · by_cases h0 : 0 < x.les.length
    · have hpk := pick_r a.pk x.les.length a4 h0
      (focus
        refine Xg.at_true (t := decide (((↑x.les.length : Int) > (0 : Int)))) (by kernel_rfl) (decide_eq_true (by omega)) ?_
        refine Xg.at_region ?_
        refine Xg.ops_op (by kernel_rfl) (Xg.opx_pure ((pv xb2 3)) rfl (fun _ => by kernel_rfl) ?_)
        refine Xg.ops_op (by kernel_rfl) (Xg.opx_load (b := xb2) (off := ((3 : Nat))) 1 (iv a.pk) rfl (by kernel_rfl) (by kernel_rfl) (by kernel_rfl) ?_)
        refine Xg.ops_op (by kernel_rfl) (Xg.opx_pure ((pv xb1 1)) rfl (fun _ => by kernel_rfl) ?_)
        refine Xg.ops_op (by kernel_rfl) (Xg.opx_load (b := xb1) (off := ((1 : Nat))) 2 (Value.slice x.la x.les.length x.lc) rfl (by kernel_rfl) (by kernel_rfl) (by kernel_rfl) ?_)
        refine Xg.ops_op (by kernel_rfl) (Xg.opx_pure ((iv (↑x.les.length : Int))) rfl (fun _ => by kernel_rfl) ?_)
        refine Xg.ops_op (by kernel_rfl) (Xg.opx_call1' [] [row xb3 (62 : Nat) [iv 0, Value.slice none (0 : Nat) (0 : Nat), Value.slice none (0 : Nat) (0 : Nat)], row xb2 (59 : Nat) [iv a.kd, iv a.wh, iv a.sz, iv a.pk, iv a.ap, iv a.bt], row xb1 (62 : Nat) [iv (↑x.id : Int), Value.slice x.la x.les.length x.lc, Value.slice x.ba x.Z.length x.bc], PoolS p σ, LeP x, BhP x] (fun _ => by kernel_rfl) (@hpk ) (by kernel_rfl) (by kernel_rfl) (by kernel_rfl) ?_)
        refine Xg.ops_op (by kernel_rfl) (Xg.opx_pure ((iv (↑(pickN a.pk x.les.length) : Int))) rfl (fun _ => by kernel_rfl) ?_)
        refine Xg.ops_nil ?_)
      (focus
        refine Xg.at_keep [3, 4, 5, 2, 1, 0] (by kernel_rfl) ?_
        refine Xg.At.same (by kernel_rfl) ?_ (hk ((pickN a.pk x.les.length), fun j9 => ([pv p 0, Value.agg #[iv (↑x.id : Int), Value.slice x.la x.les.length x.lc, Value.slice x.ba x.Z.length x.bc], Value.agg #[iv a.kd, iv a.wh, iv a.sz, iv a.pk, iv a.ap, iv a.bt], iv q, tu, pv xb1 0, pv xb2 0, tu, pv xb3 0, Value.bool false, iv (↑(pickN a.pk x.les.length) : Int), tu, tu, tu, tu, tu, tu, tu, tu, tu, tu, tu, tu, tu, tu, tu, tu, tu, pv xb1 1, Value.slice x.la x.les.length x.lc, iv (↑x.les.length : Int), Value.bool (decide ((↑x.les.length : Int) > (0 : Int))), pv xb2 3, iv a.pk, pv xb1 1, Value.slice x.la x.les.length x.lc, iv (↑x.les.length : Int), iv (↑(pickN a.pk x.les.length) : Int), tu, tu, tu, tu, tu, tu, tu, tu, tu, tu, tu, tu, tu, tu, tu, tu, tu, tu, tu, tu, tu, tu, tu, tu, tu, tu, tu, tu, tu, tu, tu, tu, tu, tu, tu, tu, tu, tu, tu, tu, tu, tu, tu, tu, tu, tu, tu, tu, tu, tu, tu, tu, tu, tu, tu, tu, tu, tu, tu, tu, tu, tu, tu, tu, tu, tu, tu, tu, tu, tu, tu, tu, tu, tu, tu, tu, tu, tu, tu, tu, tu, tu, tu, tu, tu, tu, tu, tu, tu, tu, tu, tu, tu, tu, tu, tu, tu, tu, tu, tu, tu, tu, tu, tu, tu, tu, tu, tu, tu, tu, tu, tu, tu, tu, tu, tu, tu, tu, tu, tu, tu, tu, tu, tu, tu, tu, tu, tu, tu, tu, tu, tu, tu, tu, tu, tu, tu, tu, tu, tu, tu, tu, tu, tu, tu, tu, tu, tu, tu, tu, tu, tu, tu, tu, tu, tu, tu, tu, tu, tu, tu, tu, tu, tu, tu, tu, tu, tu, tu, tu, tu, tu, tu, tu, tu, tu, tu, tu, tu, tu, tu, tu, tu, tu, tu, tu, tu, tu, tu, tu, tu, tu, tu, tu, tu, tu, tu, tu, tu, tu, tu, tu, tu, tu, tu, tu, tu, tu, tu] : List Value).getD j9 undef) ?_))
      · rfl
      · dsimp only; unfold kOf; rw [if_pos h0]
    · (focus
        refine Xg.at_false (t := decide (((↑x.les.length : Int) > (0 : Int)))) (by kernel_rfl) (decide_eq_false (by omega)) ?_
        refine Xg.at_skip ?_)
      (focus
        refine Xg.at_keep [3, 4, 5, 2, 1, 0] (by kernel_rfl) ?_
        refine Xg.At.same (by kernel_rfl) ?_ (hk ((0), fun j9 => ([pv p 0, Value.agg #[iv (↑x.id : Int), Value.slice x.la x.les.length x.lc, Value.slice x.ba x.Z.length x.bc], Value.agg #[iv a.kd, iv a.wh, iv a.sz, iv a.pk, iv a.ap, iv a.bt], iv q, tu, pv xb1 0, pv xb2 0, tu, pv xb3 0, Value.bool false, iv 0, tu, tu, tu, tu, tu, tu, tu, tu, tu, tu, tu, tu, tu, tu, tu, tu, tu, pv xb1 1, Value.slice x.la x.les.length x.lc, iv (↑x.les.length : Int), Value.bool (decide ((↑x.les.length : Int) > (0 : Int))), tu, tu, tu, tu, tu, tu, tu, tu, tu, tu, tu, tu, tu, tu, tu, tu, tu, tu, tu, tu, tu, tu, tu, tu, tu, tu, tu, tu, tu, tu, tu, tu, tu, tu, tu, tu, tu, tu, tu, tu, tu, tu, tu, tu, tu, tu, tu, tu, tu, tu, tu, tu, tu, tu, tu, tu, tu, tu, tu, tu, tu, tu, tu, tu, tu, tu, tu, tu, tu, tu, tu, tu, tu, tu, tu, tu, tu, tu, tu, tu, tu, tu, tu, tu, tu, tu, tu, tu, tu, tu, tu, tu, tu, tu, tu, tu, tu, tu, tu, tu, tu, tu, tu, tu, tu, tu, tu, tu, tu, tu, tu, tu, tu, tu, tu, tu, tu, tu, tu, tu, tu, tu, tu, tu, tu, tu, tu, tu, tu, tu, tu, tu, tu, tu, tu, tu, tu, tu, tu, tu, tu, tu, tu, tu, tu, tu, tu, tu, tu, tu, tu, tu, tu, tu, tu, tu, tu, tu, tu, tu, tu, tu, tu, tu, tu, tu, tu, tu, tu, tu, tu, tu, tu, tu, tu, tu, tu, tu, tu, tu, tu, tu, tu, tu, tu, tu, tu, tu, tu, tu, tu, tu, tu, tu, tu, tu, tu, tu, tu, tu, tu, tu, tu, tu, tu, tu, tu, tu, tu, tu, tu, tu, tu, tu, tu] : List Value).getD j9 undef) ?_))
      · rfl
      · dsimp only; unfold kOf; rw [if_neg h0]
  rintro ⟨k, J⟩ hkk
  dsimp only at hkk
  (focus
    refine Xg.At.same (T' := [pv p 0, Value.agg #[iv (↑x.id : Int), Value.slice x.la x.les.length x.lc, Value.slice x.ba x.Z.length x.bc], Value.agg #[iv a.kd, iv a.wh, iv a.sz, iv a.pk, iv a.ap, iv a.bt], iv q, tu, pv xb1 0, pv xb2 0, tu, pv xb3 0, Value.bool false, iv (↑k : Int), tu, tu, tu, tu, tu, tu, tu, tu, tu, tu, tu, tu, tu, tu, tu, tu, tu, pv xb1 1, Value.slice x.la x.les.length x.lc, iv (↑x.les.length : Int), Value.bool (decide ((↑x.les.length : Int) > (0 : Int))), J 32, J 33, J 34, J 35, J 36, J 37, tu, tu, tu, tu, tu, tu, tu, tu, tu, tu, tu, tu, tu, tu, tu, tu, tu, tu, tu, tu, tu, tu, tu, tu, tu, tu, tu, tu, tu, tu, tu, tu, tu, tu, tu, tu, tu, tu, tu, tu, tu, tu, tu, tu, tu, tu, tu, tu, tu, tu, tu, tu, tu, tu, tu, tu, tu, tu, tu, tu, tu, tu, tu, tu, tu, tu, tu, tu, tu, tu, tu, tu, tu, tu, tu, tu, tu, tu, tu, tu, tu, tu, tu, tu, tu, tu, tu, tu, tu, tu, tu, tu, tu, tu, tu, tu, tu, tu, tu, tu, tu, tu, tu, tu, tu, tu, tu, tu, tu, tu, tu, tu, tu, tu, tu, tu, tu, tu, tu, tu, tu, tu, tu, tu, tu, tu, tu, tu, tu, tu, tu, tu, tu, tu, tu, tu, tu, tu, tu, tu, tu, tu, tu, tu, tu, tu, tu, tu, tu, tu, tu, tu, tu, tu, tu, tu, tu, tu, tu, tu, tu, tu, tu, tu, tu, tu, tu, tu, tu, tu, tu, tu, tu, tu, tu, tu, tu, tu, tu, tu, tu, tu, tu, tu, tu, tu, tu, tu, tu, tu, tu, tu, tu, tu, tu, tu, tu, tu, tu, tu, tu, tu, tu, tu, tu, tu, tu, tu, tu]) (L' := [PoolS p σ, LeP x, BhP x, row xb1 (62 : TypeId) (hdK x), row xb2 (59 : TypeId) (acC a), row xb3 (62 : TypeId) [iv 0, Value.slice none (0 : Nat) (0 : Nat), Value.slice none (0 : Nat) (0 : Nat)]]) (by kernel_rfl) rfl ?_)
  (focus
    refine Xg.at_seq ?_
    refine Xg.at_seq ?_
    refine Xg.at_region ?_
    refine Xg.ops_op (by kernel_rfl) (Xg.opx_pure ((pv xb2 0)) rfl (fun _ => by kernel_rfl) ?_)
    refine Xg.ops_op (by kernel_rfl) (Xg.opx_load (b := xb2) (off := ((0 : Nat))) 4 (iv a.kd) rfl (by kernel_rfl) (by kernel_rfl) (by kernel_rfl) ?_)
    refine Xg.ops_op (by kernel_rfl) (Xg.opx_call1' [] [PoolS p σ, LeP x, BhP x, row xb1 (62 : TypeId) [iv (↑x.id : Int), Value.slice x.la x.les.length x.lc, Value.slice x.ba x.Z.length x.bc], row xb2 (59 : TypeId) [iv a.kd, iv a.wh, iv a.sz, iv a.pk, iv a.ap, iv a.bt], row xb3 (62 : TypeId) [iv 0, Value.slice none (0 : Nat) (0 : Nat), Value.slice none (0 : Nat) (0 : Nat)]] (fun _ => by kernel_rfl) (@hp8 ) (by kernel_rfl) (by kernel_rfl) (by kernel_rfl) ?_)
    refine Xg.ops_nil ?_
    refine Xg.at_block ?_
    refine Xg.at_seq ?_
    refine Xg.at_seq ?_)
  (focus
    refine Xg.at_cut2 (α := (Bool) × (Nat → Value)) (fun x9 => ((fun b => b = true) : (Bool) → Prop) x9.1) (fun x9 => Xg.headT [pv p 0, Value.agg #[iv (↑x.id : Int), Value.slice x.la x.les.length x.lc, Value.slice x.ba x.Z.length x.bc], Value.agg #[iv a.kd, iv a.wh, iv a.sz, iv a.pk, iv a.ap, iv a.bt], iv q, tu, pv xb1 0, pv xb2 0, tu, pv xb3 0, Value.bool false, iv (↑k : Int), tu, tu, tu, tu, tu, tu, tu, tu, tu, tu, tu, tu, tu, tu, tu, tu, tu, pv xb1 1, Value.slice x.la x.les.length x.lc, iv (↑x.les.length : Int), Value.bool (decide ((↑x.les.length : Int) > (0 : Int))), J 32, J 33, J 34, J 35, J 36, J 37, pv xb2 0, iv a.kd, iv (↑(pickN a.kd (8 : Nat)) : Int), tu, tu, tu, tu, tu, tu, tu, tu, tu, tu, tu, tu, tu, tu, tu, tu, tu, tu, tu, tu, tu, tu, tu, tu, tu, tu, tu, tu, tu, tu, tu, tu, tu, tu, tu, tu, tu, tu, tu, tu, tu, tu, tu, tu, tu, tu, tu, tu, tu, tu, tu, tu, tu, tu, tu, tu, tu, tu, tu, tu, tu, tu, tu, tu, tu, tu, tu, tu, tu, tu, tu, tu, tu, tu, tu, tu, tu, tu, tu, tu, tu, tu, tu, tu, tu, tu, tu, tu, tu, tu, tu, tu, tu, tu, tu, tu, tu, tu, tu, tu, tu, tu, tu, tu, tu, tu, tu, tu, tu, tu, tu, tu, tu, tu, tu, tu, tu, tu, tu, tu, tu, tu, tu, tu, tu, tu, tu, tu, tu, tu, tu, tu, tu, tu, tu, tu, tu, tu, tu, tu, tu, tu, tu, tu, tu, tu, tu, tu, tu, tu, tu, tu, tu, tu, tu, tu, tu, tu, tu, tu, tu, tu, tu, tu, tu, tu, tu, tu, tu, tu, tu, tu, tu, tu, tu, tu, tu, tu, tu, tu, tu, tu, tu, tu, tu, tu, tu, tu, tu, tu, tu, tu, tu, tu, tu, tu, tu, tu, tu, tu, tu, tu, tu, tu, tu, tu] [42, 43] (((fun b => [(41, .bool b)]) : (Bool) → List (Nat × Go.Value)) x9.1) x9.2) (fun x9 => ((fun _ => [PoolS p σ, LeP x, BhP x, row xb1 62 (hdK x), row xb2 59 (acC a), row xb3 62 [.int .i64 0, .slice none 0 0, .slice none 0 0]]) : (Bool) → List Go.Sl.HP) x9.1) (fun kk hk => ?_) ?_)
  · by_cases h01 : pickN a.kd 8 = 0
    · (focus
        refine Xg.at_region ?_
        refine Xg.ops_op (by kernel_rfl) (Xg.opx_pure (.bool (decide ((((↑(pickN a.kd (8 : Nat)) : Int)) : Int) = ((0 : Int))))) rfl (fun _ => by kernel_rfl) ?_)
        refine Xg.ops_op (by kernel_rfl) (Xg.opx_pure ((Value.bool (decide ((↑(pickN a.kd (8 : Nat)) : Int) = (0 : Int))))) rfl (fun _ => by kernel_rfl) ?_)
        refine Xg.ops_nil ?_
        refine Xg.at_true (t := decide (((↑(pickN a.kd (8 : Nat)) : Int) = (0 : Int)))) (by kernel_rfl) (decide_eq_true (by omega)) ?_
        refine Xg.at_skip ?_)
      (focus
        refine Xg.at_keep [0, 1, 2, 3, 4, 5] (by kernel_rfl) ?_
        refine Xg.At.same (by kernel_rfl) ?_ (hk ((decide (((pickN a.kd 8 : Nat) : Int) = 0)), fun j9 => ([pv p 0, Value.agg #[iv (↑x.id : Int), Value.slice x.la x.les.length x.lc, Value.slice x.ba x.Z.length x.bc], Value.agg #[iv a.kd, iv a.wh, iv a.sz, iv a.pk, iv a.ap, iv a.bt], iv q, tu, pv xb1 0, pv xb2 0, tu, pv xb3 0, Value.bool false, iv (↑k : Int), tu, tu, tu, tu, tu, tu, tu, tu, tu, tu, tu, tu, tu, tu, tu, tu, tu, pv xb1 1, Value.slice x.la x.les.length x.lc, iv (↑x.les.length : Int), Value.bool (decide ((↑x.les.length : Int) > (0 : Int))), J 32, J 33, J 34, J 35, J 36, J 37, pv xb2 0, iv a.kd, iv (↑(pickN a.kd (8 : Nat)) : Int), Value.bool (decide ((↑(pickN a.kd (8 : Nat)) : Int) = (0 : Int))), Value.bool (decide ((↑(pickN a.kd (8 : Nat)) : Int) = (0 : Int))), tu, tu, tu, tu, tu, tu, tu, tu, tu, tu, tu, tu, tu, tu, tu, tu, tu, tu, tu, tu, tu, tu, tu, tu, tu, tu, tu, tu, tu, tu, tu, tu, tu, tu, tu, tu, tu, tu, tu, tu, tu, tu, tu, tu, tu, tu, tu, tu, tu, tu, tu, tu, tu, tu, tu, tu, tu, tu, tu, tu, tu, tu, tu, tu, tu, tu, tu, tu, tu, tu, tu, tu, tu, tu, tu, tu, tu, tu, tu, tu, tu, tu, tu, tu, tu, tu, tu, tu, tu, tu, tu, tu, tu, tu, tu, tu, tu, tu, tu, tu, tu, tu, tu, tu, tu, tu, tu, tu, tu, tu, tu, tu, tu, tu, tu, tu, tu, tu, tu, tu, tu, tu, tu, tu, tu, tu, tu, tu, tu, tu, tu, tu, tu, tu, tu, tu, tu, tu, tu, tu, tu, tu, tu, tu, tu, tu, tu, tu, tu, tu, tu, tu, tu, tu, tu, tu, tu, tu, tu, tu, tu, tu, tu, tu, tu, tu, tu, tu, tu, tu, tu, tu, tu, tu, tu, tu, tu, tu, tu, tu, tu, tu, tu, tu, tu, tu, tu, tu, tu, tu, tu, tu, tu, tu, tu, tu, tu, tu, tu, tu, tu, tu, tu, tu] : List Value).getD j9 undef) ?_))
      · rfl
      · exact decide_eq_true (by omega)
    · have h02 : pickN a.kd 8 = 1 := by omega
      (focus
        refine Xg.at_region ?_
        refine Xg.ops_op (by kernel_rfl) (Xg.opx_pure (.bool (decide ((((↑(pickN a.kd (8 : Nat)) : Int)) : Int) = ((0 : Int))))) rfl (fun _ => by kernel_rfl) ?_)
        refine Xg.ops_op (by kernel_rfl) (Xg.opx_pure ((Value.bool (decide ((↑(pickN a.kd (8 : Nat)) : Int) = (0 : Int))))) rfl (fun _ => by kernel_rfl) ?_)
        refine Xg.ops_nil ?_
        refine Xg.at_false (t := decide (((↑(pickN a.kd (8 : Nat)) : Int) = (0 : Int)))) (by kernel_rfl) (decide_eq_false (by omega)) ?_
        refine Xg.at_region ?_
        refine Xg.ops_op (by kernel_rfl) (Xg.opx_pure (.bool (decide ((((↑(pickN a.kd (8 : Nat)) : Int)) : Int) = ((1 : Int))))) rfl (fun _ => by kernel_rfl) ?_)
        refine Xg.ops_op (by kernel_rfl) (Xg.opx_pure ((Value.bool (decide ((↑(pickN a.kd (8 : Nat)) : Int) = (1 : Int))))) rfl (fun _ => by kernel_rfl) ?_)
        refine Xg.ops_nil ?_)
      (focus
        refine Xg.at_keep [0, 1, 2, 3, 4, 5] (by kernel_rfl) ?_
        refine Xg.At.same (by kernel_rfl) ?_ (hk ((decide (((pickN a.kd 8 : Nat) : Int) = 1)), fun j9 => ([pv p 0, Value.agg #[iv (↑x.id : Int), Value.slice x.la x.les.length x.lc, Value.slice x.ba x.Z.length x.bc], Value.agg #[iv a.kd, iv a.wh, iv a.sz, iv a.pk, iv a.ap, iv a.bt], iv q, tu, pv xb1 0, pv xb2 0, tu, pv xb3 0, Value.bool false, iv (↑k : Int), tu, tu, tu, tu, tu, tu, tu, tu, tu, tu, tu, tu, tu, tu, tu, tu, tu, pv xb1 1, Value.slice x.la x.les.length x.lc, iv (↑x.les.length : Int), Value.bool (decide ((↑x.les.length : Int) > (0 : Int))), J 32, J 33, J 34, J 35, J 36, J 37, pv xb2 0, iv a.kd, iv (↑(pickN a.kd (8 : Nat)) : Int), Value.bool (decide ((↑(pickN a.kd (8 : Nat)) : Int) = (1 : Int))), Value.bool (decide ((↑(pickN a.kd (8 : Nat)) : Int) = (0 : Int))), Value.bool (decide ((↑(pickN a.kd (8 : Nat)) : Int) = (1 : Int))), tu, tu, tu, tu, tu, tu, tu, tu, tu, tu, tu, tu, tu, tu, tu, tu, tu, tu, tu, tu, tu, tu, tu, tu, tu, tu, tu, tu, tu, tu, tu, tu, tu, tu, tu, tu, tu, tu, tu, tu, tu, tu, tu, tu, tu, tu, tu, tu, tu, tu, tu, tu, tu, tu, tu, tu, tu, tu, tu, tu, tu, tu, tu, tu, tu, tu, tu, tu, tu, tu, tu, tu, tu, tu, tu, tu, tu, tu, tu, tu, tu, tu, tu, tu, tu, tu, tu, tu, tu, tu, tu, tu, tu, tu, tu, tu, tu, tu, tu, tu, tu, tu, tu, tu, tu, tu, tu, tu, tu, tu, tu, tu, tu, tu, tu, tu, tu, tu, tu, tu, tu, tu, tu, tu, tu, tu, tu, tu, tu, tu, tu, tu, tu, tu, tu, tu, tu, tu, tu, tu, tu, tu, tu, tu, tu, tu, tu, tu, tu, tu, tu, tu, tu, tu, tu, tu, tu, tu, tu, tu, tu, tu, tu, tu, tu, tu, tu, tu, tu, tu, tu, tu, tu, tu, tu, tu, tu, tu, tu, tu, tu, tu, tu, tu, tu, tu, tu, tu, tu, tu, tu, tu, tu, tu, tu, tu, tu, tu, tu, tu, tu, tu, tu] : List Value).getD j9 undef) ?_))
      · rfl
      · exact decide_eq_true (by omega)
  rintro ⟨b0, J0⟩ hu0
  dsimp only at hu0
  subst hu0
  (focus
    refine Xg.At.same (T' := [pv p 0, Value.agg #[iv (↑x.id : Int), Value.slice x.la x.les.length x.lc, Value.slice x.ba x.Z.length x.bc], Value.agg #[iv a.kd, iv a.wh, iv a.sz, iv a.pk, iv a.ap, iv a.bt], iv q, tu, pv xb1 0, pv xb2 0, tu, pv xb3 0, Value.bool false, iv (↑k : Int), tu, tu, tu, tu, tu, tu, tu, tu, tu, tu, tu, tu, tu, tu, tu, tu, tu, pv xb1 1, Value.slice x.la x.les.length x.lc, iv (↑x.les.length : Int), Value.bool (decide ((↑x.les.length : Int) > (0 : Int))), J 32, J 33, J 34, J 35, J 36, J 37, pv xb2 0, iv a.kd, iv (↑(pickN a.kd (8 : Nat)) : Int), Value.bool true, J0 42, J0 43, tu, tu, tu, tu, tu, tu, tu, tu, tu, tu, tu, tu, tu, tu, tu, tu, tu, tu, tu, tu, tu, tu, tu, tu, tu, tu, tu, tu, tu, tu, tu, tu, tu, tu, tu, tu, tu, tu, tu, tu, tu, tu, tu, tu, tu, tu, tu, tu, tu, tu, tu, tu, tu, tu, tu, tu, tu, tu, tu, tu, tu, tu, tu, tu, tu, tu, tu, tu, tu, tu, tu, tu, tu, tu, tu, tu, tu, tu, tu, tu, tu, tu, tu, tu, tu, tu, tu, tu, tu, tu, tu, tu, tu, tu, tu, tu, tu, tu, tu, tu, tu, tu, tu, tu, tu, tu, tu, tu, tu, tu, tu, tu, tu, tu, tu, tu, tu, tu, tu, tu, tu, tu, tu, tu, tu, tu, tu, tu, tu, tu, tu, tu, tu, tu, tu, tu, tu, tu, tu, tu, tu, tu, tu, tu, tu, tu, tu, tu, tu, tu, tu, tu, tu, tu, tu, tu, tu, tu, tu, tu, tu, tu, tu, tu, tu, tu, tu, tu, tu, tu, tu, tu, tu, tu, tu, tu, tu, tu, tu, tu, tu, tu, tu, tu, tu, tu, tu, tu, tu, tu, tu, tu, tu, tu, tu, tu, tu, tu, tu, tu, tu, tu, tu]) (L' := [PoolS p σ, LeP x, BhP x, row xb1 (62 : TypeId) (hdK x), row xb2 (59 : TypeId) (acC a), row xb3 (62 : TypeId) [iv 0, Value.slice none (0 : Nat) (0 : Nat), Value.slice none (0 : Nat) (0 : Nat)]]) (by kernel_rfl) rfl ?_)
  (focus
    refine Xg.at_true (t := true) (by kernel_rfl) rfl ?_
    refine Xg.at_seq ?_
    refine Xg.at_region ?_
    refine Xg.ops_op (by kernel_rfl) (Xg.opx_pure ((pv xb2 2)) rfl (fun _ => by kernel_rfl) ?_)
    refine Xg.ops_op (by kernel_rfl) (Xg.opx_load (b := xb2) (off := ((2 : Nat))) 4 (iv a.sz) rfl (by kernel_rfl) (by kernel_rfl) (by kernel_rfl) ?_)
    refine Xg.ops_op (by kernel_rfl) (Xg.opx_call1' [] [PoolS p σ, LeP x, BhP x, row xb1 (62 : TypeId) [iv (↑x.id : Int), Value.slice x.la x.les.length x.lc, Value.slice x.ba x.Z.length x.bc], row xb2 (59 : TypeId) [iv a.kd, iv a.wh, iv a.sz, iv a.pk, iv a.ap, iv a.bt], row xb3 (62 : TypeId) [iv 0, Value.slice none (0 : Nat) (0 : Nat), Value.slice none (0 : Nat) (0 : Nat)]] (fun _ => by kernel_rfl) (@hp16 ) (by kernel_rfl) (by kernel_rfl) (by kernel_rfl) ?_)
    refine Xg.ops_op (by kernel_rfl) (Xg.opx_int .i64 (IntKind.wrap .i64 (((1 : Int) + (↑(pickN a.sz (16 : Nat)) : Int)))) rfl (fun _ => by kernel_rfl) (Xg.wrap_i64_in (by omega)) ?_)
    refine Xg.ops_op (by kernel_rfl) (Xg.opx_pure ((iv ((1 : Int) + (↑(pickN a.sz (16 : Nat)) : Int)))) rfl (fun _ => by kernel_rfl) ?_)
    refine Xg.ops_nil ?_
    refine Xg.at_seq ?_
    refine Xg.at_region ?_
    refine Xg.ops_op (by kernel_rfl) (Xg.opx_pure ((iv 0)) rfl (fun _ => by kernel_rfl) ?_)
    refine Xg.ops_nil ?_
    refine Xg.at_seq ?_
    refine Xg.at_region ?_
    refine Xg.ops_op (by kernel_rfl) (Xg.opx_pure ((iv 4)) rfl (fun _ => by kernel_rfl) ?_)
    refine Xg.ops_nil ?_
    refine Xg.at_seq ?_
    refine Xg.at_seq ?_
    refine Xg.at_region ?_
    refine Xg.ops_op (by kernel_rfl) (Xg.opx_pure ((iv ((1 : Int) + (↑(pickN a.sz (16 : Nat)) : Int)))) rfl (fun _ => by kernel_rfl) ?_)
    refine Xg.ops_op (by kernel_rfl) (Xg.opx_pure (.bool (decide ((((1 : Int) + (↑(pickN a.sz (16 : Nat)) : Int)) : Int) > ((4 : Int))))) rfl (fun _ => by kernel_rfl) ?_)
    refine Xg.ops_nil ?_)
  (focus
    refine Xg.at_cut (α := (Nat × Nat) × (Nat → Value)) (fun x9 => ((fun y => y.1 = clsA a ∧ y.2 = hasA a) : (Nat × Nat) → Prop) x9.1) (fun x9 => Xg.headT [pv p 0, Value.agg #[iv (↑x.id : Int), Value.slice x.la x.les.length x.lc, Value.slice x.ba x.Z.length x.bc], Value.agg #[iv a.kd, iv a.wh, iv a.sz, iv a.pk, iv a.ap, iv a.bt], iv q, tu, pv xb1 0, pv xb2 0, tu, pv xb3 0, Value.bool false, iv (↑k : Int), iv ((1 : Int) + (↑(pickN a.sz (16 : Nat)) : Int)), iv 0, iv 4, tu, tu, tu, tu, tu, tu, tu, tu, tu, tu, tu, tu, tu, tu, pv xb1 1, Value.slice x.la x.les.length x.lc, iv (↑x.les.length : Int), Value.bool (decide ((↑x.les.length : Int) > (0 : Int))), J 32, J 33, J 34, J 35, J 36, J 37, pv xb2 0, iv a.kd, iv (↑(pickN a.kd (8 : Nat)) : Int), Value.bool true, J0 42, J0 43, pv xb2 2, iv a.sz, iv (↑(pickN a.sz (16 : Nat)) : Int), iv ((1 : Int) + (↑(pickN a.sz (16 : Nat)) : Int)), iv ((1 : Int) + (↑(pickN a.sz (16 : Nat)) : Int)), Value.bool (decide ((1 : Int) + (↑(pickN a.sz (16 : Nat)) : Int) > (4 : Int))), tu, tu, tu, tu, tu, tu, tu, tu, tu, tu, tu, tu, tu, tu, tu, tu, tu, tu, tu, tu, tu, tu, tu, tu, tu, tu, tu, tu, tu, tu, tu, tu, tu, tu, tu, tu, tu, tu, tu, tu, tu, tu, tu, tu, tu, tu, tu, tu, tu, tu, tu, tu, tu, tu, tu, tu, tu, tu, tu, tu, tu, tu, tu, tu, tu, tu, tu, tu, tu, tu, tu, tu, tu, tu, tu, tu, tu, tu, tu, tu, tu, tu, tu, tu, tu, tu, tu, tu, tu, tu, tu, tu, tu, tu, tu, tu, tu, tu, tu, tu, tu, tu, tu, tu, tu, tu, tu, tu, tu, tu, tu, tu, tu, tu, tu, tu, tu, tu, tu, tu, tu, tu, tu, tu, tu, tu, tu, tu, tu, tu, tu, tu, tu, tu, tu, tu, tu, tu, tu, tu, tu, tu, tu, tu, tu, tu, tu, tu, tu, tu, tu, tu, tu, tu, tu, tu, tu, tu, tu, tu, tu, tu, tu, tu, tu, tu, tu, tu, tu, tu, tu, tu, tu, tu, tu, tu, tu, tu, tu, tu, tu, tu, tu, tu, tu, tu, tu, tu, tu, tu, tu, tu, tu, tu, tu, tu, tu] [] (((fun y => [(12, .int .i64 (y.1 : Nat)), (13, .int .i64 (y.2 : Nat))]) : (Nat × Nat) → List (Nat × Go.Value)) x9.1) x9.2) (fun x9 => ((fun y => [PoolS p σ, LeP x, BhP x, row xb1 62 (hdK x), row xb2 59 (acC a), row xb3 62 [.int .i64 0, .slice none 0 0, .slice none 0 0]]) : (Nat × Nat) → List Go.Sl.HP) x9.1) (fun kk hk => ?_) ?_)
  · by_cases h4 : 1 + pickN a.sz 16 > 4
    · (focus
        refine Xg.at_true (t := decide (((1 : Int) + (↑(pickN a.sz (16 : Nat)) : Int) > (4 : Int)))) (by kernel_rfl) (decide_eq_true (by omega)) ?_
        refine Xg.at_seq ?_
        refine Xg.at_region ?_
        refine Xg.ops_op (by kernel_rfl) (Xg.opx_pure ((iv 1)) rfl (fun _ => by kernel_rfl) ?_)
        refine Xg.ops_nil ?_
        refine Xg.at_region ?_
        refine Xg.ops_op (by kernel_rfl) (Xg.opx_pure ((iv 16)) rfl (fun _ => by kernel_rfl) ?_)
        refine Xg.ops_nil ?_)
      (focus
        refine Xg.at_keep [0, 1, 2, 3, 4, 5] (by kernel_rfl) ?_
        refine Xg.At.same (by kernel_rfl) ?_ (hk (((1, 16)), fun j9 => ([pv p 0, Value.agg #[iv (↑x.id : Int), Value.slice x.la x.les.length x.lc, Value.slice x.ba x.Z.length x.bc], Value.agg #[iv a.kd, iv a.wh, iv a.sz, iv a.pk, iv a.ap, iv a.bt], iv q, tu, pv xb1 0, pv xb2 0, tu, pv xb3 0, Value.bool false, iv (↑k : Int), iv ((1 : Int) + (↑(pickN a.sz (16 : Nat)) : Int)), iv 1, iv 16, tu, tu, tu, tu, tu, tu, tu, tu, tu, tu, tu, tu, tu, tu, pv xb1 1, Value.slice x.la x.les.length x.lc, iv (↑x.les.length : Int), Value.bool (decide ((↑x.les.length : Int) > (0 : Int))), J 32, J 33, J 34, J 35, J 36, J 37, pv xb2 0, iv a.kd, iv (↑(pickN a.kd (8 : Nat)) : Int), Value.bool true, J0 42, J0 43, pv xb2 2, iv a.sz, iv (↑(pickN a.sz (16 : Nat)) : Int), iv ((1 : Int) + (↑(pickN a.sz (16 : Nat)) : Int)), iv ((1 : Int) + (↑(pickN a.sz (16 : Nat)) : Int)), Value.bool (decide ((1 : Int) + (↑(pickN a.sz (16 : Nat)) : Int) > (4 : Int))), tu, tu, tu, tu, tu, tu, tu, tu, tu, tu, tu, tu, tu, tu, tu, tu, tu, tu, tu, tu, tu, tu, tu, tu, tu, tu, tu, tu, tu, tu, tu, tu, tu, tu, tu, tu, tu, tu, tu, tu, tu, tu, tu, tu, tu, tu, tu, tu, tu, tu, tu, tu, tu, tu, tu, tu, tu, tu, tu, tu, tu, tu, tu, tu, tu, tu, tu, tu, tu, tu, tu, tu, tu, tu, tu, tu, tu, tu, tu, tu, tu, tu, tu, tu, tu, tu, tu, tu, tu, tu, tu, tu, tu, tu, tu, tu, tu, tu, tu, tu, tu, tu, tu, tu, tu, tu, tu, tu, tu, tu, tu, tu, tu, tu, tu, tu, tu, tu, tu, tu, tu, tu, tu, tu, tu, tu, tu, tu, tu, tu, tu, tu, tu, tu, tu, tu, tu, tu, tu, tu, tu, tu, tu, tu, tu, tu, tu, tu, tu, tu, tu, tu, tu, tu, tu, tu, tu, tu, tu, tu, tu, tu, tu, tu, tu, tu, tu, tu, tu, tu, tu, tu, tu, tu, tu, tu, tu, tu, tu, tu, tu, tu, tu, tu, tu, tu, tu, tu, tu, tu, tu, tu, tu, tu, tu, tu, tu] : List Value).getD j9 undef) ?_))
      · rfl
      · dsimp only; unfold clsA hasA; rw [if_pos h4, if_pos h4]; exact ⟨rfl, rfl⟩
    · (focus
        refine Xg.at_false (t := decide (((1 : Int) + (↑(pickN a.sz (16 : Nat)) : Int) > (4 : Int)))) (by kernel_rfl) (decide_eq_false (by omega)) ?_
        refine Xg.at_skip ?_)
      (focus
        refine Xg.at_keep [0, 1, 2, 3, 4, 5] (by kernel_rfl) ?_
        refine Xg.At.same (by kernel_rfl) ?_ (hk (((0, 4)), fun j9 => ([pv p 0, Value.agg #[iv (↑x.id : Int), Value.slice x.la x.les.length x.lc, Value.slice x.ba x.Z.length x.bc], Value.agg #[iv a.kd, iv a.wh, iv a.sz, iv a.pk, iv a.ap, iv a.bt], iv q, tu, pv xb1 0, pv xb2 0, tu, pv xb3 0, Value.bool false, iv (↑k : Int), iv ((1 : Int) + (↑(pickN a.sz (16 : Nat)) : Int)), iv 0, iv 4, tu, tu, tu, tu, tu, tu, tu, tu, tu, tu, tu, tu, tu, tu, pv xb1 1, Value.slice x.la x.les.length x.lc, iv (↑x.les.length : Int), Value.bool (decide ((↑x.les.length : Int) > (0 : Int))), J 32, J 33, J 34, J 35, J 36, J 37, pv xb2 0, iv a.kd, iv (↑(pickN a.kd (8 : Nat)) : Int), Value.bool true, J0 42, J0 43, pv xb2 2, iv a.sz, iv (↑(pickN a.sz (16 : Nat)) : Int), iv ((1 : Int) + (↑(pickN a.sz (16 : Nat)) : Int)), iv ((1 : Int) + (↑(pickN a.sz (16 : Nat)) : Int)), Value.bool (decide ((1 : Int) + (↑(pickN a.sz (16 : Nat)) : Int) > (4 : Int))), tu, tu, tu, tu, tu, tu, tu, tu, tu, tu, tu, tu, tu, tu, tu, tu, tu, tu, tu, tu, tu, tu, tu, tu, tu, tu, tu, tu, tu, tu, tu, tu, tu, tu, tu, tu, tu, tu, tu, tu, tu, tu, tu, tu, tu, tu, tu, tu, tu, tu, tu, tu, tu, tu, tu, tu, tu, tu, tu, tu, tu, tu, tu, tu, tu, tu, tu, tu, tu, tu, tu, tu, tu, tu, tu, tu, tu, tu, tu, tu, tu, tu, tu, tu, tu, tu, tu, tu, tu, tu, tu, tu, tu, tu, tu, tu, tu, tu, tu, tu, tu, tu, tu, tu, tu, tu, tu, tu, tu, tu, tu, tu, tu, tu, tu, tu, tu, tu, tu, tu, tu, tu, tu, tu, tu, tu, tu, tu, tu, tu, tu, tu, tu, tu, tu, tu, tu, tu, tu, tu, tu, tu, tu, tu, tu, tu, tu, tu, tu, tu, tu, tu, tu, tu, tu, tu, tu, tu, tu, tu, tu, tu, tu, tu, tu, tu, tu, tu, tu, tu, tu, tu, tu, tu, tu, tu, tu, tu, tu, tu, tu, tu, tu, tu, tu, tu, tu, tu, tu, tu, tu, tu, tu, tu, tu, tu, tu] : List Value).getD j9 undef) ?_))
      · rfl
      · dsimp only; unfold clsA hasA; rw [if_neg h4, if_neg h4]; exact ⟨rfl, rfl⟩
  rintro ⟨⟨c, h⟩, J2⟩ hch
  obtain ⟨hc, hh⟩ := hch
  dsimp only at hc hh
  have hh2 : hasA a ≤ 16 := by unfold hasA; split <;> omega
  have hc2 : clsA a ≤ 1 := by unfold clsA; split <;> omega
  subst hc
  subst hh
  (focus
    refine Xg.At.same (T' := [pv p 0, Value.agg #[iv (↑x.id : Int), Value.slice x.la x.les.length x.lc, Value.slice x.ba x.Z.length x.bc], Value.agg #[iv a.kd, iv a.wh, iv a.sz, iv a.pk, iv a.ap, iv a.bt], iv q, tu, pv xb1 0, pv xb2 0, tu, pv xb3 0, Value.bool false, iv (↑k : Int), iv ((1 : Int) + (↑(pickN a.sz (16 : Nat)) : Int)), iv (↑(clsA a) : Int), iv (↑(hasA a) : Int), tu, tu, tu, tu, tu, tu, tu, tu, tu, tu, tu, tu, tu, tu, pv xb1 1, Value.slice x.la x.les.length x.lc, iv (↑x.les.length : Int), Value.bool (decide ((↑x.les.length : Int) > (0 : Int))), J 32, J 33, J 34, J 35, J 36, J 37, pv xb2 0, iv a.kd, iv (↑(pickN a.kd (8 : Nat)) : Int), Value.bool true, J0 42, J0 43, pv xb2 2, iv a.sz, iv (↑(pickN a.sz (16 : Nat)) : Int), iv ((1 : Int) + (↑(pickN a.sz (16 : Nat)) : Int)), iv ((1 : Int) + (↑(pickN a.sz (16 : Nat)) : Int)), Value.bool (decide ((1 : Int) + (↑(pickN a.sz (16 : Nat)) : Int) > (4 : Int))), tu, tu, tu, tu, tu, tu, tu, tu, tu, tu, tu, tu, tu, tu, tu, tu, tu, tu, tu, tu, tu, tu, tu, tu, tu, tu, tu, tu, tu, tu, tu, tu, tu, tu, tu, tu, tu, tu, tu, tu, tu, tu, tu, tu, tu, tu, tu, tu, tu, tu, tu, tu, tu, tu, tu, tu, tu, tu, tu, tu, tu, tu, tu, tu, tu, tu, tu, tu, tu, tu, tu, tu, tu, tu, tu, tu, tu, tu, tu, tu, tu, tu, tu, tu, tu, tu, tu, tu, tu, tu, tu, tu, tu, tu, tu, tu, tu, tu, tu, tu, tu, tu, tu, tu, tu, tu, tu, tu, tu, tu, tu, tu, tu, tu, tu, tu, tu, tu, tu, tu, tu, tu, tu, tu, tu, tu, tu, tu, tu, tu, tu, tu, tu, tu, tu, tu, tu, tu, tu, tu, tu, tu, tu, tu, tu, tu, tu, tu, tu, tu, tu, tu, tu, tu, tu, tu, tu, tu, tu, tu, tu, tu, tu, tu, tu, tu, tu, tu, tu, tu, tu, tu, tu, tu, tu, tu, tu, tu, tu, tu, tu, tu, tu, tu, tu, tu, tu, tu, tu, tu, tu, tu, tu, tu, tu, tu, tu]) (L' := [PoolS p σ, LeP x, BhP x, row xb1 (62 : TypeId) (hdK x), row xb2 (59 : TypeId) (acC a), row xb3 (62 : TypeId) [iv 0, Value.slice none (0 : Nat) (0 : Nat), Value.slice none (0 : Nat) (0 : Nat)]]) (by kernel_rfl) rfl ?_)
  (focus
    refine Xg.at_seq ?_
    refine Xg.at_region ?_
    refine Xg.ops_op (by kernel_rfl) (Xg.opx_pure ((pv p 0)) rfl (fun _ => by kernel_rfl) ?_)
    refine Xg.ops_op (by kernel_rfl) (Xg.opx_pure ((iv (↑(clsA a) : Int))) rfl (fun _ => by kernel_rfl) ?_)
    refine Xg.ops_op (by kernel_rfl) (Xg.opx_callE' [0] (fun xx1 => [PoolS p σ, I2 xx1.fst xx1.snd fr, LeP x, BhP x, row xb1 (62 : TypeId) [iv (↑x.id : Int), Value.slice x.la x.les.length x.lc, Value.slice x.ba x.Z.length x.bc], row xb2 (59 : TypeId) [iv a.kd, iv a.wh, iv a.sz, iv a.pk, iv a.ap, iv a.bt], row xb3 (62 : TypeId) [iv 0, Value.slice none (0 : Nat) (0 : Nat), Value.slice none (0 : Nat) (0 : Nat)]]) (fun _ => by kernel_rfl) (@hfree ) (by kernel_rfl) (by kernel_rfl) (by kernel_rfl) fun xx1 xh1 => ?_)
    try dsimp only at xh1
    refine Xg.ops_op (by kernel_rfl) (Xg.opx_pure ((Value.slice xx1.fst fr.length xx1.snd)) rfl (fun _ => by kernel_rfl) ?_)
    refine Xg.ops_nil ?_
    refine Xg.at_seq ?_
    refine Xg.at_region ?_
    refine Xg.ops_op (by kernel_rfl) (Xg.opx_pure ((pv p 0)) rfl (fun _ => by kernel_rfl) ?_)
    refine Xg.ops_op (by kernel_rfl) (Xg.opx_pure ((pv xb1 0)) rfl (fun _ => by kernel_rfl) ?_)
    refine Xg.ops_op (by kernel_rfl) (Xg.opx_load (b := xb1) (off := ((0 : Nat))) 4 (iv (↑x.id : Int)) rfl (by kernel_rfl) (by kernel_rfl) (by kernel_rfl) ?_)
    refine Xg.ops_op (by kernel_rfl) (Xg.opx_pure ((iv ((1 : Int) + (↑(pickN a.sz (16 : Nat)) : Int)))) rfl (fun _ => by kernel_rfl) ?_)
    refine Xg.ops_op (by kernel_rfl) (Xg.opx_pure ((pv xb2 3)) rfl (fun _ => by kernel_rfl) ?_)
    refine Xg.ops_op (by kernel_rfl) (Xg.opx_load (b := xb2) (off := ((3 : Nat))) 5 (iv a.pk) rfl (by kernel_rfl) (by kernel_rfl) (by kernel_rfl) ?_)
    refine Xg.ops_op (by kernel_rfl) (Xg.opx_call1' [0] [PoolS p σ, I2 xx1.fst xx1.snd fr, LeP x, BhP x, row xb1 (62 : TypeId) [iv (↑x.id : Int), Value.slice x.la x.les.length x.lc, Value.slice x.ba x.Z.length x.bc], row xb2 (59 : TypeId) [iv a.kd, iv a.wh, iv a.sz, iv a.pk, iv a.ap, iv a.bt], row xb3 (62 : TypeId) [iv 0, Value.slice none (0 : Nat) (0 : Nat), Value.slice none (0 : Nat) (0 : Nat)]] (fun _ => by kernel_rfl) (@htake ) (by kernel_rfl) (by kernel_rfl) (by kernel_rfl) ?_)
    refine Xg.ops_op (by kernel_rfl) (Xg.opx_pure ((Value.tuple #[Value.agg #[iv 0, iv 0, iv 0], iv 96])) rfl (fun _ => by kernel_rfl) ?_)
    refine Xg.ops_op (by kernel_rfl) (Xg.opx_pure ((Value.agg #[iv 0, iv 0, iv 0])) rfl (fun _ => by kernel_rfl) ?_)
    refine Xg.ops_op (by kernel_rfl) (Xg.opx_pure ((iv 96)) rfl (fun _ => by kernel_rfl) ?_)
    refine Xg.ops_op (by kernel_rfl) (Xg.opx_new 3 [iv 0, iv 0, iv 0] (by kernel_rfl) (by kernel_rfl) fun xb4 => ?_)
    refine Xg.ops_op (by kernel_rfl) (Xg.opx_storen 3 (off := 0) 0 [iv 0, iv 0, iv 0] (by kernel_rfl) rfl (by kernel_rfl) (by kernel_rfl) rfl (by kernel_rfl) (Nat.le_of_ble_eq_true (by kernel_rfl)) ?_)
    refine Xg.ops_op (by kernel_rfl) (Xg.opx_pure ((iv 96)) rfl (fun _ => by kernel_rfl) ?_)
    refine Xg.ops_nil ?_
    refine Xg.at_seq ?_
    refine Xg.at_block ?_
    refine Xg.at_seq ?_
    refine Xg.at_region ?_
    refine Xg.ops_op (by kernel_rfl) (Xg.opx_loadn (off := 0) 3 5 [iv (↑x.id : Int), Value.slice x.la x.les.length x.lc, Value.slice x.ba x.Z.length x.bc] (by kernel_rfl) rfl (by kernel_rfl) rfl (Xg.cells_at (by kernel_rfl)) (by kernel_rfl) ?_)
    refine Xg.ops_op (by kernel_rfl) (Xg.opx_call1' [3] [recsO (42 : Nat) (3 : Nat) leK x.la x.lc x.les, row xb4 (42 : Nat) [iv 0, iv 0, iv 0], PoolS p σ, I2 xx1.fst xx1.snd fr, BhP x, row xb1 (62 : TypeId) [iv (↑x.id : Int), Value.slice x.la x.les.length x.lc, Value.slice x.ba x.Z.length x.bc], row xb2 (59 : TypeId) [iv a.kd, iv a.wh, iv a.sz, iv a.pk, iv a.ap, iv a.bt], row xb3 (62 : TypeId) [iv 0, Value.slice none (0 : Nat) (0 : Nat), Value.slice none (0 : Nat) (0 : Nat)]] (fun _ => by kernel_rfl) (@hsd (((↑x.id : Int))) (x.la) (x.lc) ((Value.slice x.ba x.Z.length x.bc))) (by kernel_rfl) (by kernel_rfl) (by kernel_rfl) ?_)
    refine Xg.ops_op (by kernel_rfl) (Xg.opx_pure ((iv (↑(hasA a) : Int))) rfl (fun _ => by kernel_rfl) ?_)
    refine Xg.ops_op (by kernel_rfl) (Xg.opx_int .i64 (IntKind.wrap .i64 ((sizeL x.les + (↑(hasA a) : Int)))) rfl (fun _ => by kernel_rfl) (Xg.wrap_i64_in (by omega)) ?_)
    refine Xg.ops_op (by kernel_rfl) (Xg.opx_pure ((iv q)) rfl (fun _ => by kernel_rfl) ?_)
    refine Xg.ops_op (by kernel_rfl) (Xg.opx_pure (.bool (decide (((sizeL x.les + (↑(hasA a) : Int)) : Int) > q))) rfl (fun _ => by kernel_rfl) ?_)
    refine Xg.ops_op (by kernel_rfl) (Xg.opx_pure ((Value.bool (decide (sizeL x.les + (↑(hasA a) : Int) > q)))) rfl (fun _ => by kernel_rfl) ?_)
    refine Xg.ops_nil ?_
    refine Xg.at_false (t := decide ((sizeL x.les + (↑(hasA a) : Int) > q))) (by kernel_rfl) (decide_eq_false (by omega)) ?_
    refine Xg.at_seq ?_
    refine Xg.at_region ?_
    refine Xg.ops_op (by kernel_rfl) (Xg.opx_pure ((Value.slice xx1.fst fr.length xx1.snd)) rfl (fun _ => by kernel_rfl) ?_)
    refine Xg.ops_op (by kernel_rfl) (Xg.opx_pure ((iv (↑fr.length : Int))) rfl (fun _ => by kernel_rfl) ?_)
    refine Xg.ops_op (by kernel_rfl) (Xg.opx_pure (.bool (decide ((((↑fr.length : Int)) : Int) = ((0 : Int))))) rfl (fun _ => by kernel_rfl) ?_)
    refine Xg.ops_op (by kernel_rfl) (Xg.opx_pure ((Value.bool (decide ((↑fr.length : Int) = (0 : Int))))) rfl (fun _ => by kernel_rfl) ?_)
    refine Xg.ops_nil ?_
    refine Xg.at_true (t := decide (((↑fr.length : Int) = (0 : Int)))) (by kernel_rfl) (decide_eq_true (by omega)) ?_
    refine Xg.at_seq ?_
    refine Xg.at_region ?_
    refine Xg.ops_op (by kernel_rfl) (Xg.opx_loadn (off := 0) 3 5 [iv (↑x.id : Int), Value.slice x.la x.les.length x.lc, Value.slice x.ba x.Z.length x.bc] (by kernel_rfl) rfl (by kernel_rfl) rfl (Xg.cells_at (by kernel_rfl)) (by kernel_rfl) ?_)
    refine Xg.ops_op (by kernel_rfl) (Xg.opx_pure ((iv 96)) rfl (fun _ => by kernel_rfl) ?_)
    refine Xg.ops_op (by kernel_rfl) (Xg.opx_pure ((Value.bool true)) rfl (fun _ => by kernel_rfl) ?_)
    refine Xg.ops_op (by kernel_rfl) (Xg.opx_storen 3 (off := 0) 7 [iv (↑x.id : Int), Value.slice x.la x.les.length x.lc, Value.slice x.ba x.Z.length x.bc] (by kernel_rfl) rfl (by kernel_rfl) (by kernel_rfl) rfl (by kernel_rfl) (Nat.le_of_ble_eq_true (by kernel_rfl)) ?_)
    refine Xg.ops_op (by kernel_rfl) (Xg.opx_pure ((Value.bool true)) rfl (fun _ => by kernel_rfl) ?_)
    refine Xg.ops_nil ?_
    refine Xg.at_ret_feed (v := (Value.tuple #[Value.agg #[iv (↑x.id : Int), Value.slice x.la x.les.length x.lc, Value.slice x.ba x.Z.length x.bc], Value.bool true])) [(Addr.mk xb3 (0 : Nat) none), (Addr.mk xb3 (1 : Nat) none), (Addr.mk xb3 (2 : Nat) none)] [iv (↑x.id : Int), Value.slice x.la x.les.length x.lc, Value.slice x.ba x.Z.length x.bc] [2, 0, 4] [PoolS p σ, recsO (42 : Nat) (3 : Nat) leK x.la x.lc x.les, BhP x] Go.Proofs.Try.func25 (by kernel_rfl) (Xg.cells_cons (b := xb3) (off := 0) 7 rfl (by kernel_rfl) (Xg.cells_cons (b := xb3) (off := 1) 7 rfl (by kernel_rfl) (Xg.cells_cons (b := xb3) (off := 2) 7 rfl (by kernel_rfl) Xg.cells_nil))) (by kernel_rfl) (by kernel_rfl) ?_
    exact ⟨by kernel_rfl, by kernel_rfl⟩)
end
end Go.Proofs.Ytmplimmcjdkhlaa

/- The arena laws: acts: a buffer is given back. -/
namespace Go.Proofs.Ytmplimmcjdkhlaa
open Go.Sl Go.Xg
set_option linter.unusedVariables false
set_option linter.unusedSimpArgs false
set_option linter.unnecessarySimpa false
set_option maxHeartbeats 4000000
set_option maxRecDepth 100000

theorem acts_give (p : Nat) (σ τ : Po) (hh : HdV) (a : Ac) (ha : Acok a) (q : Int) (hl5 : hh.les.length ≤ 5000) (k : Nat) (hkk : k = kOf a hh.les.length) (hl : k < hh.les.length) (hZ : hh.Z.length = hh.les.length) (hk : pickN a.kd 8 = 4)
    (hg : Does Try.prog 23 [.pointer (some ⟨p, 0, none⟩), .int .i64 (hh.id : Nat), .int .i64 (hh.les.getD k default).1] [PoolS p σ] (Ret (.int .i64 0) [PoolS p τ])) :
    Does Try.prog 25 [.pointer (some ⟨p, 0, none⟩), hdV hh, acV a, .int .i64 q] [PoolS p σ, LeP hh, BhP hh]
    (RetE (fun y : (Option Addr × Nat) × (Option Addr × Nat) => True) (fun y => .tuple #[.agg #[.int .i64 (hh.id : Nat), .slice y.1.1 (hh.les.eraseIdx k).length y.1.2, .slice y.2.1 (hh.Z.eraseIdx k).length y.2.2], .bool true]) (fun y => [PoolS p τ, recsO 42 3 leK y.1.1 y.1.2 (hh.les.eraseIdx k), recsO 40 1 bhK y.2.1 y.2.2 (hh.Z.eraseIdx k)])) := by
  obtain ⟨a1, a2, a3, a4, a5, a6⟩ := id ha
  have hp8 := pick_r a.kd 8 a1 (by decide)
  have hpk := pick_r a.pk hh.les.length a4 (by omega)
  have hkn : pickN a.pk hh.les.length = k := by rw [hkk]; unfold kOf; rw [if_pos (by omega)]
  rw [hkn] at hpk
  (focus
    refine Xg.spec_of Go.Proofs.Try.func25 rfl Go.Proofs.Try.ntmps25 fun g F => ?_)
  (focus
    refine Xg.at_seq ?_
    refine Xg.at_region ?_
    refine Xg.ops_op (by kernel_rfl) (Xg.opx_box (v := (Value.agg #[iv (↑hh.id : Int), Value.slice hh.la hh.les.length hh.lc, Value.slice hh.ba hh.Z.length hh.bc])) [iv (↑hh.id : Int), Value.slice hh.la hh.les.length hh.lc, Value.slice hh.ba hh.Z.length hh.bc] (by kernel_rfl) (by kernel_rfl) fun xb1 => ?_)
    refine Xg.ops_op (by kernel_rfl) (Xg.opx_box (v := (Value.agg #[iv a.kd, iv a.wh, iv a.sz, iv a.pk, iv a.ap, iv a.bt])) [iv a.kd, iv a.wh, iv a.sz, iv a.pk, iv a.ap, iv a.bt] (by kernel_rfl) (by kernel_rfl) fun xb2 => ?_)
    refine Xg.ops_op (by kernel_rfl) (Xg.opx_new 3 [iv 0, Value.slice none (0 : Nat) (0 : Nat), Value.slice none (0 : Nat) (0 : Nat)] (by kernel_rfl) (by kernel_rfl) fun xb3 => ?_)
    refine Xg.ops_op (by kernel_rfl) (Xg.opx_pure ((Value.bool false)) rfl (fun _ => by kernel_rfl) ?_)
    refine Xg.ops_nil ?_
    refine Xg.at_seq ?_
    refine Xg.at_region ?_
    refine Xg.ops_op (by kernel_rfl) (Xg.opx_pure ((iv 0)) rfl (fun _ => by kernel_rfl) ?_)
    refine Xg.ops_nil ?_
    refine Xg.at_seq ?_
    refine Xg.at_seq ?_
    refine Xg.at_region ?_
    refine Xg.ops_op (by kernel_rfl) (Xg.opx_pure ((pv xb1 1)) rfl (fun _ => by kernel_rfl) ?_)
    refine Xg.ops_op (by kernel_rfl) (Xg.opx_load (b := xb1) (off := ((1 : Nat))) 2 (Value.slice hh.la hh.les.length hh.lc) rfl (by kernel_rfl) (by kernel_rfl) (by kernel_rfl) ?_)
    refine Xg.ops_op (by kernel_rfl) (Xg.opx_pure ((iv (↑hh.les.length : Int))) rfl (fun _ => by kernel_rfl) ?_)
    refine Xg.ops_op (by kernel_rfl) (Xg.opx_pure (.bool (decide ((((↑hh.les.length : Int)) : Int) > ((0 : Int))))) rfl (fun _ => by kernel_rfl) ?_)
    refine Xg.ops_nil ?_
    refine Xg.at_true (t := decide (((↑hh.les.length : Int) > (0 : Int)))) (by kernel_rfl) (decide_eq_true (by omega)) ?_
    refine Xg.at_region ?_
    refine Xg.ops_op (by kernel_rfl) (Xg.opx_pure ((pv xb2 3)) rfl (fun _ => by kernel_rfl) ?_)
    refine Xg.ops_op (by kernel_rfl) (Xg.opx_load (b := xb2) (off := ((3 : Nat))) 1 (iv a.pk) rfl (by kernel_rfl) (by kernel_rfl) (by kernel_rfl) ?_)
    refine Xg.ops_op (by kernel_rfl) (Xg.opx_pure ((pv xb1 1)) rfl (fun _ => by kernel_rfl) ?_)
    refine Xg.ops_op (by kernel_rfl) (Xg.opx_load (b := xb1) (off := ((1 : Nat))) 2 (Value.slice hh.la hh.les.length hh.lc) rfl (by kernel_rfl) (by kernel_rfl) (by kernel_rfl) ?_)
    refine Xg.ops_op (by kernel_rfl) (Xg.opx_pure ((iv (↑hh.les.length : Int))) rfl (fun _ => by kernel_rfl) ?_)
    refine Xg.ops_op (by kernel_rfl) (Xg.opx_call1' [] [row xb3 (62 : Nat) [iv 0, Value.slice none (0 : Nat) (0 : Nat), Value.slice none (0 : Nat) (0 : Nat)], row xb2 (59 : Nat) [iv a.kd, iv a.wh, iv a.sz, iv a.pk, iv a.ap, iv a.bt], row xb1 (62 : Nat) [iv (↑hh.id : Int), Value.slice hh.la hh.les.length hh.lc, Value.slice hh.ba hh.Z.length hh.bc], PoolS p σ, LeP hh, BhP hh] (fun _ => by kernel_rfl) (@hpk ) (by kernel_rfl) (by kernel_rfl) (by kernel_rfl) ?_)
    refine Xg.ops_op (by kernel_rfl) (Xg.opx_pure ((iv (↑k : Int))) rfl (fun _ => by kernel_rfl) ?_)
    refine Xg.ops_nil ?_
    refine Xg.at_seq ?_
    refine Xg.at_seq ?_
    refine Xg.at_region ?_
    refine Xg.ops_op (by kernel_rfl) (Xg.opx_pure ((pv xb2 0)) rfl (fun _ => by kernel_rfl) ?_)
    refine Xg.ops_op (by kernel_rfl) (Xg.opx_load (b := xb2) (off := ((0 : Nat))) 1 (iv a.kd) rfl (by kernel_rfl) (by kernel_rfl) (by kernel_rfl) ?_)
    refine Xg.ops_op (by kernel_rfl) (Xg.opx_call1' [] [row xb3 (62 : Nat) [iv 0, Value.slice none (0 : Nat) (0 : Nat), Value.slice none (0 : Nat) (0 : Nat)], row xb2 (59 : Nat) [iv a.kd, iv a.wh, iv a.sz, iv a.pk, iv a.ap, iv a.bt], row xb1 (62 : Nat) [iv (↑hh.id : Int), Value.slice hh.la hh.les.length hh.lc, Value.slice hh.ba hh.Z.length hh.bc], PoolS p σ, LeP hh, BhP hh] (fun _ => by kernel_rfl) (@hp8 ) (by kernel_rfl) (by kernel_rfl) (by kernel_rfl) ?_)
    refine Xg.ops_nil ?_
    refine Xg.at_block ?_
    refine Xg.at_seq ?_
    refine Xg.at_seq ?_
    refine Xg.at_region ?_
    refine Xg.ops_op (by kernel_rfl) (Xg.opx_pure (.bool (decide ((((↑(pickN a.kd (8 : Nat)) : Int)) : Int) = ((0 : Int))))) rfl (fun _ => by kernel_rfl) ?_)
    refine Xg.ops_op (by kernel_rfl) (Xg.opx_pure ((Value.bool (decide ((↑(pickN a.kd (8 : Nat)) : Int) = (0 : Int))))) rfl (fun _ => by kernel_rfl) ?_)
    refine Xg.ops_nil ?_)
  (focus
    refine Xg.at_false (t := decide (((↑(pickN a.kd (8 : Nat)) : Int) = (0 : Int)))) (by kernel_rfl) (decide_eq_false (by omega)) ?_
    refine Xg.at_region ?_
    refine Xg.ops_op (by kernel_rfl) (Xg.opx_pure (.bool (decide ((((↑(pickN a.kd (8 : Nat)) : Int)) : Int) = ((1 : Int))))) rfl (fun _ => by kernel_rfl) ?_)
    refine Xg.ops_op (by kernel_rfl) (Xg.opx_pure ((Value.bool (decide ((↑(pickN a.kd (8 : Nat)) : Int) = (1 : Int))))) rfl (fun _ => by kernel_rfl) ?_)
    refine Xg.ops_nil ?_
    refine Xg.at_false (t := decide (((↑(pickN a.kd (8 : Nat)) : Int) = (1 : Int)))) (by kernel_rfl) (decide_eq_false (by omega)) ?_
    refine Xg.at_seq ?_
    refine Xg.at_seq ?_
    refine Xg.at_region ?_
    refine Xg.ops_op (by kernel_rfl) (Xg.opx_pure (.bool (decide ((((↑(pickN a.kd (8 : Nat)) : Int)) : Int) = ((2 : Int))))) rfl (fun _ => by kernel_rfl) ?_)
    refine Xg.ops_op (by kernel_rfl) (Xg.opx_pure ((Value.bool (decide ((↑(pickN a.kd (8 : Nat)) : Int) = (2 : Int))))) rfl (fun _ => by kernel_rfl) ?_)
    refine Xg.ops_nil ?_)
  (focus
    refine Xg.at_false (t := decide (((↑(pickN a.kd (8 : Nat)) : Int) = (2 : Int)))) (by kernel_rfl) (decide_eq_false (by omega)) ?_
    refine Xg.at_region ?_
    refine Xg.ops_op (by kernel_rfl) (Xg.opx_pure (.bool (decide ((((↑(pickN a.kd (8 : Nat)) : Int)) : Int) = ((3 : Int))))) rfl (fun _ => by kernel_rfl) ?_)
    refine Xg.ops_op (by kernel_rfl) (Xg.opx_pure ((Value.bool (decide ((↑(pickN a.kd (8 : Nat)) : Int) = (3 : Int))))) rfl (fun _ => by kernel_rfl) ?_)
    refine Xg.ops_nil ?_
    refine Xg.at_false (t := decide (((↑(pickN a.kd (8 : Nat)) : Int) = (3 : Int)))) (by kernel_rfl) (decide_eq_false (by omega)) ?_
    refine Xg.at_seq ?_
    refine Xg.at_region ?_
    refine Xg.ops_op (by kernel_rfl) (Xg.opx_pure (.bool (decide ((((↑(pickN a.kd (8 : Nat)) : Int)) : Int) = ((4 : Int))))) rfl (fun _ => by kernel_rfl) ?_)
    refine Xg.ops_op (by kernel_rfl) (Xg.opx_pure ((Value.bool (decide ((↑(pickN a.kd (8 : Nat)) : Int) = (4 : Int))))) rfl (fun _ => by kernel_rfl) ?_)
    refine Xg.ops_nil ?_
    refine Xg.at_true (t := decide (((↑(pickN a.kd (8 : Nat)) : Int) = (4 : Int)))) (by kernel_rfl) (decide_eq_true (by omega)) ?_
    refine Xg.at_seq ?_
    refine Xg.at_seq ?_
    refine Xg.at_region ?_
    refine Xg.ops_op (by kernel_rfl) (Xg.opx_pure ((pv xb1 1)) rfl (fun _ => by kernel_rfl) ?_)
    refine Xg.ops_op (by kernel_rfl) (Xg.opx_load (b := xb1) (off := ((1 : Nat))) 2 (Value.slice hh.la hh.les.length hh.lc) rfl (by kernel_rfl) (by kernel_rfl) (by kernel_rfl) ?_)
    refine Xg.ops_op (by kernel_rfl) (Xg.opx_pure ((iv (↑hh.les.length : Int))) rfl (fun _ => by kernel_rfl) ?_)
    refine Xg.ops_op (by kernel_rfl) (Xg.opx_pure (.bool (decide ((((↑hh.les.length : Int)) : Int) = ((0 : Int))))) rfl (fun _ => by kernel_rfl) ?_)
    refine Xg.ops_nil ?_
    refine Xg.at_false (t := decide (((↑hh.les.length : Int) = (0 : Int)))) (by kernel_rfl) (decide_eq_false (by omega)) ?_
    refine Xg.at_skip ?_
    refine Xg.at_seq ?_
    refine Xg.at_draw [9] [(2, [0, 1, 2, 3, 4, 5, 6, 7, 8], Xg.CellIs (xb1) (((0 : Nat))) ((iv (↑hh.id : Int)))), (4, [0, 1, 2, 3, 4, 5], Xg.CellIs (xb1) (((1 : Nat))) ((Value.slice hh.la hh.les.length hh.lc))), (6, [0, 1, 2, 3, 4, 5, 6], (RdIs (3 : Nat) (Value.slice hh.la hh.les.length hh.lc) hh.les.length (recs leK hh.les))), (8, [0, 1, 2, 3, 4, 5, 6, 7, 8], (RdIs (3 : Nat) (Value.slice hh.la hh.les.length hh.lc) hh.les.length (recs leK hh.les)))] (by kernel_rfl) ?_
    refine Xg.any_pure ((pv p 0)) 0 (by kernel_rfl) rfl (by kernel_rfl) (by kernel_rfl) (by kernel_rfl) (by kernel_rfl) rfl (fun _ => by kernel_rfl) ?_
    refine Xg.any_pure ((pv xb1 0)) 1 (by kernel_rfl) rfl (by kernel_rfl) (by kernel_rfl) (by kernel_rfl) (by kernel_rfl) rfl (fun _ => by kernel_rfl) ?_
    refine Xg.any_reads (iv (↑hh.id : Int)) 2 0 (by kernel_rfl) rfl (by kernel_rfl) (by kernel_rfl) (by kernel_rfl) (by kernel_rfl) rfl rfl (by kernel_rfl) (Xg.cell_now (b := xb1) (off := ((0 : Nat))) 2 rfl (by kernel_rfl)) (fun _ h => Xg.run_load (by kernel_rfl) (by kernel_rfl) h) ?_
    refine Xg.any_pure ((pv xb1 1)) 3 (by kernel_rfl) rfl (by kernel_rfl) (by kernel_rfl) (by kernel_rfl) (by kernel_rfl) rfl (fun _ => by kernel_rfl) ?_
    refine Xg.any_reads (Value.slice hh.la hh.les.length hh.lc) 4 1 (by kernel_rfl) rfl (by kernel_rfl) (by kernel_rfl) (by kernel_rfl) (by kernel_rfl) rfl rfl (by kernel_rfl) (Xg.cell_now (b := xb1) (off := ((1 : Nat))) 2 rfl (by kernel_rfl)) (fun _ h => Xg.run_load (by kernel_rfl) (by kernel_rfl) h) ?_
    refine Xg.any_pure ((iv (↑k : Int))) 5 (by kernel_rfl) rfl (by kernel_rfl) (by kernel_rfl) (by kernel_rfl) (by kernel_rfl) rfl (fun _ => by kernel_rfl) ?_
    refine Xg.any_reads (.pointer (some (Addr.mk (Xg.blk hh.la) (offA hh.la + k * (3 : Nat)) none))) 6 2 (by kernel_rfl) rfl (by kernel_rfl) (by kernel_rfl) (by kernel_rfl) (by kernel_rfl) rfl rfl (by kernel_rfl) (Xg.rd_now 4 (Xg.reads_own (E := ((42 : Nat))) (sz := ((3 : Nat))) (n := hh.les.length) (c := hh.lc) (a := hh.la) (vs := (recs leK hh.les))) (by kernel_rfl)) (Xg.run_ix_rd (elem := 42) (kd := .i64) (e := ((↑k : Int))) 3 k (offA hh.la + k * (3 : Nat)) (by kernel_rfl) (by kernel_rfl) (by kernel_rfl) (by kernel_rfl) rfl (by omega) (by rw [Xg.recs_len (wd := 3) (fun _ => rfl)]; omega) (by omega)) ?_
    refine Xg.any_pure ((Value.pointer (some (Addr.mk (blk hh.la) (offA hh.la + k * (3 : Nat)) none)))) 7 (by kernel_rfl) rfl (by kernel_rfl) (by kernel_rfl) (by kernel_rfl) (by kernel_rfl) rfl (fun _ => by kernel_rfl) ?_
    refine Xg.any_reads (iv (hh.les.getD k default).fst) 8 3 (by kernel_rfl) rfl (by kernel_rfl) (by kernel_rfl) (by kernel_rfl) (by kernel_rfl) rfl rfl (by kernel_rfl) (Xg.rd_now 4 (Xg.reads_own (E := ((42 : Nat))) (sz := ((3 : Nat))) (n := hh.les.length) (c := hh.lc) (a := hh.la) (vs := (recs leK hh.les))) (by kernel_rfl)) (Xg.run_load_rd (off0 := (offA hh.la + k * (3 : Nat))) (k * (3 : Nat)) (by kernel_rfl) (by omega) (Xg.get_recs' (wd := 3) (fun _ => rfl) default k 0 (by omega) (by decide) (by omega) (by kernel_rfl)) (by kernel_rfl)) ?_
    refine Xg.any_each [9] (by kernel_rfl) rfl ⟨?_, trivial⟩
    refine Xg.comes_act rfl (by kernel_rfl) (by kernel_rfl) (Xg.opx_call1' [3] [PoolS p τ, row xb3 (62 : Nat) [iv 0, Value.slice none (0 : Nat) (0 : Nat), Value.slice none (0 : Nat) (0 : Nat)], row xb2 (59 : Nat) [iv a.kd, iv a.wh, iv a.sz, iv a.pk, iv a.ap, iv a.bt], row xb1 (62 : Nat) [iv (↑hh.id : Int), Value.slice hh.la hh.les.length hh.lc, Value.slice hh.ba hh.Z.length hh.bc], LeP hh, BhP hh] (fun _ => by kernel_rfl) (@hg ) (by kernel_rfl) (by kernel_rfl) (by kernel_rfl) ?_)
    refine Xg.acts (Xg.owes_skip (by kernel_rfl) (Xg.owes_skip (by kernel_rfl) (Xg.owes_skip (by kernel_rfl) (Xg.owes_skip (by kernel_rfl) Xg.owes_nil)))) ?_
    refine Xg.any_pure ((iv 0)) 10 (by kernel_rfl) rfl (by kernel_rfl) (by kernel_rfl) (by kernel_rfl) (by kernel_rfl) rfl (fun _ => by kernel_rfl) ?_
    refine Xg.any_nil (by kernel_rfl) ?_
    refine Xg.at_seq ?_
    refine Xg.at_region ?_
    refine Xg.ops_op (by kernel_rfl) (Xg.opx_pure ((Value.slice none (0 : Nat) (0 : Nat))) rfl (fun _ => by kernel_rfl) ?_)
    refine Xg.ops_nil ?_
    refine Xg.at_seq ?_
    refine Xg.at_region ?_
    refine Xg.ops_op (by kernel_rfl) (Xg.opx_pure ((Value.slice none (0 : Nat) (0 : Nat))) rfl (fun _ => by kernel_rfl) ?_)
    refine Xg.ops_nil ?_
    refine Xg.at_seq ?_
    refine Xg.at_seq ?_)
  refine at_nil_recs 40 1 bhK ?_
  refine at_nil_recs 42 3 leK ?_
  (focus
    refine Xg.at_region ?_
    refine Xg.ops_op (by kernel_rfl) (Xg.opx_pure ((iv 0)) rfl (fun _ => by kernel_rfl) ?_)
    refine Xg.ops_nil ?_
    refine Xg.at_block ?_)
  (focus
    refine Xg.at_keep [2, 6, 7, 5, 3, 0, 1] (by kernel_rfl) ?_
    refine Xg.at_rounds_inv (α := (Nat × (Option Addr × Nat × List (Int × Int × Int)) × (Option Addr × Nat × List (Option Addr × List Int))) × (Nat → Value)) (fun x => ((fun y => y.1 ≤ hh.les.length ∧ y.2.1.2.2 = (hh.les.take y.1).eraseIdx k ∧ y.2.2.2.2 = (hh.Z.take y.1).eraseIdx k) : (Nat × (Option Addr × Nat × List (Int × Int × Int)) × (Option Addr × Nat × List (Option Addr × List Int))) → Prop) x.1) (fun x => ((fun y => hh.les.length - y.1) : (Nat × (Option Addr × Nat × List (Int × Int × Int)) × (Option Addr × Nat × List (Option Addr × List Int))) → Nat) x.1) (fun x => Xg.headT [pv p 0, Value.agg #[iv (↑hh.id : Int), Value.slice hh.la hh.les.length hh.lc, Value.slice hh.ba hh.Z.length hh.bc], Value.agg #[iv a.kd, iv a.wh, iv a.sz, iv a.pk, iv a.ap, iv a.bt], iv q, tu, pv xb1 0, pv xb2 0, tu, pv xb3 0, Value.bool false, iv (↑k : Int), tu, tu, tu, tu, tu, tu, tu, tu, iv 0, Value.slice none (0 : Nat) (0 : Nat), Value.slice none (0 : Nat) (0 : Nat), iv 0, tu, tu, tu, tu, tu, pv xb1 1, Value.slice hh.la hh.les.length hh.lc, iv (↑hh.les.length : Int), Value.bool (decide ((↑hh.les.length : Int) > (0 : Int))), pv xb2 3, iv a.pk, pv xb1 1, Value.slice hh.la hh.les.length hh.lc, iv (↑hh.les.length : Int), iv (↑k : Int), pv xb2 0, iv a.kd, iv (↑(pickN a.kd (8 : Nat)) : Int), Value.bool (decide ((↑(pickN a.kd (8 : Nat)) : Int) = (1 : Int))), Value.bool (decide ((↑(pickN a.kd (8 : Nat)) : Int) = (0 : Int))), Value.bool (decide ((↑(pickN a.kd (8 : Nat)) : Int) = (1 : Int))), tu, tu, tu, tu, tu, tu, tu, tu, tu, tu, tu, tu, tu, tu, tu, tu, tu, tu, tu, tu, tu, tu, tu, tu, tu, tu, tu, tu, tu, tu, tu, tu, tu, tu, tu, tu, tu, tu, tu, tu, tu, tu, tu, tu, tu, tu, tu, tu, tu, tu, tu, tu, tu, tu, tu, tu, tu, tu, tu, tu, tu, tu, tu, tu, tu, tu, tu, tu, tu, tu, tu, tu, tu, tu, tu, tu, tu, Value.bool (decide ((↑(pickN a.kd (8 : Nat)) : Int) = (3 : Int))), Value.bool (decide ((↑(pickN a.kd (8 : Nat)) : Int) = (2 : Int))), Value.bool (decide ((↑(pickN a.kd (8 : Nat)) : Int) = (3 : Int))), tu, tu, tu, tu, tu, tu, tu, tu, tu, tu, tu, tu, tu, tu, tu, tu, tu, tu, tu, tu, tu, tu, tu, tu, tu, tu, tu, tu, tu, tu, tu, tu, tu, tu, tu, tu, tu, tu, tu, tu, tu, tu, Value.bool (decide ((↑(pickN a.kd (8 : Nat)) : Int) = (4 : Int))), Value.bool (decide ((↑(pickN a.kd (8 : Nat)) : Int) = (4 : Int))), pv xb1 1, Value.slice hh.la hh.les.length hh.lc, iv (↑hh.les.length : Int), Value.bool (decide ((↑hh.les.length : Int) = (0 : Int))), tu, pv p 0, pv xb1 0, iv (↑hh.id : Int), pv xb1 1, Value.slice hh.la hh.les.length hh.lc, iv (↑k : Int), Value.pointer (some (Addr.mk (blk hh.la) (offA hh.la + k * (3 : Nat)) none)), Value.pointer (some (Addr.mk (blk hh.la) (offA hh.la + k * (3 : Nat)) none)), iv (hh.les.getD k default).fst, iv 0, tu, tu, tu, tu, tu, tu, tu, tu, tu, tu, tu, tu, tu, tu, tu, tu, tu, tu, tu, tu, tu, tu, tu, tu, tu, tu, tu, tu, tu, tu, tu, tu, tu, tu, tu, tu, tu, tu, tu, tu, tu, tu, tu, tu, tu, tu, tu, tu, tu, tu, tu, tu, tu, tu, tu, tu, tu, tu, tu, tu, tu, tu, tu, tu] [183, 184, 185, 186, 187, 188, 189, 190, 191, 192, 193, 194, 195, 196, 197, 198, 199, 200, 201, 202, 203, 204, 205, 206, 207, 208] (((fun y => [(20, .slice y.2.1.1 y.2.1.2.2.length y.2.1.2.1), (21, .slice y.2.2.1 y.2.2.2.2.length y.2.2.2.1), (22, .int .i64 (y.1 : Nat))]) : (Nat × (Option Addr × Nat × List (Int × Int × Int)) × (Option Addr × Nat × List (Option Addr × List Int))) → List (Nat × Go.Value)) x.1) x.2) (fun x => ((fun y => [PoolS p τ, LeP hh, BhP hh, row xb1 62 (hdK hh), row xb3 62 [.int .i64 0, .slice none 0 0, .slice none 0 0], recsO 42 3 leK y.2.1.1 y.2.1.2.1 y.2.1.2.2, recsO 40 1 bhK y.2.2.1 y.2.2.2.1 y.2.2.2.2]) : (Nat × (Option Addr × Nat × List (Int × Int × Int)) × (Option Addr × Nat × List (Option Addr × List Int))) → List Go.Sl.HP) x.1) (((0, (none, 0, []), (none, 0, []))), fun j9 => ([pv p 0, Value.agg #[iv (↑hh.id : Int), Value.slice hh.la hh.les.length hh.lc, Value.slice hh.ba hh.Z.length hh.bc], Value.agg #[iv a.kd, iv a.wh, iv a.sz, iv a.pk, iv a.ap, iv a.bt], iv q, tu, pv xb1 0, pv xb2 0, tu, pv xb3 0, Value.bool false, iv (↑k : Int), tu, tu, tu, tu, tu, tu, tu, tu, iv 0, Value.slice none (0 : Nat) (0 : Nat), Value.slice none (0 : Nat) (0 : Nat), iv 0, tu, tu, tu, tu, tu, pv xb1 1, Value.slice hh.la hh.les.length hh.lc, iv (↑hh.les.length : Int), Value.bool (decide ((↑hh.les.length : Int) > (0 : Int))), pv xb2 3, iv a.pk, pv xb1 1, Value.slice hh.la hh.les.length hh.lc, iv (↑hh.les.length : Int), iv (↑k : Int), pv xb2 0, iv a.kd, iv (↑(pickN a.kd (8 : Nat)) : Int), Value.bool (decide ((↑(pickN a.kd (8 : Nat)) : Int) = (1 : Int))), Value.bool (decide ((↑(pickN a.kd (8 : Nat)) : Int) = (0 : Int))), Value.bool (decide ((↑(pickN a.kd (8 : Nat)) : Int) = (1 : Int))), tu, tu, tu, tu, tu, tu, tu, tu, tu, tu, tu, tu, tu, tu, tu, tu, tu, tu, tu, tu, tu, tu, tu, tu, tu, tu, tu, tu, tu, tu, tu, tu, tu, tu, tu, tu, tu, tu, tu, tu, tu, tu, tu, tu, tu, tu, tu, tu, tu, tu, tu, tu, tu, tu, tu, tu, tu, tu, tu, tu, tu, tu, tu, tu, tu, tu, tu, tu, tu, tu, tu, tu, tu, tu, tu, tu, tu, Value.bool (decide ((↑(pickN a.kd (8 : Nat)) : Int) = (3 : Int))), Value.bool (decide ((↑(pickN a.kd (8 : Nat)) : Int) = (2 : Int))), Value.bool (decide ((↑(pickN a.kd (8 : Nat)) : Int) = (3 : Int))), tu, tu, tu, tu, tu, tu, tu, tu, tu, tu, tu, tu, tu, tu, tu, tu, tu, tu, tu, tu, tu, tu, tu, tu, tu, tu, tu, tu, tu, tu, tu, tu, tu, tu, tu, tu, tu, tu, tu, tu, tu, tu, Value.bool (decide ((↑(pickN a.kd (8 : Nat)) : Int) = (4 : Int))), Value.bool (decide ((↑(pickN a.kd (8 : Nat)) : Int) = (4 : Int))), pv xb1 1, Value.slice hh.la hh.les.length hh.lc, iv (↑hh.les.length : Int), Value.bool (decide ((↑hh.les.length : Int) = (0 : Int))), tu, pv p 0, pv xb1 0, iv (↑hh.id : Int), pv xb1 1, Value.slice hh.la hh.les.length hh.lc, iv (↑k : Int), Value.pointer (some (Addr.mk (blk hh.la) (offA hh.la + k * (3 : Nat)) none)), Value.pointer (some (Addr.mk (blk hh.la) (offA hh.la + k * (3 : Nat)) none)), iv (hh.les.getD k default).fst, iv 0, tu, tu, tu, tu, tu, tu, tu, tu, tu, tu, tu, tu, tu, tu, tu, tu, tu, tu, tu, tu, tu, tu, tu, tu, tu, tu, tu, tu, tu, tu, tu, tu, tu, tu, tu, tu, tu, tu, tu, tu, tu, tu, tu, tu, tu, tu, tu, tu, tu, tu, tu, tu, tu, tu, tu, tu, tu, tu, tu, tu, tu, tu, tu, tu] : List Value).getD j9 undef) (by kernel_rfl) (by kernel_rfl) ?_ ?_)
  · refine ⟨Nat.zero_le _, ?_, ?_⟩
    · simp
    · simp
  rintro ⟨⟨i, ⟨la, lc, l⟩, ⟨ba, bc, b⟩⟩, J⟩ hi ih
  obtain ⟨hi, hL, hB⟩ := hi
  dsimp only at hi hL hB
  (focus
    refine Xg.At.same (T' := [pv p 0, Value.agg #[iv (↑hh.id : Int), Value.slice hh.la hh.les.length hh.lc, Value.slice hh.ba hh.Z.length hh.bc], Value.agg #[iv a.kd, iv a.wh, iv a.sz, iv a.pk, iv a.ap, iv a.bt], iv q, tu, pv xb1 0, pv xb2 0, tu, pv xb3 0, Value.bool false, iv (↑k : Int), tu, tu, tu, tu, tu, tu, tu, tu, iv 0, Value.slice la l.length lc, Value.slice ba b.length bc, iv (↑i : Int), tu, tu, tu, tu, tu, pv xb1 1, Value.slice hh.la hh.les.length hh.lc, iv (↑hh.les.length : Int), Value.bool (decide ((↑hh.les.length : Int) > (0 : Int))), pv xb2 3, iv a.pk, pv xb1 1, Value.slice hh.la hh.les.length hh.lc, iv (↑hh.les.length : Int), iv (↑k : Int), pv xb2 0, iv a.kd, iv (↑(pickN a.kd (8 : Nat)) : Int), Value.bool (decide ((↑(pickN a.kd (8 : Nat)) : Int) = (1 : Int))), Value.bool (decide ((↑(pickN a.kd (8 : Nat)) : Int) = (0 : Int))), Value.bool (decide ((↑(pickN a.kd (8 : Nat)) : Int) = (1 : Int))), tu, tu, tu, tu, tu, tu, tu, tu, tu, tu, tu, tu, tu, tu, tu, tu, tu, tu, tu, tu, tu, tu, tu, tu, tu, tu, tu, tu, tu, tu, tu, tu, tu, tu, tu, tu, tu, tu, tu, tu, tu, tu, tu, tu, tu, tu, tu, tu, tu, tu, tu, tu, tu, tu, tu, tu, tu, tu, tu, tu, tu, tu, tu, tu, tu, tu, tu, tu, tu, tu, tu, tu, tu, tu, tu, tu, tu, Value.bool (decide ((↑(pickN a.kd (8 : Nat)) : Int) = (3 : Int))), Value.bool (decide ((↑(pickN a.kd (8 : Nat)) : Int) = (2 : Int))), Value.bool (decide ((↑(pickN a.kd (8 : Nat)) : Int) = (3 : Int))), tu, tu, tu, tu, tu, tu, tu, tu, tu, tu, tu, tu, tu, tu, tu, tu, tu, tu, tu, tu, tu, tu, tu, tu, tu, tu, tu, tu, tu, tu, tu, tu, tu, tu, tu, tu, tu, tu, tu, tu, tu, tu, Value.bool (decide ((↑(pickN a.kd (8 : Nat)) : Int) = (4 : Int))), Value.bool (decide ((↑(pickN a.kd (8 : Nat)) : Int) = (4 : Int))), pv xb1 1, Value.slice hh.la hh.les.length hh.lc, iv (↑hh.les.length : Int), Value.bool (decide ((↑hh.les.length : Int) = (0 : Int))), tu, pv p 0, pv xb1 0, iv (↑hh.id : Int), pv xb1 1, Value.slice hh.la hh.les.length hh.lc, iv (↑k : Int), Value.pointer (some (Addr.mk (blk hh.la) (offA hh.la + k * (3 : Nat)) none)), Value.pointer (some (Addr.mk (blk hh.la) (offA hh.la + k * (3 : Nat)) none)), iv (hh.les.getD k default).fst, iv 0, ((i, (la, lc, l), ba, bc, b), J).snd (183 : Nat), ((i, (la, lc, l), ba, bc, b), J).snd (184 : Nat), ((i, (la, lc, l), ba, bc, b), J).snd (185 : Nat), ((i, (la, lc, l), ba, bc, b), J).snd (186 : Nat), ((i, (la, lc, l), ba, bc, b), J).snd (187 : Nat), ((i, (la, lc, l), ba, bc, b), J).snd (188 : Nat), ((i, (la, lc, l), ba, bc, b), J).snd (189 : Nat), ((i, (la, lc, l), ba, bc, b), J).snd (190 : Nat), ((i, (la, lc, l), ba, bc, b), J).snd (191 : Nat), ((i, (la, lc, l), ba, bc, b), J).snd (192 : Nat), ((i, (la, lc, l), ba, bc, b), J).snd (193 : Nat), ((i, (la, lc, l), ba, bc, b), J).snd (194 : Nat), ((i, (la, lc, l), ba, bc, b), J).snd (195 : Nat), ((i, (la, lc, l), ba, bc, b), J).snd (196 : Nat), ((i, (la, lc, l), ba, bc, b), J).snd (197 : Nat), ((i, (la, lc, l), ba, bc, b), J).snd (198 : Nat), ((i, (la, lc, l), ba, bc, b), J).snd (199 : Nat), ((i, (la, lc, l), ba, bc, b), J).snd (200 : Nat), ((i, (la, lc, l), ba, bc, b), J).snd (201 : Nat), ((i, (la, lc, l), ba, bc, b), J).snd (202 : Nat), ((i, (la, lc, l), ba, bc, b), J).snd (203 : Nat), ((i, (la, lc, l), ba, bc, b), J).snd (204 : Nat), ((i, (la, lc, l), ba, bc, b), J).snd (205 : Nat), ((i, (la, lc, l), ba, bc, b), J).snd (206 : Nat), ((i, (la, lc, l), ba, bc, b), J).snd (207 : Nat), ((i, (la, lc, l), ba, bc, b), J).snd (208 : Nat), tu, tu, tu, tu, tu, tu, tu, tu, tu, tu, tu, tu, tu, tu, tu, tu, tu, tu, tu, tu, tu, tu, tu, tu, tu, tu, tu, tu, tu, tu, tu, tu, tu, tu, tu, tu, tu, tu]) (L' := [PoolS p τ, LeP hh, BhP hh, row xb1 (62 : TypeId) (hdK hh), row xb3 (62 : TypeId) [iv 0, Value.slice none (0 : Nat) (0 : Nat), Value.slice none (0 : Nat) (0 : Nat)], recsO (42 : Nat) (3 : Nat) leK ((i, (la, lc, l), ba, bc, b), J).fst.snd.fst.fst ((i, (la, lc, l), ba, bc, b), J).fst.snd.fst.snd.fst ((i, (la, lc, l), ba, bc, b), J).fst.snd.fst.snd.snd, recsO (40 : Nat) (1 : Nat) bhK ((i, (la, lc, l), ba, bc, b), J).fst.snd.snd.fst ((i, (la, lc, l), ba, bc, b), J).fst.snd.snd.snd.fst ((i, (la, lc, l), ba, bc, b), J).fst.snd.snd.snd.snd]) (by kernel_rfl) rfl ?_)
  by_cases hlt : i < hh.les.length
  · have e1 := er_one default hh.les k i hlt
    have e2 := er_one default hh.Z k i (by omega)
    rw [← hL] at e1
    rw [← hB] at e2
    have hll : l.length ≤ i := by rw [hL]; exact Nat.le_trans (List.length_eraseIdx_le _ _) (by rw [List.length_take]; omega)
    have hbl : b.length ≤ i := by rw [hB]; exact Nat.le_trans (List.length_eraseIdx_le _ _) (by rw [List.length_take]; omega)
    have hiZ : i < hh.Z.length := by omega
    by_cases hik : i = k
    · rw [if_pos hik] at e1 e2
      (focus
        refine Xg.at_seq ?_
        refine Xg.at_seq ?_
        refine Xg.at_region ?_
        refine Xg.ops_op (by kernel_rfl) (Xg.opx_pure ((iv (↑i : Int))) rfl (fun _ => by kernel_rfl) ?_)
        refine Xg.ops_op (by kernel_rfl) (Xg.opx_pure ((pv xb1 1)) rfl (fun _ => by kernel_rfl) ?_)
        refine Xg.ops_op (by kernel_rfl) (Xg.opx_load (b := xb1) (off := ((1 : Nat))) 3 (Value.slice hh.la hh.les.length hh.lc) rfl (by kernel_rfl) (by kernel_rfl) (by kernel_rfl) ?_)
        refine Xg.ops_op (by kernel_rfl) (Xg.opx_pure ((iv (↑hh.les.length : Int))) rfl (fun _ => by kernel_rfl) ?_)
        refine Xg.ops_op (by kernel_rfl) (Xg.opx_pure (.bool (decide ((((↑i : Int)) : Int) < ((↑hh.les.length : Int))))) rfl (fun _ => by kernel_rfl) ?_)
        refine Xg.ops_nil ?_
        refine Xg.at_true (t := decide (((↑i : Int) < (↑hh.les.length : Int)))) (by kernel_rfl) (decide_eq_true (by omega)) ?_
        refine Xg.at_skip ?_
        refine Xg.at_seq ?_
        refine Xg.at_block ?_
        refine Xg.at_seq ?_
        refine Xg.at_region ?_
        refine Xg.ops_op (by kernel_rfl) (Xg.opx_pure ((iv (↑i : Int))) rfl (fun _ => by kernel_rfl) ?_)
        refine Xg.ops_op (by kernel_rfl) (Xg.opx_pure ((iv (↑k : Int))) rfl (fun _ => by kernel_rfl) ?_)
        refine Xg.ops_op (by kernel_rfl) (Xg.opx_pure (.bool (!decide ((((↑i : Int)) : Int) = ((↑k : Int))))) rfl (fun _ => by kernel_rfl) ?_)
        refine Xg.ops_nil ?_
        refine Xg.at_false (t := !decide (((↑i : Int) = (↑k : Int)))) (by kernel_rfl) (by rw [decide_eq_true (by omega)]; rfl) ?_
        refine Xg.at_skip ?_
        refine Xg.at_inBlock ?_
        refine Xg.at_region ?_
        refine Xg.ops_op (by kernel_rfl) (Xg.opx_pure ((iv (↑i : Int))) rfl (fun _ => by kernel_rfl) ?_)
        refine Xg.ops_op (by kernel_rfl) (Xg.opx_int .i64 (IntKind.wrap .i64 (((↑i : Int) + (1 : Int)))) rfl (fun _ => by kernel_rfl) (Xg.wrap_i64_in (by omega)) ?_)
        refine Xg.ops_op (by kernel_rfl) (Xg.opx_pure ((iv ((↑i : Int) + (1 : Int)))) rfl (fun _ => by kernel_rfl) ?_)
        refine Xg.ops_nil ?_
        refine Xg.at_inLoop ?_)
      (focus
        refine Xg.at_keep [0, 1, 2, 3, 4, 5, 6] (by kernel_rfl) ?_
        refine Xs.same ?_ (fun J9 => ih (((i + 1, (la, lc, l), (ba, bc, b))), J9) ?_ ?_) (by kernel_rfl))
      · rfl
      · exact ⟨hlt, e1.symm, e2.symm⟩
      · dsimp only; omega
    · rw [if_neg hik] at e1 e2
      (focus
        refine Xg.at_seq ?_
        refine Xg.at_seq ?_
        refine Xg.at_region ?_
        refine Xg.ops_op (by kernel_rfl) (Xg.opx_pure ((iv (↑i : Int))) rfl (fun _ => by kernel_rfl) ?_)
        refine Xg.ops_op (by kernel_rfl) (Xg.opx_pure ((pv xb1 1)) rfl (fun _ => by kernel_rfl) ?_)
        refine Xg.ops_op (by kernel_rfl) (Xg.opx_load (b := xb1) (off := ((1 : Nat))) 3 (Value.slice hh.la hh.les.length hh.lc) rfl (by kernel_rfl) (by kernel_rfl) (by kernel_rfl) ?_)
        refine Xg.ops_op (by kernel_rfl) (Xg.opx_pure ((iv (↑hh.les.length : Int))) rfl (fun _ => by kernel_rfl) ?_)
        refine Xg.ops_op (by kernel_rfl) (Xg.opx_pure (.bool (decide ((((↑i : Int)) : Int) < ((↑hh.les.length : Int))))) rfl (fun _ => by kernel_rfl) ?_)
        refine Xg.ops_nil ?_
        refine Xg.at_true (t := decide (((↑i : Int) < (↑hh.les.length : Int)))) (by kernel_rfl) (decide_eq_true (by omega)) ?_
        refine Xg.at_skip ?_
        refine Xg.at_seq ?_
        refine Xg.at_block ?_
        refine Xg.at_seq ?_
        refine Xg.at_region ?_
        refine Xg.ops_op (by kernel_rfl) (Xg.opx_pure ((iv (↑i : Int))) rfl (fun _ => by kernel_rfl) ?_)
        refine Xg.ops_op (by kernel_rfl) (Xg.opx_pure ((iv (↑k : Int))) rfl (fun _ => by kernel_rfl) ?_)
        refine Xg.ops_op (by kernel_rfl) (Xg.opx_pure (.bool (!decide ((((↑i : Int)) : Int) = ((↑k : Int))))) rfl (fun _ => by kernel_rfl) ?_)
        refine Xg.ops_nil ?_
        refine Xg.at_true (t := !decide (((↑i : Int) = (↑k : Int)))) (by kernel_rfl) (by rw [decide_eq_false (by omega)]; rfl) ?_
        refine Xg.at_seq ?_
        refine Xg.at_region ?_
        refine Xg.ops_op (by kernel_rfl) (Xg.opx_pure ((Value.slice la l.length lc)) rfl (fun _ => by kernel_rfl) ?_)
        refine Xg.ops_op (by kernel_rfl) (Xg.opx_pure ((pv xb1 1)) rfl (fun _ => by kernel_rfl) ?_)
        refine Xg.ops_op (by kernel_rfl) (Xg.opx_load (b := xb1) (off := ((1 : Nat))) 3 (Value.slice hh.la hh.les.length hh.lc) rfl (by kernel_rfl) (by kernel_rfl) (by kernel_rfl) ?_)
        refine Xg.ops_op (by kernel_rfl) (Xg.opx_pure ((iv (↑i : Int))) rfl (fun _ => by kernel_rfl) ?_)
        refine Xg.ops_op (by kernel_rfl) (Xg.opx_ix_own (elem := 42) (kd := .i64) (e := ((↑i : Int))) 1 3 i (i * (3 : Nat)) rfl (by kernel_rfl) (by kernel_rfl) (by kernel_rfl) (by kernel_rfl) rfl (by omega) (by omega) ?_)
        refine Xg.ops_op (by kernel_rfl) (Xg.opx_loadn_own (a := hh.la) (off := (i * (3 : Nat))) 3 1 [iv (hh.les.getD i default).fst, iv (hh.les.getD i default).snd.fst, iv (hh.les.getD i default).snd.snd] (by kernel_rfl) rfl (by kernel_rfl) rfl (Xg.recs_at' (wd := 3) (fun _ => rfl) default i (by omega) (by omega) (by kernel_rfl)) (by kernel_rfl) ?_)
        refine Xg.ops_op (by kernel_rfl) (Xg.opx_bs (elem := 42) 3 [Value.agg #[iv (hh.les.getD i default).fst, iv (hh.les.getD i default).snd.fst, iv (hh.les.getD i default).snd.snd]] [iv (hh.les.getD i default).fst, iv (hh.les.getD i default).snd.fst, iv (hh.les.getD i default).snd.snd] (by kernel_rfl) (by kernel_rfl) (by decide) rfl (by kernel_rfl) (by kernel_rfl) (by kernel_rfl) (by kernel_rfl) fun xb4 => ?_)
        refine Xg.ops_op (by kernel_rfl) (Xg.opx_append_recs (elem := 42) (yv := (Value.slice (some (Addr.mk xb4 (0 : Nat) none)) (1 : Nat) (1 : Nat))) (l := (((i, (la, lc, l), ba, bc, b), J).fst.snd.fst.snd.snd)) 6 3 96 (((hh.les.getD i default).fst, (hh.les.getD i default).snd.fst, (hh.les.getD i default).snd.snd)) rfl (by kernel_rfl) (by kernel_rfl) (by kernel_rfl) (by kernel_rfl) (fun _ hS => Xg.row_rd hS 0 rfl (by kernel_rfl)) (by kernel_rfl) (by first | omega | (simp only [List.length_nil]; omega) | (simp; done) | (simp; omega)) (by first | omega | (simp only [List.length_nil]; omega) | (simp; done) | (simp; omega)) fun xa1 xc1 => ?_)
        have xl1 : (((((i, (la, lc, l), ba, bc, b), J).fst.snd.fst.snd.snd) : (List (Int × Int × Int))) ++ ([(((hh.les.getD i default).fst, (hh.les.getD i default).snd.fst, (hh.les.getD i default).snd.snd))] : (List (Int × Int × Int)))).length = ((((i, (la, lc, l), ba, bc, b), J).fst.snd.fst.snd.snd) : (List (Int × Int × Int))).length + 1 := by simp
        refine Xg.ops_op (by kernel_rfl) (Xg.opx_pure ((Value.slice xa1 (l ++ [((hh.les.getD i default).fst, (hh.les.getD i default).snd.fst, (hh.les.getD i default).snd.snd)]).length xc1)) rfl (fun _ => by kernel_rfl) ?_)
        refine Xg.ops_nil ?_
        refine Xg.at_region ?_
        refine Xg.ops_op (by kernel_rfl) (Xg.opx_pure ((Value.slice ba b.length bc)) rfl (fun _ => by kernel_rfl) ?_)
        refine Xg.ops_op (by kernel_rfl) (Xg.opx_pure ((pv xb1 2)) rfl (fun _ => by kernel_rfl) ?_)
        refine Xg.ops_op (by kernel_rfl) (Xg.opx_load (b := xb1) (off := ((2 : Nat))) 4 (Value.slice hh.ba hh.Z.length hh.bc) rfl (by kernel_rfl) (by kernel_rfl) (by kernel_rfl) ?_)
        refine Xg.ops_op (by kernel_rfl) (Xg.opx_pure ((iv (↑i : Int))) rfl (fun _ => by kernel_rfl) ?_)
        refine Xg.ops_op (by kernel_rfl) (Xg.opx_ix_own (elem := 40) (kd := .i64) (e := ((↑i : Int))) 3 1 i i rfl (by kernel_rfl) (by kernel_rfl) (by kernel_rfl) (by kernel_rfl) rfl (by omega) (by omega) ?_)
        refine Xg.ops_op (by kernel_rfl) (Xg.opx_load_own (a := hh.ba) (off := i) 3 (Value.slice (hh.Z.getD i default).fst (hh.Z.getD i default).snd.length (hh.Z.getD i default).snd.length) rfl (by kernel_rfl) (Xg.get_recs' (wd := 1) (fun _ => rfl) default i 0 (by omega) (by decide) (by omega) (by kernel_rfl)) (by kernel_rfl) ?_)
        refine Xg.ops_op (by kernel_rfl) (Xg.opx_bs (elem := 40) 1 [Value.slice (hh.Z.getD i default).fst (hh.Z.getD i default).snd.length (hh.Z.getD i default).snd.length] [Value.slice (hh.Z.getD i default).fst (hh.Z.getD i default).snd.length (hh.Z.getD i default).snd.length] (by kernel_rfl) (by kernel_rfl) (by decide) rfl (by kernel_rfl) (by kernel_rfl) (by kernel_rfl) (by kernel_rfl) fun xb5 => ?_)
        refine Xg.ops_op (by kernel_rfl) (Xg.opx_append_recs (elem := 40) (yv := (Value.slice (some (Addr.mk xb5 (0 : Nat) none)) (1 : Nat) (1 : Nat))) (l := (((i, (la, lc, l), ba, bc, b), J).fst.snd.snd.snd.snd)) 8 1 32 (((hh.Z.getD i default).fst, (hh.Z.getD i default).snd)) rfl (by kernel_rfl) (by kernel_rfl) (by kernel_rfl) (by kernel_rfl) (fun _ hS => Xg.row_rd hS 0 rfl (by kernel_rfl)) (by kernel_rfl) (by first | omega | (simp only [List.length_nil]; omega) | (simp; done) | (simp; omega)) (by first | omega | (simp only [List.length_nil]; omega) | (simp; done) | (simp; omega)) fun xa2 xc2 => ?_)
        have xl2 : (((((i, (la, lc, l), ba, bc, b), J).fst.snd.snd.snd.snd) : (List (Option Addr × List Int))) ++ ([(((hh.Z.getD i default).fst, (hh.Z.getD i default).snd))] : (List (Option Addr × List Int)))).length = ((((i, (la, lc, l), ba, bc, b), J).fst.snd.snd.snd.snd) : (List (Option Addr × List Int))).length + 1 := by simp
        refine Xg.ops_op (by kernel_rfl) (Xg.opx_pure ((Value.slice xa2 (b ++ [((hh.Z.getD i default).fst, (hh.Z.getD i default).snd)]).length xc2)) rfl (fun _ => by kernel_rfl) ?_)
        refine Xg.ops_nil ?_
        refine Xg.at_inBlock ?_
        refine Xg.at_region ?_
        refine Xg.ops_op (by kernel_rfl) (Xg.opx_pure ((iv (↑i : Int))) rfl (fun _ => by kernel_rfl) ?_)
        refine Xg.ops_op (by kernel_rfl) (Xg.opx_int .i64 (IntKind.wrap .i64 (((↑i : Int) + (1 : Int)))) rfl (fun _ => by kernel_rfl) (Xg.wrap_i64_in (by omega)) ?_)
        refine Xg.ops_op (by kernel_rfl) (Xg.opx_pure ((iv ((↑i : Int) + (1 : Int)))) rfl (fun _ => by kernel_rfl) ?_)
        refine Xg.ops_nil ?_
        refine Xg.at_inLoop ?_)
      (focus
        refine Xg.at_keep [2, 3, 4, 5, 6, 7, 8] (by kernel_rfl) ?_
        refine Xs.same ?_ (fun J9 => ih (((i + 1, (xa1, xc1, l ++ [hh.les.getD i default]), (xa2, xc2, b ++ [hh.Z.getD i default]))), J9) ?_ ?_) (by kernel_rfl))
      · rfl
      · exact ⟨hlt, e1.symm, e2.symm⟩
      · dsimp only; omega
  · obtain rfl : i = hh.les.length := by omega
    clear ih
    rw [List.take_length] at hL
    rw [← hZ, List.take_length] at hB
    subst hL hB
    (focus
      refine Xg.at_seq ?_
      refine Xg.at_seq ?_
      refine Xg.at_region ?_
      refine Xg.ops_op (by kernel_rfl) (Xg.opx_pure ((iv (↑hh.les.length : Int))) rfl (fun _ => by kernel_rfl) ?_)
      refine Xg.ops_op (by kernel_rfl) (Xg.opx_pure ((pv xb1 1)) rfl (fun _ => by kernel_rfl) ?_)
      refine Xg.ops_op (by kernel_rfl) (Xg.opx_load (b := xb1) (off := ((1 : Nat))) 3 (Value.slice hh.la hh.les.length hh.lc) rfl (by kernel_rfl) (by kernel_rfl) (by kernel_rfl) ?_)
      refine Xg.ops_op (by kernel_rfl) (Xg.opx_pure ((iv (↑hh.les.length : Int))) rfl (fun _ => by kernel_rfl) ?_)
      refine Xg.ops_op (by kernel_rfl) (Xg.opx_pure (.bool (decide ((((↑hh.les.length : Int)) : Int) < ((↑hh.les.length : Int))))) rfl (fun _ => by kernel_rfl) ?_)
      refine Xg.ops_nil ?_
      refine Xg.at_false (t := decide (((↑hh.les.length : Int) < (↑hh.les.length : Int)))) (by kernel_rfl) (decide_eq_false (by omega)) ?_
      refine Xg.at_exit rfl ?_
      refine Xg.at_seq ?_
      refine Xg.at_region ?_
      refine Xg.ops_op (by kernel_rfl) (Xg.opx_pure ((Value.slice la (hh.les.eraseIdx k).length lc)) rfl (fun _ => by kernel_rfl) ?_)
      refine Xg.ops_op (by kernel_rfl) (Xg.opx_pure ((pv xb1 1)) rfl (fun _ => by kernel_rfl) ?_)
      refine Xg.ops_op (by kernel_rfl) (Xg.opx_store1 (off := 1) 3 (Value.slice la (hh.les.eraseIdx k).length lc) (by kernel_rfl) rfl (by kernel_rfl) (by kernel_rfl) (by kernel_rfl) (Nat.le_of_ble_eq_true (by kernel_rfl)) ?_)
      refine Xg.ops_nil ?_
      refine Xg.at_seq ?_
      refine Xg.at_region ?_
      refine Xg.ops_op (by kernel_rfl) (Xg.opx_pure ((Value.slice ba (hh.Z.eraseIdx k).length bc)) rfl (fun _ => by kernel_rfl) ?_)
      refine Xg.ops_op (by kernel_rfl) (Xg.opx_pure ((pv xb1 2)) rfl (fun _ => by kernel_rfl) ?_)
      refine Xg.ops_op (by kernel_rfl) (Xg.opx_store1 (off := 2) 3 (Value.slice ba (hh.Z.eraseIdx k).length bc) (by kernel_rfl) rfl (by kernel_rfl) (by kernel_rfl) (by kernel_rfl) (Nat.le_of_ble_eq_true (by kernel_rfl)) ?_)
      refine Xg.ops_nil ?_
      refine Xg.at_seq ?_
      refine Xg.at_region ?_
      refine Xg.ops_op (by kernel_rfl) (Xg.opx_loadn (off := 0) 3 3 [iv (↑hh.id : Int), Value.slice la (hh.les.eraseIdx k).length lc, Value.slice ba (hh.Z.eraseIdx k).length bc] (by kernel_rfl) rfl (by kernel_rfl) rfl (Xg.cells_at (by kernel_rfl)) (by kernel_rfl) ?_)
      refine Xg.ops_op (by kernel_rfl) (Xg.opx_pure ((iv 0)) rfl (fun _ => by kernel_rfl) ?_)
      refine Xg.ops_op (by kernel_rfl) (Xg.opx_pure ((Value.bool true)) rfl (fun _ => by kernel_rfl) ?_)
      refine Xg.ops_op (by kernel_rfl) (Xg.opx_storen 3 (off := 0) 4 [iv (↑hh.id : Int), Value.slice la (hh.les.eraseIdx k).length lc, Value.slice ba (hh.Z.eraseIdx k).length bc] (by kernel_rfl) rfl (by kernel_rfl) (by kernel_rfl) rfl (by kernel_rfl) (Nat.le_of_ble_eq_true (by kernel_rfl)) ?_)
      refine Xg.ops_op (by kernel_rfl) (Xg.opx_pure ((Value.bool true)) rfl (fun _ => by kernel_rfl) ?_)
      refine Xg.ops_nil ?_
      refine Xg.at_ret_feed (v := (Value.tuple #[Value.agg #[iv (↑hh.id : Int), Value.slice la (hh.les.eraseIdx k).length lc, Value.slice ba (hh.Z.eraseIdx k).length bc], Value.bool true])) [(Addr.mk xb3 (0 : Nat) none), (Addr.mk xb3 (1 : Nat) none), (Addr.mk xb3 (2 : Nat) none)] [iv (↑hh.id : Int), Value.slice la (hh.les.eraseIdx k).length lc, Value.slice ba (hh.Z.eraseIdx k).length bc] [0, 5, 6] [PoolS p τ, recsO (42 : Nat) (3 : Nat) leK la lc (hh.les.eraseIdx k), recsO (40 : Nat) (1 : Nat) bhK ba bc (hh.Z.eraseIdx k)] Go.Proofs.Try.func25 (by kernel_rfl) (Xg.cells_cons (b := xb3) (off := 0) 4 rfl (by kernel_rfl) (Xg.cells_cons (b := xb3) (off := 1) 4 rfl (by kernel_rfl) (Xg.cells_cons (b := xb3) (off := 2) 4 rfl (by kernel_rfl) Xg.cells_nil))) (by kernel_rfl) (by kernel_rfl) ?_
      refine ⟨(((la, lc), ba, bc)), trivial, by kernel_rfl, by kernel_rfl⟩)
end Go.Proofs.Ytmplimmcjdkhlaa

/- The arena laws: acts: Close, and Open. -/
namespace Go.Proofs.Ytmplimmcjdkhlaa
open Go.Sl Go.Xg
set_option linter.unusedVariables false
set_option linter.unusedSimpArgs false
set_option linter.unnecessarySimpa false
set_option maxHeartbeats 4000000
set_option maxRecDepth 100000

theorem acts_close (p : Nat) (σ τ ρ : Po) (x : HdV) (a : Ac) (ha : Acok a) (q : Int) (hl5 : Lok5 x.les) (hk : pickN a.kd 8 = 5) (us : Int) (hus : sizeL x.les = us)
    (hc : Does Try.prog 15 [.pointer (some ⟨p, 0, none⟩), .int .i64 (x.id : Nat)] [PoolS p σ] (Ret (.tuple #[.int .i64 us, .int .i64 0]) [PoolS p τ]))
    (ho : Does Try.prog 16 [.pointer (some ⟨p, 0, none⟩), .int .i64 q] [PoolS p τ] (Ret (.tuple #[.int .i64 (x.id : Nat), .int .i64 0]) [PoolS p ρ])) :
    Does Try.prog 25 [.pointer (some ⟨p, 0, none⟩), hdV x, acV a, .int .i64 q] [PoolS p σ, LeP x, BhP x]
    (Ret (.tuple #[.agg #[.int .i64 (x.id : Nat), .slice none 0 0, .slice none 0 0], .bool true]) [PoolS p ρ]) := by
  obtain ⟨a1, a2, a3, a4, a5, a6⟩ := id ha
  have hl50 := hl5.1
  have hp8 := pick_r a.kd 8 a1 (by decide)
  have hsd := fun id aa c bv => size_d id aa c bv x.les hl5
  rw [hus] at hsd
  (focus
    refine Xg.spec_of Go.Proofs.Try.func25 rfl Go.Proofs.Try.ntmps25 fun g F => ?_)
  (focus
    refine Xg.at_seq ?_
    refine Xg.at_region ?_
    refine Xg.ops_op (by kernel_rfl) (Xg.opx_box (v := (Value.agg #[iv (↑x.id : Int), Value.slice x.la x.les.length x.lc, Value.slice x.ba x.Z.length x.bc])) [iv (↑x.id : Int), Value.slice x.la x.les.length x.lc, Value.slice x.ba x.Z.length x.bc] (by kernel_rfl) (by kernel_rfl) fun xb1 => ?_)
    refine Xg.ops_op (by kernel_rfl) (Xg.opx_box (v := (Value.agg #[iv a.kd, iv a.wh, iv a.sz, iv a.pk, iv a.ap, iv a.bt])) [iv a.kd, iv a.wh, iv a.sz, iv a.pk, iv a.ap, iv a.bt] (by kernel_rfl) (by kernel_rfl) fun xb2 => ?_)
    refine Xg.ops_op (by kernel_rfl) (Xg.opx_new 3 [iv 0, Value.slice none (0 : Nat) (0 : Nat), Value.slice none (0 : Nat) (0 : Nat)] (by kernel_rfl) (by kernel_rfl) fun xb3 => ?_)
    refine Xg.ops_op (by kernel_rfl) (Xg.opx_pure ((Value.bool false)) rfl (fun _ => by kernel_rfl) ?_)
    refine Xg.ops_nil ?_
    refine Xg.at_seq ?_
    refine Xg.at_region ?_
    refine Xg.ops_op (by kernel_rfl) (Xg.opx_pure ((iv 0)) rfl (fun _ => by kernel_rfl) ?_)
    refine Xg.ops_nil ?_
    refine Xg.at_seq ?_
    refine Xg.at_seq ?_
    refine Xg.at_region ?_
    refine Xg.ops_op (by kernel_rfl) (Xg.opx_pure ((pv xb1 1)) rfl (fun _ => by kernel_rfl) ?_)
    refine Xg.ops_op (by kernel_rfl) (Xg.opx_load (b := xb1) (off := ((1 : Nat))) 2 (Value.slice x.la x.les.length x.lc) rfl (by kernel_rfl) (by kernel_rfl) (by kernel_rfl) ?_)
    refine Xg.ops_op (by kernel_rfl) (Xg.opx_pure ((iv (↑x.les.length : Int))) rfl (fun _ => by kernel_rfl) ?_)
    refine Xg.ops_op (by kernel_rfl) (Xg.opx_pure (.bool (decide ((((↑x.les.length : Int)) : Int) > ((0 : Int))))) rfl (fun _ => by kernel_rfl) ?_)
    refine Xg.ops_nil ?_)
  (focus
    refine Xg.at_cut (α := (Nat) × (Nat → Value)) (fun x9 => ((fun k => k = kOf a x.les.length) : (Nat) → Prop) x9.1) (fun x9 => Xg.headT [pv p 0, Value.agg #[iv (↑x.id : Int), Value.slice x.la x.les.length x.lc, Value.slice x.ba x.Z.length x.bc], Value.agg #[iv a.kd, iv a.wh, iv a.sz, iv a.pk, iv a.ap, iv a.bt], iv q, tu, pv xb1 0, pv xb2 0, tu, pv xb3 0, Value.bool false, iv 0, tu, tu, tu, tu, tu, tu, tu, tu, tu, tu, tu, tu, tu, tu, tu, tu, tu, pv xb1 1, Value.slice x.la x.les.length x.lc, iv (↑x.les.length : Int), Value.bool (decide ((↑x.les.length : Int) > (0 : Int))), tu, tu, tu, tu, tu, tu, tu, tu, tu, tu, tu, tu, tu, tu, tu, tu, tu, tu, tu, tu, tu, tu, tu, tu, tu, tu, tu, tu, tu, tu, tu, tu, tu, tu, tu, tu, tu, tu, tu, tu, tu, tu, tu, tu, tu, tu, tu, tu, tu, tu, tu, tu, tu, tu, tu, tu, tu, tu, tu, tu, tu, tu, tu, tu, tu, tu, tu, tu, tu, tu, tu, tu, tu, tu, tu, tu, tu, tu, tu, tu, tu, tu, tu, tu, tu, tu, tu, tu, tu, tu, tu, tu, tu, tu, tu, tu, tu, tu, tu, tu, tu, tu, tu, tu, tu, tu, tu, tu, tu, tu, tu, tu, tu, tu, tu, tu, tu, tu, tu, tu, tu, tu, tu, tu, tu, tu, tu, tu, tu, tu, tu, tu, tu, tu, tu, tu, tu, tu, tu, tu, tu, tu, tu, tu, tu, tu, tu, tu, tu, tu, tu, tu, tu, tu, tu, tu, tu, tu, tu, tu, tu, tu, tu, tu, tu, tu, tu, tu, tu, tu, tu, tu, tu, tu, tu, tu, tu, tu, tu, tu, tu, tu, tu, tu, tu, tu, tu, tu, tu, tu, tu, tu, tu, tu, tu, tu, tu, tu, tu, tu, tu, tu, tu, tu, tu, tu, tu, tu, tu, tu, tu, tu, tu, tu, tu] [32, 33, 34, 35, 36, 37] (((fun k => [(10, .int .i64 (k : Nat))]) : (Nat) → List (Nat × Go.Value)) x9.1) x9.2) (fun x9 => ((fun k => [PoolS p σ, LeP x, BhP x, row xb1 62 (hdK x), row xb2 59 (acC a), row xb3 62 [.int .i64 0, .slice none 0 0, .slice none 0 0]]) : (Nat) → List Go.Sl.HP) x9.1) (fun kk hk => ?_) ?_)
  · by_cases h0 : 0 < x.les.length
    · have hpk := pick_r a.pk x.les.length a4 h0
      (focus
        refine Xg.at_true (t := decide (((↑x.les.length : Int) > (0 : Int)))) (by kernel_rfl) (decide_eq_true (by omega)) ?_
        refine Xg.at_region ?_
        refine Xg.ops_op (by kernel_rfl) (Xg.opx_pure ((pv xb2 3)) rfl (fun _ => by kernel_rfl) ?_)
        refine Xg.ops_op (by kernel_rfl) (Xg.opx_load (b := xb2) (off := ((3 : Nat))) 1 (iv a.pk) rfl (by kernel_rfl) (by kernel_rfl) (by kernel_rfl) ?_)
        refine Xg.ops_op (by kernel_rfl) (Xg.opx_pure ((pv xb1 1)) rfl (fun _ => by kernel_rfl) ?_)
        refine Xg.ops_op (by kernel_rfl) (Xg.opx_load (b := xb1) (off := ((1 : Nat))) 2 (Value.slice x.la x.les.length x.lc) rfl (by kernel_rfl) (by kernel_rfl) (by kernel_rfl) ?_)
        refine Xg.ops_op (by kernel_rfl) (Xg.opx_pure ((iv (↑x.les.length : Int))) rfl (fun _ => by kernel_rfl) ?_)
        refine Xg.ops_op (by kernel_rfl) (Xg.opx_call1' [] [row xb3 (62 : Nat) [iv 0, Value.slice none (0 : Nat) (0 : Nat), Value.slice none (0 : Nat) (0 : Nat)], row xb2 (59 : Nat) [iv a.kd, iv a.wh, iv a.sz, iv a.pk, iv a.ap, iv a.bt], row xb1 (62 : Nat) [iv (↑x.id : Int), Value.slice x.la x.les.length x.lc, Value.slice x.ba x.Z.length x.bc], PoolS p σ, LeP x, BhP x] (fun _ => by kernel_rfl) (@hpk ) (by kernel_rfl) (by kernel_rfl) (by kernel_rfl) ?_)
        refine Xg.ops_op (by kernel_rfl) (Xg.opx_pure ((iv (↑(pickN a.pk x.les.length) : Int))) rfl (fun _ => by kernel_rfl) ?_)
        refine Xg.ops_nil ?_)
      (focus
        refine Xg.at_keep [3, 4, 5, 2, 1, 0] (by kernel_rfl) ?_
        refine Xg.At.same (by kernel_rfl) ?_ (hk ((pickN a.pk x.les.length), fun j9 => ([pv p 0, Value.agg #[iv (↑x.id : Int), Value.slice x.la x.les.length x.lc, Value.slice x.ba x.Z.length x.bc], Value.agg #[iv a.kd, iv a.wh, iv a.sz, iv a.pk, iv a.ap, iv a.bt], iv q, tu, pv xb1 0, pv xb2 0, tu, pv xb3 0, Value.bool false, iv (↑(pickN a.pk x.les.length) : Int), tu, tu, tu, tu, tu, tu, tu, tu, tu, tu, tu, tu, tu, tu, tu, tu, tu, pv xb1 1, Value.slice x.la x.les.length x.lc, iv (↑x.les.length : Int), Value.bool (decide ((↑x.les.length : Int) > (0 : Int))), pv xb2 3, iv a.pk, pv xb1 1, Value.slice x.la x.les.length x.lc, iv (↑x.les.length : Int), iv (↑(pickN a.pk x.les.length) : Int), tu, tu, tu, tu, tu, tu, tu, tu, tu, tu, tu, tu, tu, tu, tu, tu, tu, tu, tu, tu, tu, tu, tu, tu, tu, tu, tu, tu, tu, tu, tu, tu, tu, tu, tu, tu, tu, tu, tu, tu, tu, tu, tu, tu, tu, tu, tu, tu, tu, tu, tu, tu, tu, tu, tu, tu, tu, tu, tu, tu, tu, tu, tu, tu, tu, tu, tu, tu, tu, tu, tu, tu, tu, tu, tu, tu, tu, tu, tu, tu, tu, tu, tu, tu, tu, tu, tu, tu, tu, tu, tu, tu, tu, tu, tu, tu, tu, tu, tu, tu, tu, tu, tu, tu, tu, tu, tu, tu, tu, tu, tu, tu, tu, tu, tu, tu, tu, tu, tu, tu, tu, tu, tu, tu, tu, tu, tu, tu, tu, tu, tu, tu, tu, tu, tu, tu, tu, tu, tu, tu, tu, tu, tu, tu, tu, tu, tu, tu, tu, tu, tu, tu, tu, tu, tu, tu, tu, tu, tu, tu, tu, tu, tu, tu, tu, tu, tu, tu, tu, tu, tu, tu, tu, tu, tu, tu, tu, tu, tu, tu, tu, tu, tu, tu, tu, tu, tu, tu, tu, tu, tu, tu, tu, tu, tu, tu, tu, tu, tu, tu, tu, tu, tu, tu, tu, tu, tu, tu, tu] : List Value).getD j9 undef) ?_))
      · rfl
      · dsimp only; unfold kOf; rw [if_pos h0]
    · (focus
        refine Xg.at_false (t := decide (((↑x.les.length : Int) > (0 : Int)))) (by kernel_rfl) (decide_eq_false (by omega)) ?_
        refine Xg.at_skip ?_)
      (focus
        refine Xg.at_keep [3, 4, 5, 2, 1, 0] (by kernel_rfl) ?_
        refine Xg.At.same (by kernel_rfl) ?_ (hk ((0), fun j9 => ([pv p 0, Value.agg #[iv (↑x.id : Int), Value.slice x.la x.les.length x.lc, Value.slice x.ba x.Z.length x.bc], Value.agg #[iv a.kd, iv a.wh, iv a.sz, iv a.pk, iv a.ap, iv a.bt], iv q, tu, pv xb1 0, pv xb2 0, tu, pv xb3 0, Value.bool false, iv 0, tu, tu, tu, tu, tu, tu, tu, tu, tu, tu, tu, tu, tu, tu, tu, tu, tu, pv xb1 1, Value.slice x.la x.les.length x.lc, iv (↑x.les.length : Int), Value.bool (decide ((↑x.les.length : Int) > (0 : Int))), tu, tu, tu, tu, tu, tu, tu, tu, tu, tu, tu, tu, tu, tu, tu, tu, tu, tu, tu, tu, tu, tu, tu, tu, tu, tu, tu, tu, tu, tu, tu, tu, tu, tu, tu, tu, tu, tu, tu, tu, tu, tu, tu, tu, tu, tu, tu, tu, tu, tu, tu, tu, tu, tu, tu, tu, tu, tu, tu, tu, tu, tu, tu, tu, tu, tu, tu, tu, tu, tu, tu, tu, tu, tu, tu, tu, tu, tu, tu, tu, tu, tu, tu, tu, tu, tu, tu, tu, tu, tu, tu, tu, tu, tu, tu, tu, tu, tu, tu, tu, tu, tu, tu, tu, tu, tu, tu, tu, tu, tu, tu, tu, tu, tu, tu, tu, tu, tu, tu, tu, tu, tu, tu, tu, tu, tu, tu, tu, tu, tu, tu, tu, tu, tu, tu, tu, tu, tu, tu, tu, tu, tu, tu, tu, tu, tu, tu, tu, tu, tu, tu, tu, tu, tu, tu, tu, tu, tu, tu, tu, tu, tu, tu, tu, tu, tu, tu, tu, tu, tu, tu, tu, tu, tu, tu, tu, tu, tu, tu, tu, tu, tu, tu, tu, tu, tu, tu, tu, tu, tu, tu, tu, tu, tu, tu, tu, tu, tu, tu, tu, tu, tu, tu, tu, tu, tu, tu, tu, tu, tu, tu, tu, tu, tu, tu] : List Value).getD j9 undef) ?_))
      · rfl
      · dsimp only; unfold kOf; rw [if_neg h0]
  rintro ⟨k, J⟩ hkk
  dsimp only at hkk
  (focus
    refine Xg.At.same (T' := [pv p 0, Value.agg #[iv (↑x.id : Int), Value.slice x.la x.les.length x.lc, Value.slice x.ba x.Z.length x.bc], Value.agg #[iv a.kd, iv a.wh, iv a.sz, iv a.pk, iv a.ap, iv a.bt], iv q, tu, pv xb1 0, pv xb2 0, tu, pv xb3 0, Value.bool false, iv (↑k : Int), tu, tu, tu, tu, tu, tu, tu, tu, tu, tu, tu, tu, tu, tu, tu, tu, tu, pv xb1 1, Value.slice x.la x.les.length x.lc, iv (↑x.les.length : Int), Value.bool (decide ((↑x.les.length : Int) > (0 : Int))), J 32, J 33, J 34, J 35, J 36, J 37, tu, tu, tu, tu, tu, tu, tu, tu, tu, tu, tu, tu, tu, tu, tu, tu, tu, tu, tu, tu, tu, tu, tu, tu, tu, tu, tu, tu, tu, tu, tu, tu, tu, tu, tu, tu, tu, tu, tu, tu, tu, tu, tu, tu, tu, tu, tu, tu, tu, tu, tu, tu, tu, tu, tu, tu, tu, tu, tu, tu, tu, tu, tu, tu, tu, tu, tu, tu, tu, tu, tu, tu, tu, tu, tu, tu, tu, tu, tu, tu, tu, tu, tu, tu, tu, tu, tu, tu, tu, tu, tu, tu, tu, tu, tu, tu, tu, tu, tu, tu, tu, tu, tu, tu, tu, tu, tu, tu, tu, tu, tu, tu, tu, tu, tu, tu, tu, tu, tu, tu, tu, tu, tu, tu, tu, tu, tu, tu, tu, tu, tu, tu, tu, tu, tu, tu, tu, tu, tu, tu, tu, tu, tu, tu, tu, tu, tu, tu, tu, tu, tu, tu, tu, tu, tu, tu, tu, tu, tu, tu, tu, tu, tu, tu, tu, tu, tu, tu, tu, tu, tu, tu, tu, tu, tu, tu, tu, tu, tu, tu, tu, tu, tu, tu, tu, tu, tu, tu, tu, tu, tu, tu, tu, tu, tu, tu, tu, tu, tu, tu, tu, tu, tu, tu, tu, tu, tu, tu, tu]) (L' := [PoolS p σ, LeP x, BhP x, row xb1 (62 : TypeId) (hdK x), row xb2 (59 : TypeId) (acC a), row xb3 (62 : TypeId) [iv 0, Value.slice none (0 : Nat) (0 : Nat), Value.slice none (0 : Nat) (0 : Nat)]]) (by kernel_rfl) rfl ?_)
  (focus
    refine Xg.at_seq ?_
    refine Xg.at_seq ?_
    refine Xg.at_region ?_
    refine Xg.ops_op (by kernel_rfl) (Xg.opx_pure ((pv xb2 0)) rfl (fun _ => by kernel_rfl) ?_)
    refine Xg.ops_op (by kernel_rfl) (Xg.opx_load (b := xb2) (off := ((0 : Nat))) 4 (iv a.kd) rfl (by kernel_rfl) (by kernel_rfl) (by kernel_rfl) ?_)
    refine Xg.ops_op (by kernel_rfl) (Xg.opx_call1' [] [PoolS p σ, LeP x, BhP x, row xb1 (62 : TypeId) [iv (↑x.id : Int), Value.slice x.la x.les.length x.lc, Value.slice x.ba x.Z.length x.bc], row xb2 (59 : TypeId) [iv a.kd, iv a.wh, iv a.sz, iv a.pk, iv a.ap, iv a.bt], row xb3 (62 : TypeId) [iv 0, Value.slice none (0 : Nat) (0 : Nat), Value.slice none (0 : Nat) (0 : Nat)]] (fun _ => by kernel_rfl) (@hp8 ) (by kernel_rfl) (by kernel_rfl) (by kernel_rfl) ?_)
    refine Xg.ops_nil ?_
    refine Xg.at_block ?_
    refine Xg.at_seq ?_
    refine Xg.at_seq ?_
    refine Xg.at_region ?_
    refine Xg.ops_op (by kernel_rfl) (Xg.opx_pure (.bool (decide ((((↑(pickN a.kd (8 : Nat)) : Int)) : Int) = ((0 : Int))))) rfl (fun _ => by kernel_rfl) ?_)
    refine Xg.ops_op (by kernel_rfl) (Xg.opx_pure ((Value.bool (decide ((↑(pickN a.kd (8 : Nat)) : Int) = (0 : Int))))) rfl (fun _ => by kernel_rfl) ?_)
    refine Xg.ops_nil ?_
    refine Xg.at_false (t := decide (((↑(pickN a.kd (8 : Nat)) : Int) = (0 : Int)))) (by kernel_rfl) (decide_eq_false (by omega)) ?_
    refine Xg.at_region ?_
    refine Xg.ops_op (by kernel_rfl) (Xg.opx_pure (.bool (decide ((((↑(pickN a.kd (8 : Nat)) : Int)) : Int) = ((1 : Int))))) rfl (fun _ => by kernel_rfl) ?_)
    refine Xg.ops_op (by kernel_rfl) (Xg.opx_pure ((Value.bool (decide ((↑(pickN a.kd (8 : Nat)) : Int) = (1 : Int))))) rfl (fun _ => by kernel_rfl) ?_)
    refine Xg.ops_nil ?_
    refine Xg.at_false (t := decide (((↑(pickN a.kd (8 : Nat)) : Int) = (1 : Int)))) (by kernel_rfl) (decide_eq_false (by omega)) ?_
    refine Xg.at_seq ?_
    refine Xg.at_seq ?_
    refine Xg.at_region ?_
    refine Xg.ops_op (by kernel_rfl) (Xg.opx_pure (.bool (decide ((((↑(pickN a.kd (8 : Nat)) : Int)) : Int) = ((2 : Int))))) rfl (fun _ => by kernel_rfl) ?_)
    refine Xg.ops_op (by kernel_rfl) (Xg.opx_pure ((Value.bool (decide ((↑(pickN a.kd (8 : Nat)) : Int) = (2 : Int))))) rfl (fun _ => by kernel_rfl) ?_)
    refine Xg.ops_nil ?_
    refine Xg.at_false (t := decide (((↑(pickN a.kd (8 : Nat)) : Int) = (2 : Int)))) (by kernel_rfl) (decide_eq_false (by omega)) ?_
    refine Xg.at_region ?_
    refine Xg.ops_op (by kernel_rfl) (Xg.opx_pure (.bool (decide ((((↑(pickN a.kd (8 : Nat)) : Int)) : Int) = ((3 : Int))))) rfl (fun _ => by kernel_rfl) ?_)
    refine Xg.ops_op (by kernel_rfl) (Xg.opx_pure ((Value.bool (decide ((↑(pickN a.kd (8 : Nat)) : Int) = (3 : Int))))) rfl (fun _ => by kernel_rfl) ?_)
    refine Xg.ops_nil ?_
    refine Xg.at_false (t := decide (((↑(pickN a.kd (8 : Nat)) : Int) = (3 : Int)))) (by kernel_rfl) (decide_eq_false (by omega)) ?_
    refine Xg.at_seq ?_
    refine Xg.at_region ?_
    refine Xg.ops_op (by kernel_rfl) (Xg.opx_pure (.bool (decide ((((↑(pickN a.kd (8 : Nat)) : Int)) : Int) = ((4 : Int))))) rfl (fun _ => by kernel_rfl) ?_)
    refine Xg.ops_op (by kernel_rfl) (Xg.opx_pure ((Value.bool (decide ((↑(pickN a.kd (8 : Nat)) : Int) = (4 : Int))))) rfl (fun _ => by kernel_rfl) ?_)
    refine Xg.ops_nil ?_
    refine Xg.at_false (t := decide (((↑(pickN a.kd (8 : Nat)) : Int) = (4 : Int)))) (by kernel_rfl) (decide_eq_false (by omega)) ?_
    refine Xg.at_seq ?_
    refine Xg.at_region ?_
    refine Xg.ops_op (by kernel_rfl) (Xg.opx_pure (.bool (decide ((((↑(pickN a.kd (8 : Nat)) : Int)) : Int) = ((5 : Int))))) rfl (fun _ => by kernel_rfl) ?_)
    refine Xg.ops_op (by kernel_rfl) (Xg.opx_pure ((Value.bool (decide ((↑(pickN a.kd (8 : Nat)) : Int) = (5 : Int))))) rfl (fun _ => by kernel_rfl) ?_)
    refine Xg.ops_nil ?_
    refine Xg.at_true (t := decide (((↑(pickN a.kd (8 : Nat)) : Int) = (5 : Int)))) (by kernel_rfl) (decide_eq_true (by omega)) ?_
    refine Xg.at_seq ?_
    refine Xg.at_region ?_
    refine Xg.ops_op (by kernel_rfl) (Xg.opx_pure ((pv p 0)) rfl (fun _ => by kernel_rfl) ?_)
    refine Xg.ops_op (by kernel_rfl) (Xg.opx_pure ((pv xb1 0)) rfl (fun _ => by kernel_rfl) ?_)
    refine Xg.ops_op (by kernel_rfl) (Xg.opx_load (b := xb1) (off := ((0 : Nat))) 3 (iv (↑x.id : Int)) rfl (by kernel_rfl) (by kernel_rfl) (by kernel_rfl) ?_)
    refine Xg.ops_op (by kernel_rfl) (Xg.opx_call1' [0] [PoolS p τ, LeP x, BhP x, row xb1 (62 : TypeId) [iv (↑x.id : Int), Value.slice x.la x.les.length x.lc, Value.slice x.ba x.Z.length x.bc], row xb2 (59 : TypeId) [iv a.kd, iv a.wh, iv a.sz, iv a.pk, iv a.ap, iv a.bt], row xb3 (62 : TypeId) [iv 0, Value.slice none (0 : Nat) (0 : Nat), Value.slice none (0 : Nat) (0 : Nat)]] (fun _ => by kernel_rfl) (@hc ) (by kernel_rfl) (by kernel_rfl) (by kernel_rfl) ?_)
    refine Xg.ops_op (by kernel_rfl) (Xg.opx_pure ((Value.tuple #[iv us, iv 0])) rfl (fun _ => by kernel_rfl) ?_)
    refine Xg.ops_op (by kernel_rfl) (Xg.opx_pure ((iv us)) rfl (fun _ => by kernel_rfl) ?_)
    refine Xg.ops_op (by kernel_rfl) (Xg.opx_pure ((iv 0)) rfl (fun _ => by kernel_rfl) ?_)
    refine Xg.ops_op (by kernel_rfl) (Xg.opx_pure ((iv us)) rfl (fun _ => by kernel_rfl) ?_)
    refine Xg.ops_op (by kernel_rfl) (Xg.opx_pure ((iv 0)) rfl (fun _ => by kernel_rfl) ?_)
    refine Xg.ops_nil ?_
    refine Xg.at_seq ?_
    refine Xg.at_region ?_
    refine Xg.ops_op (by kernel_rfl) (Xg.opx_loadn (off := 0) 3 3 [iv (↑x.id : Int), Value.slice x.la x.les.length x.lc, Value.slice x.ba x.Z.length x.bc] (by kernel_rfl) rfl (by kernel_rfl) rfl (Xg.cells_at (by kernel_rfl)) (by kernel_rfl) ?_)
    refine Xg.ops_op (by kernel_rfl) (Xg.opx_call1' [1] [recsO (42 : Nat) (3 : Nat) leK x.la x.lc x.les, PoolS p τ, BhP x, row xb1 (62 : TypeId) [iv (↑x.id : Int), Value.slice x.la x.les.length x.lc, Value.slice x.ba x.Z.length x.bc], row xb2 (59 : TypeId) [iv a.kd, iv a.wh, iv a.sz, iv a.pk, iv a.ap, iv a.bt], row xb3 (62 : TypeId) [iv 0, Value.slice none (0 : Nat) (0 : Nat), Value.slice none (0 : Nat) (0 : Nat)]] (fun _ => by kernel_rfl) (@hsd (((↑x.id : Int))) (x.la) (x.lc) ((Value.slice x.ba x.Z.length x.bc))) (by kernel_rfl) (by kernel_rfl) (by kernel_rfl) ?_)
    refine Xg.ops_op (by kernel_rfl) (Xg.opx_pure ((iv us)) rfl (fun _ => by kernel_rfl) ?_)
    refine Xg.ops_nil ?_
    refine Xg.at_seq ?_
    refine Xg.at_region ?_
    refine Xg.ops_op (by kernel_rfl) (Xg.opx_pure ((pv p 0)) rfl (fun _ => by kernel_rfl) ?_)
    refine Xg.ops_op (by kernel_rfl) (Xg.opx_pure ((iv q)) rfl (fun _ => by kernel_rfl) ?_)
    refine Xg.ops_op (by kernel_rfl) (Xg.opx_call1' [1] [PoolS p ρ, recsO (42 : Nat) (3 : Nat) leK x.la x.lc x.les, BhP x, row xb1 (62 : TypeId) [iv (↑x.id : Int), Value.slice x.la x.les.length x.lc, Value.slice x.ba x.Z.length x.bc], row xb2 (59 : TypeId) [iv a.kd, iv a.wh, iv a.sz, iv a.pk, iv a.ap, iv a.bt], row xb3 (62 : TypeId) [iv 0, Value.slice none (0 : Nat) (0 : Nat), Value.slice none (0 : Nat) (0 : Nat)]] (fun _ => by kernel_rfl) (@ho ) (by kernel_rfl) (by kernel_rfl) (by kernel_rfl) ?_)
    refine Xg.ops_op (by kernel_rfl) (Xg.opx_pure ((Value.tuple #[iv (↑x.id : Int), iv 0])) rfl (fun _ => by kernel_rfl) ?_)
    refine Xg.ops_op (by kernel_rfl) (Xg.opx_pure ((iv (↑x.id : Int))) rfl (fun _ => by kernel_rfl) ?_)
    refine Xg.ops_op (by kernel_rfl) (Xg.opx_pure ((iv 0)) rfl (fun _ => by kernel_rfl) ?_)
    refine Xg.ops_op (by kernel_rfl) (Xg.opx_pure ((iv (↑x.id : Int))) rfl (fun _ => by kernel_rfl) ?_)
    refine Xg.ops_op (by kernel_rfl) (Xg.opx_pure ((iv 0)) rfl (fun _ => by kernel_rfl) ?_)
    refine Xg.ops_nil ?_
    refine Xg.at_seq ?_
    refine Xg.at_region ?_
    refine Xg.ops_op (by kernel_rfl) (Xg.opx_pure ((iv (↑x.id : Int))) rfl (fun _ => by kernel_rfl) ?_)
    refine Xg.ops_op (by kernel_rfl) (Xg.opx_pure ((Value.agg #[iv (↑x.id : Int), Value.slice none (0 : Nat) (0 : Nat), Value.slice none (0 : Nat) (0 : Nat)])) rfl (fun _ => by kernel_rfl) ?_)
    refine Xg.ops_op (by kernel_rfl) (Xg.opx_pure ((iv 0)) rfl (fun _ => by kernel_rfl) ?_)
    refine Xg.ops_op (by kernel_rfl) (Xg.opx_pure ((Value.bool true)) rfl (fun _ => by kernel_rfl) ?_)
    refine Xg.ops_op (by kernel_rfl) (Xg.opx_pure ((Value.bool true)) rfl (fun _ => by kernel_rfl) ?_)
    refine Xg.ops_op (by kernel_rfl) (Xg.opx_pure ((iv 0)) rfl (fun _ => by kernel_rfl) ?_)
    refine Xg.ops_op (by kernel_rfl) (Xg.opx_pure ((Value.bool true)) rfl (fun _ => by kernel_rfl) ?_)
    refine Xg.ops_op (by kernel_rfl) (Xg.opx_pure ((Value.bool true)) rfl (fun _ => by kernel_rfl) ?_)
    refine Xg.ops_op (by kernel_rfl) (Xg.opx_pure ((Value.bool true)) rfl (fun _ => by kernel_rfl) ?_)
    refine Xg.ops_op (by kernel_rfl) (Xg.opx_pure ((iv us)) rfl (fun _ => by kernel_rfl) ?_)
    refine Xg.ops_op (by kernel_rfl) (Xg.opx_pure ((iv us)) rfl (fun _ => by kernel_rfl) ?_)
    refine Xg.ops_op (by kernel_rfl) (Xg.opx_pure (.bool (decide ((us : Int) = us))) rfl (fun _ => by kernel_rfl) ?_)
    refine Xg.ops_flag (j := 244) (c := (decide (us = us))) (by kernel_rfl) (fun _ => ?_) (fun xh1 => absurd (of_decide_eq_false xh1) (by omega))
    refine Xg.ops_op (by kernel_rfl) (Xg.opx_pure ((Value.bool true)) rfl (fun _ => by kernel_rfl) ?_)
    refine Xg.ops_op (by kernel_rfl) (Xg.opx_storen 3 (off := 0) 5 [iv (↑x.id : Int), Value.slice none (0 : Nat) (0 : Nat), Value.slice none (0 : Nat) (0 : Nat)] (by kernel_rfl) rfl (by kernel_rfl) (by kernel_rfl) rfl (by kernel_rfl) (Nat.le_of_ble_eq_true (by kernel_rfl)) ?_)
    refine Xg.ops_op (by kernel_rfl) (Xg.opx_pure ((Value.bool true)) rfl (fun _ => by kernel_rfl) ?_)
    refine Xg.ops_nil ?_
    refine Xg.at_ret_feed (v := (Value.tuple #[Value.agg #[iv (↑x.id : Int), Value.slice none (0 : Nat) (0 : Nat), Value.slice none (0 : Nat) (0 : Nat)], Value.bool true])) [(Addr.mk xb3 (0 : Nat) none), (Addr.mk xb3 (1 : Nat) none), (Addr.mk xb3 (2 : Nat) none)] [iv (↑x.id : Int), Value.slice none (0 : Nat) (0 : Nat), Value.slice none (0 : Nat) (0 : Nat)] [0] [PoolS p ρ] Go.Proofs.Try.func25 (by kernel_rfl) (Xg.cells_cons (b := xb3) (off := 0) 5 rfl (by kernel_rfl) (Xg.cells_cons (b := xb3) (off := 1) 5 rfl (by kernel_rfl) (Xg.cells_cons (b := xb3) (off := 2) 5 rfl (by kernel_rfl) Xg.cells_nil))) (by kernel_rfl) (by kernel_rfl) ?_
    exact ⟨by kernel_rfl, by kernel_rfl⟩)
end Go.Proofs.Ytmplimmcjdkhlaa

/- The arena laws, plain: what Close leaves. -/
namespace Go.Proofs.Ytmplimmcjdkhlaa
open Go.Sl Go.Xg
set_option linter.unusedVariables false
set_option linter.unusedSimpArgs false
set_option linter.unusedSectionVars false
set_option linter.unnecessarySimpa false
set_option maxHeartbeats 4000000
set_option maxRecDepth 100000

theorem backF_cons (cl : Nat → Nat) (fr : Nat → List Int) (x : Int) (l : List Int) : backF cl fr (x :: l) = backF cl (updF fr (cl x.toNat) (sins x (fr (cl x.toNat)))) l := rfl
theorem catN_backF {cl : Nat → Nat} {n : Nat} : ∀ (l : List Int) (fr : Nat → List Int), (∀ x ∈ l, cl x.toNat < n) → (catN n (backF cl fr l)).Perm (l ++ catN n fr)
  | [], fr, _ => List.Perm.refl _
  | x :: l, fr, h => by
    rw [backF_cons]
    refine (catN_backF l _ fun y hy => h y (.tail _ hy)).trans ?_
    obtain ⟨R, e1, e2⟩ := catN_cur fr (h x (.head _))
    have e3 : (catN n (updF fr (cl x.toNat) (sins x (fr (cl x.toNat))))).Perm (x :: catN n fr) := by
      refine (e2 _).trans (((sins_perm _ _).append_right R).trans ?_)
      rw [List.cons_append]
      exact List.Perm.cons _ e1.symm
    exact (List.Perm.append_left l e3).trans List.perm_middle
theorem mem_backF {cl : Nat → Nat} {k : Nat} {y : Int} : ∀ (l : List Int) (fr : Nat → List Int), y ∈ backF cl fr l k ↔ (y ∈ l ∧ cl y.toNat = k) ∨ y ∈ fr k
  | [], fr => by simp [backF]
  | x :: l, fr => by
    rw [backF_cons, mem_backF l]
    unfold updF
    split
    · rename_i e
      rw [sins_mem, e]
      constructor
      · rintro (⟨h1, h2⟩ | h1 | h1)
        · exact .inl ⟨.tail _ h1, h2⟩
        · exact .inl ⟨by rw [h1]; exact .head _, by rw [h1]⟩
        · exact .inr h1
      · rintro (⟨h1, h2⟩ | h1)
        · rcases List.mem_cons.1 h1 with h3 | h3
          · exact .inr (.inl h3)
          · exact .inl ⟨h3, h2⟩
        · exact .inr (.inr h1)
    · rename_i e
      constructor
      · rintro (⟨h1, h2⟩ | h1)
        · exact .inl ⟨.tail _ h1, h2⟩
        · exact .inr h1
      · rintro (⟨h1, h2⟩ | h1)
        · rcases List.mem_cons.1 h1 with h3 | h3
          · exact absurd (by rw [← h2, h3]) e
          · exact .inl ⟨h3, h2⟩
        · exact .inr h1
theorem backS_cons (bs : Nat → Option (List Int)) (x : Int) (l : List Int) : backS bs (x :: l) = backS (updF bs x.toNat none) l := rfl
theorem backS_none {b : Nat} : ∀ (l : List Int) (bs : Nat → Option (List Int)), (bs b = none ∨ ∃ x ∈ l, x.toNat = b) → backS bs l b = none
  | [], bs, h => by
    rcases h with h | ⟨x, hx, _⟩
    · exact h
    · cases hx
  | x :: l, bs, h => by
    rw [backS_cons]
    refine backS_none l _ ?_
    by_cases e : x.toNat = b
    · exact .inl (by rw [← e, updF_same])
    · rcases h with h | ⟨y, hy, h⟩
      · exact .inl (by rw [updF_ne _ _ (fun h => e h.symm)]; exact h)
      · rcases List.mem_cons.1 hy with h3 | h3
        · exact absurd (by rw [← h3]; exact h) e
        · exact .inr ⟨y, h3, h⟩
theorem backS_other {b : Nat} : ∀ (l : List Int) (bs : Nat → Option (List Int)), (∀ x ∈ l, x.toNat ≠ b) → backS bs l b = bs b
  | [], bs, _ => rfl
  | x :: l, bs, h => by
    rw [backS_cons, backS_other l _ fun y hy => h y (.tail _ hy), updF_ne _ _ (fun e => h x (.head _) e.symm)]
section
variable {σ : Po} (h : Pinv σ) {id : Nat} {r : Ar} (hr : σ.ar id = some r)
include h hr
theorem Pinv.close (hnc : 0 < σ.nc) : Pinv (closeσ σ id r) := by
  have hid := h.idlt hr
  have htk := h.tk_all hr
  have hnb := h.nb
  have hlen := (h.tk_nodup hr hnc).2
  refine { na := h.na, nb := h.nb, nc := h.nc, sz := h.sz, cl := h.cl, all := ?_, fs := fun j => ?_, fn := fun j hj => ?_, fc := fun j x hx => ?_, fb := fun j x hx => ?_, an := fun j hj => ?_, au := fun j s hs => ?_, ab := fun j s x hs hx => ?_ }
  · show (catN σ.nc (backF σ.cl σ.fr r.tk) ++ catN σ.na fun i => tkA (updF σ.ar id none i)).Perm (iotaN 0 σ.nb)
    refine List.Perm.trans ?_ h.all
    have e : (fun j => tkA (updF σ.ar id none j)) = updF (fun j => tkA (σ.ar j)) id [] := by
      funext j; unfold updF; split <;> rfl
    obtain ⟨R, b1, b2⟩ := catN_cur (fun j => tkA (σ.ar j)) hid
    rw [e]
    refine ((catN_backF r.tk σ.fr fun x hx => (htk x hx).2.2).append (b2 [])).trans ?_
    rw [hr] at b1
    have b3 : (catN σ.na fun j => tkA (σ.ar j)).Perm (r.tk ++ R) := b1
    refine List.Perm.trans ?_ (List.Perm.append_left _ b3.symm)
    rw [List.nil_append, List.append_assoc]
    exact List.perm_append_comm_assoc _ _ _
  · exact (backF_ok σ.cl 0 r.tk σ.fr 50000 (fun x hx => by have := htk x hx; omega) (fun k => ⟨h.fs k, fun x hx => by have := h.fr_rng hx; omega, by have := h.fr_len k (by omega); omega⟩) j).1
  · refine List.eq_nil_iff_forall_not_mem.2 fun y hy => ?_
    rcases (mem_backF r.tk σ.fr).1 hy with ⟨h1, h2⟩ | h1
    · have := (htk y h1).2.2
      have hj : σ.nc ≤ j := hj
      omega
    · rw [h.fn j hj] at h1; cases h1
  · rcases (mem_backF r.tk σ.fr).1 hx with ⟨h1, h2⟩ | h1
    · exact h2
    · exact h.fc j x h1
  · rcases (mem_backF r.tk σ.fr).1 hx with ⟨h1, h2⟩ | h1
    · exact backS_none r.tk σ.bs (.inr ⟨x, h1, rfl⟩)
    · exact backS_none r.tk σ.bs (.inl (h.fb j x h1))
  · show updF σ.ar id none j = none
    unfold updF; split
    · rfl
    · exact h.an j hj
  · have hs : updF σ.ar id none j = some s := hs
    unfold updF at hs; split at hs
    · cases hs
    · exact h.au j s hs
  · have hs : updF σ.ar id none j = some s := hs
    unfold updF at hs; split at hs
    · cases hs
    · rename_i e
      obtain ⟨l, hl1, hl2⟩ := h.ab j s x hs hx
      refine ⟨l, ?_, hl2⟩
      show backS σ.bs r.tk x.toNat = some l
      rw [backS_other r.tk σ.bs fun y hy hyx => e ?_]
      · exact hl1
      · have e1 := h.tk_rng hs hx
        have e2 := htk y hy
        exact h.others hs hr hx (by rw [show x = y from by omega]; exact hy)
theorem close_p (p : Nat) (hnc : 0 < σ.nc) : Does Try.prog 15 [.pointer (some ⟨p, 0, none⟩), .int .i64 (id : Nat)] [PoolS p σ] (Ret (.tuple #[.int .i64 r.us, .int .i64 0]) [PoolS p (closeσ σ id r)]) := by
  have hid := h.idlt hr
  have htk := h.tk_all hr
  have hnb := h.nb
  have hlen := (h.tk_nodup hr hnc).2
  have b2 := h.nc
  exact closeS p σ h.na (by omega) (by omega) id hid r hr (by omega) htk (fun k => ⟨h.fs k, fun x hx => by have := h.fr_rng hx; omega, by have := h.fr_len k (by omega); omega⟩)
end
end Go.Proofs.Ytmplimmcjdkhlaa

/- The arena law: ArenaQuota. -/
namespace Go.Proofs.Ytmplimmcjdkhlaa
open Go.Sl Go.Xg
set_option linter.unusedVariables false
set_option linter.unusedSimpArgs false
set_option linter.unnecessarySimpa false
set_option maxHeartbeats 4000000
set_option maxRecDepth 100000

theorem takP_ar (σ : Po) (id : Nat) (r : Ar) (k : Nat) (pk : Int) : (takP σ id r k pk).ar = updF σ.ar id (some ⟨r.q, r.us + σ.size k, r.tk ++ [(tkV σ k pk : Int)]⟩) := rfl
theorem giveσ_ar (σ : Po) (id : Nat) (r : Ar) (b i : Nat) : (giveσ σ id r b i).ar = updF σ.ar id (some ⟨r.q, r.us - σ.size (σ.cl b), r.tk.eraseIdx i⟩) := rfl
abbrev ksQ (n : Nat) : List (Int × Int) := [((n : Nat), 500)]
/-- The Pool behind i takes. -/
def QI (n : Nat) (q : Int) (i : Nat) (σ : Po) : Prop := Pinv σ ∧ σ.nc = 1 ∧ σ.na = 2 ∧ σ.nb = 500 ∧ σ.size 0 = n ∧ ∃ tk, σ.ar 0 = some ⟨q, (i * n : Nat), tk⟩ ∧ tk.length = i
def QJ (n : Nat) (q : Int) (i : Nat) (σ : Po) : Prop := QI n q i σ ∧ σ.ar 1 = none
end Go.Proofs.Ytmplimmcjdkhlaa

/- The arena laws, plain: an act, and what is left of it. -/
namespace Go.Proofs.Ytmplimmcjdkhlaa
open Go.Sl Go.Xg
set_option linter.unusedVariables false
set_option linter.unusedSimpArgs false
set_option linter.unusedSectionVars false
set_option linter.unnecessarySimpa false
set_option maxHeartbeats 4000000
set_option maxRecDepth 100000

def arD (σ : Po) (w : Nat) : Ar := (σ.ar w).getD ⟨0, 0, []⟩
def byD (σ : Po) (b : Int) : List Int := (σ.bs b.toNat).getD []
/-- A Pool of two classes, four arenas open of five. -/
structure P2 (q : Int) (m : Nat) (σ : Po) : Prop where
  pi : Pinv σ
  nc : σ.nc = 2
  na : σ.na = 5
  nb : σ.nb = 2 * m
  s0 : σ.size 0 = 4
  s1 : σ.size 1 = 16
  op : ∀ w, w < 4 → σ.ar w = some (arD σ w) ∧ (arD σ w).q = q
  no : σ.ar 4 = none
  hq : 0 ≤ q ∧ q ≤ 1000
  fm : ∀ b, b < 2 * m → σ.cl b = if b < m then 0 else 1
/-- What one has: as the Pool knows it. -/
structure Hv (σ : Po) (w : Nat) (x : HdV) : Prop where
  id : x.id = w
  les : x.les = lesOf σ (arD σ w).tk
  Z : x.Z.map (·.2) = (arD σ w).tk.map (byD σ)

def kT (σ : Po) (w : Nat) (a : Ac) : Nat := kOf a (arD σ w).tk.length
def bT (σ : Po) (w : Nat) (a : Ac) : Nat := ((arD σ w).tk.getD (kT σ w a) 0).toNat
def actσ (σ : Po) (w : Nat) (a : Ac) (q : Int) : Po :=
  if pickN a.kd 8 ≤ 1 then (if q < (arD σ w).us + hasA a then σ else if (σ.fr (clsA a)).length = 0 then σ else takP σ w (arD σ w) (clsA a) a.pk)
  else if pickN a.kd 8 ≤ 3 then (if (arD σ w).tk.length = 0 then σ else storeσ σ (bT σ w a) ((byD σ (bT σ w a)).set (pickN a.ap (byD σ (bT σ w a)).length) (a.bt % 256)))
  else if pickN a.kd 8 = 4 then (if (arD σ w).tk.length = 0 then σ else giveσ σ w (arD σ w) (bT σ w a) (kT σ w a))
  else if pickN a.kd 8 = 5 then openσ (closeσ σ w (arD σ w)) w q
  else σ

theorem arD_upd {σ τ : Po} {w : Nat} {o : Ar} (h : τ.ar = updF σ.ar w (some o)) (j : Nat) : arD τ j = if j = w then o else arD σ j := by
  unfold arD; rw [h]; unfold updF; split <;> rfl
section
variable {q : Int} {m : Nat} {σ : Po} (h : P2 q m σ) {w : Nat} (hw : w < 4)
include h hw
theorem P2.ar_ok : σ.ar w = some (arD σ w) := (h.op w hw).1
theorem P2.len : (arD σ w).tk.length ≤ 5000 := by
  have := (h.pi.tk_nodup (h.ar_ok hw) (by rw [h.nc]; decide)).2
  have := h.pi.nb
  omega
/-- Where only one arena has changed. -/
theorem P2.upd {τ : Po} {o : Ar} (hi : Pinv τ) (e1 : τ.nc = σ.nc) (e2 : τ.na = σ.na) (e3 : τ.nb = σ.nb) (e4 : τ.size = σ.size) (e5 : τ.cl = σ.cl) (e6 : τ.ar = updF σ.ar w (some o)) (e7 : o.q = q) : P2 q m τ := by
  refine { pi := hi, nc := e1.trans h.nc, na := e2.trans h.na, nb := e3.trans h.nb, s0 := by rw [e4]; exact h.s0, s1 := by rw [e4]; exact h.s1, op := fun j hj => ?_, no := ?_, hq := h.hq, fm := by rw [e5]; exact h.fm }
  · rw [arD_upd e6, e6]
    by_cases hjw : j = w
    · subst hjw; rw [updF_same, if_pos rfl]; exact ⟨rfl, e7⟩
    · rw [updF_ne _ _ hjw, if_neg hjw]; exact h.op j hj
  · rw [e6, updF_ne _ _ (by omega)]; exact h.no
theorem P2.other {τ : Po} {o : Ar} (e4 : τ.size = σ.size) (e5 : τ.cl = σ.cl) (e6 : τ.ar = updF σ.ar w (some o)) {j : Nat} (hjw : j ≠ w) {y : HdV} (hy : Hv σ j y) (hb : ∀ x ∈ (arD σ j).tk, τ.bs x.toNat = σ.bs x.toNat) : Hv τ j y := by
  have e : arD τ j = arD σ j := by rw [arD_upd e6, if_neg hjw]
  refine ⟨hy.id, ?_, ?_⟩
  · rw [e, hy.les]; unfold lesOf leOf; rw [e4, e5]
  · rw [e, hy.Z]
    refine List.map_congr_left fun x hx => ?_
    unfold byD; rw [hb x hx]
end
theorem clsA_has {q : Int} {m : Nat} {σ : Po} (h : P2 q m σ) (a : Ac) : clsA a < 2 ∧ σ.size (clsA a) = hasA a ∧ 1 + pickN a.sz 16 ≤ hasA a ∧ ∀ j, j < clsA a → σ.size j < 1 + pickN a.sz 16 := by
  have h16 := pickN_lt a.sz 16 (by decide)
  unfold clsA hasA
  split
  · rename_i h4
    refine ⟨by decide, h.s1, by omega, fun j hj => ?_⟩
    obtain rfl : j = 0 := by omega
    rw [h.s0]; omega
  · exact ⟨by decide, h.s0, by omega, fun j hj => by omega⟩

/-- The four ways an act goes. -/
inductive Way (q : Int) (σ : Po) (w : Nat) (a : Ac) : Po → Prop
  | none (hk : (pickN a.kd 8 ≤ 1 → q < (arD σ w).us + hasA a ∨ ((arD σ w).us + hasA a ≤ q ∧ (σ.fr (clsA a)).length = 0)) ∧ (2 ≤ pickN a.kd 8 → pickN a.kd 8 ≤ 4 → (arD σ w).tk.length = 0) ∧ pickN a.kd 8 ≠ 5) : Way q σ w a σ
  | take (hk : pickN a.kd 8 ≤ 1) (hq : (arD σ w).us + hasA a ≤ q) (hf : 0 < (σ.fr (clsA a)).length) : Way q σ w a (takP σ w (arD σ w) (clsA a) a.pk)
  | store (hk : 2 ≤ pickN a.kd 8 ∧ pickN a.kd 8 ≤ 3) (hl : 0 < (arD σ w).tk.length) : Way q σ w a (storeσ σ (bT σ w a) ((byD σ (bT σ w a)).set (pickN a.ap (byD σ (bT σ w a)).length) (a.bt % 256)))
  | give (hk : pickN a.kd 8 = 4) (hl : 0 < (arD σ w).tk.length) : Way q σ w a (giveσ σ w (arD σ w) (bT σ w a) (kT σ w a))
  | close (hk : pickN a.kd 8 = 5) : Way q σ w a (openσ (closeσ σ w (arD σ w)) w q)
theorem act_way (q : Int) (σ : Po) (w : Nat) (a : Ac) : Way q σ w a (actσ σ w a q) := by
  unfold actσ
  split
  · rename_i h1
    split
    · rename_i h2; exact .none ⟨fun _ => .inl h2, fun h3 => by omega, by omega⟩
    · rename_i h2
      split
      · rename_i h3; exact .none ⟨fun _ => .inr ⟨by omega, h3⟩, fun h3 => by omega, by omega⟩
      · rename_i h3; exact .take h1 (by omega) (by omega)
  · rename_i h1
    split
    · rename_i h2
      split
      · rename_i h3; exact .none ⟨fun h4 => absurd h4 h1, fun _ _ => h3, by omega⟩
      · rename_i h3; exact .store ⟨by omega, h2⟩ (by omega)
    · rename_i h2
      split
      · rename_i h4
        split
        · rename_i h3; exact .none ⟨fun h4 => absurd h4 h1, fun _ _ => h3, by omega⟩
        · rename_i h3; exact .give h4 (by omega)
      · rename_i h4
        split
        · rename_i h5; exact .close h5
        · rename_i h5; exact .none ⟨fun h4 => absurd h4 h1, fun _ h => by omega, h5⟩
section
variable {q : Int} {m : Nat} {σ : Po} (h : P2 q m σ) {w : Nat} (hw : w < 4) (a : Ac)
include h hw
/-- The buffer that is meant. -/
theorem P2.bT_ok (hl : 0 < (arD σ w).tk.length) : kT σ w a < (arD σ w).tk.length ∧ (arD σ w).tk.getD (kT σ w a) 0 = (bT σ w a : Nat) ∧ ((bT σ w a : Nat) : Int) ∈ (arD σ w).tk ∧ bT σ w a < σ.nb ∧ σ.bs (bT σ w a) = some (byD σ (bT σ w a)) ∧ (byD σ (bT σ w a)).length = σ.size (σ.cl (bT σ w a)) ∧ 1 ≤ (byD σ (bT σ w a)).length ∧ (byD σ (bT σ w a)).length ≤ 16 := by
  have hk : kT σ w a < (arD σ w).tk.length := kOf_lt a _ hl
  obtain ⟨b, l, g1, g2, g3, g4, g5, g6, g7, g8⟩ := h.pi.tk_at (h.ar_ok hw) hk
  have hb : bT σ w a = b := by unfold bT; rw [g1]; rfl
  have hby : byD σ ((b : Nat) : Int) = l := by unfold byD; rw [Int.toNat_natCast, g4]; rfl
  rw [hb, hby]
  refine ⟨hk, g1, ?_, g2, g4, g5, g7, ?_⟩
  · rw [← g1, List.getD_eq_getElem?_getD, List.getElem?_eq_getElem hk]; exact List.getElem_mem hk
  · rw [g5, h.fm b (by have := h.nb; omega)]
    split
    · rw [h.s0]; decide
    · rw [h.s1]; decide
theorem P2.act {τ : Po} (ht : Way q σ w a τ) : P2 q m τ := by
  obtain ⟨c1, c2, c3, c4⟩ := clsA_has h a
  have hr := h.ar_ok hw
  have hrq := (h.op w hw).2
  cases ht with
  | none => exact h
  | take hk hq hf =>
    exact h.upd hw (h.pi.takP hr hf (by rw [c2, hrq]; omega)) rfl rfl rfl rfl rfl (takP_ar _ _ _ _ _) hrq
  | store hk hl =>
    obtain ⟨g1, g2, g3, g4, g5, g6, g7, g8⟩ := h.bT_ok hw a hl
    exact { pi := h.pi.store g5 (List.length_set ..), nc := h.nc, na := h.na, nb := h.nb, s0 := h.s0, s1 := h.s1, op := h.op, no := h.no, hq := h.hq, fm := h.fm }
  | give hk hl =>
    obtain ⟨g1, g2, g3, g4, g5, g6, g7, g8⟩ := h.bT_ok hw a hl
    exact h.upd hw (h.pi.give hr g1 g2) rfl rfl rfl rfl rfl (giveσ_ar _ _ _ _ _) hrq
  | close hk =>
    have hc := h.pi.close hr (by rw [h.nc]; decide)
    refine h.upd hw (hc.opens (q := q) (by show w < σ.na; rw [h.na]; omega) (updF_same _ _ _) (by have := h.hq; omega)) rfl rfl rfl rfl rfl (o := ⟨q, 0, []⟩) ?_ rfl
    exact updF_two _ _ _ _
theorem P2.act_other {τ : Po} (ht : Way q σ w a τ) {j : Nat} (hj : j < 4) (hjw : j ≠ w) {y : HdV} (hy : Hv σ j y) : Hv τ j y := by
  have hr := h.ar_ok hw
  have hrj := h.ar_ok hj
  have hne : ∀ x ∈ (arD σ j).tk, ∀ b : Nat, ((b : Nat) : Int) ∈ (arD σ w).tk → x.toNat ≠ b := fun x hx b hb e => by
    have h1 := h.pi.tk_rng hrj hx
    exact hjw (h.pi.others hrj hr hx (by rw [show x = (b : Int) from by omega]; exact hb))
  cases ht with
  | none => exact hy
  | take hk hq hf =>
    refine h.other hw (τ := takP σ w (arD σ w) (clsA a) a.pk) rfl rfl (takP_ar _ _ _ _ _) hjw hy fun x hx => ?_
    obtain ⟨v, h1, h2, h3, h4, h5, h6⟩ := h.pi.fr_at (k := clsA a) (pickN_lt a.pk _ hf)
    have e : tkV σ (clsA a) a.pk = v := by unfold tkV tkI; rw [h1]; rfl
    show updF σ.bs (tkV σ (clsA a) a.pk) _ x.toNat = _
    rw [e, updF_ne]
    intro e2
    have h7 := h.pi.tk_rng hrj hx
    exact h.pi.apart hrj (x := x) (by rw [show x = (v : Int) from by omega]; exact h6) hx
  | store hk hl =>
    obtain ⟨g1, g2, g3, g4, g5, g6, g7, g8⟩ := h.bT_ok hw a hl
    refine ⟨hy.id, hy.les, ?_⟩
    rw [hy.Z]
    refine List.map_congr_left fun x hx => ?_
    show byD σ x = (updF σ.bs (bT σ w a) _ x.toNat).getD []
    rw [updF_ne _ _ (hne x hx _ g3)]; rfl
  | give hk hl =>
    obtain ⟨g1, g2, g3, g4, g5, g6, g7, g8⟩ := h.bT_ok hw a hl
    refine h.other hw (τ := giveσ σ w (arD σ w) (bT σ w a) (kT σ w a)) rfl rfl (giveσ_ar _ _ _ _ _) hjw hy fun x hx => ?_
    exact updF_ne _ _ (hne x hx _ g3)
  | close hk =>
    refine h.other hw (τ := openσ (closeσ σ w (arD σ w)) w q) (o := ⟨q, 0, []⟩) rfl rfl (updF_two _ _ _ _) hjw hy fun x hx => ?_
    refine backS_other _ σ.bs fun y hy2 e => ?_
    have h7 := h.pi.tk_rng hr hy2
    exact hne x hx y.toNat (by rw [Int.toNat_of_nonneg h7.2.1]; exact hy2) e.symm
end
end Go.Proofs.Ytmplimmcjdkhlaa

/- The arena laws: acts, whatever the act. -/
namespace Go.Proofs.Ytmplimmcjdkhlaa
open Go.Sl Go.Xg
set_option linter.unusedVariables false
set_option linter.unusedSimpArgs false
set_option linter.unusedSectionVars false
set_option linter.unnecessarySimpa false
set_option maxHeartbeats 4000000
set_option maxRecDepth 100000

theorem erase_map {α β : Type} (f : α → β) (l : List α) (k : Nat) : (l.map f).eraseIdx k = (l.eraseIdx k).map f := by
  rw [List.eraseIdx_eq_take_drop_succ, List.eraseIdx_eq_take_drop_succ, List.map_append, List.map_take, List.map_drop]
theorem les_at (σ : Po) (l : List Int) (i : Nat) (hi : i < l.length) : (lesOf σ l).getD i default = leOf σ.cl (fun k => (σ.size k : Int)) (l.getD i 0) := by
  unfold lesOf
  simp [List.getD_eq_getElem?_getD, hi]
theorem sizeL_les (σ : Po) (l : List Int) : sizeL (lesOf σ l) = sumZ σ l := by
  unfold sizeL lesOf sumZ
  rw [List.map_map]; rfl
section
variable {q : Int} {m : Nat} {σ : Po} (h : P2 q m σ) {w : Nat} (hw : w < 4) {x : HdV} (hx : Hv σ w x)
include h hw hx
theorem Hv.len : x.les.length = (arD σ w).tk.length := by rw [hx.les]; unfold lesOf; rw [List.length_map]
theorem Hv.lenZ : x.Z.length = (arD σ w).tk.length := by have := congrArg List.length hx.Z; rwa [List.length_map, List.length_map] at this
theorem Hv.atZ {i : Nat} (hi : i < (arD σ w).tk.length) : (x.Z.getD i default).2 = byD σ ((arD σ w).tk.getD i 0) := by
  have hz := hx.lenZ h hw
  have e := congrArg (fun l => l.getD i []) hx.Z
  simpa [List.getD_eq_getElem?_getD, hi, hz] using e
theorem Hv.lok : Lok5 x.les := by
  refine ⟨by rw [hx.len h hw]; exact h.len hw, fun i hi => ?_⟩
  rw [hx.len h hw] at hi
  rw [hx.les, les_at σ _ i hi]
  obtain ⟨b, l, g1, g2, g3, g4, g5, g6, g7, g8⟩ := h.pi.tk_at (h.ar_ok hw) hi
  rw [g1]
  show 0 ≤ ((σ.size (σ.cl b) : Nat) : Int) ∧ ((σ.size (σ.cl b) : Nat) : Int) ≤ 65536
  omega
theorem Hv.sz : sizeL x.les = (arD σ w).us := by
  rw [hx.les, sizeL_les]
  exact (h.pi.au w _ (h.ar_ok hw)).1.symm
end
theorem hds_open {p : Nat} {σ : Po} {x : HdV} {g w : World} {F : List HP} (h : SL g ([PoolS p σ, HdS x] ++ F) w) : SL g ([PoolS p σ, LeP x, BhP x] ++ ([ZP x] ++ F)) w :=
  sl_ord [3, 0, 1, 2] 4 rfl (SL.flat.1 (sl_ord [1, 0] 2 rfl h))
theorem hds_shut {p : Nat} {σ : Po} {x : HdV} {g w : World} {F : List HP} (h : SL g ([PoolS p σ, LeP x, BhP x] ++ ([ZP x] ++ F)) w) : SL g ([PoolS p σ, HdS x] ++ F) w := by
  have h1 : SL g ([LeP x, BhP x, ZP x] ++ (PoolS p σ :: F)) w := sl_ord [1, 2, 3, 0] 4 rfl h
  have h2 : SL g (HdS x :: PoolS p σ :: F) w := SL.flat.2 h1
  exact sl_ord [1, 0] 2 rfl h2
section
variable {q : Int} {m : Nat} {σ : Po} (h : P2 q m σ) {w : Nat} (hw : w < 4) {x : HdV} (hx : Hv σ w x) (a : Ac) (ha : Acok a) (p : Nat)
include h hw hx ha
theorem acts_same (hd : Does Try.prog 25 [.pointer (some ⟨p, 0, none⟩), hdV x, acV a, .int .i64 q] [PoolS p σ, LeP x, BhP x] (Ret (.tuple #[hdV x, .bool true]) [PoolS p σ, LeP x, BhP x])) :
    Does Try.prog 25 [.pointer (some ⟨p, 0, none⟩), hdV x, acV a, .int .i64 q] [PoolS p σ, HdS x] (RetE (fun y : HdV => Hv σ w y) (fun y => .tuple #[hdV y, .bool true]) (fun y => [PoolS p σ, HdS y])) :=
  does_conv (K := [ZP x]) (ret_e hd) (fun g w F hS => hds_open hS) fun y _ g w F hS => ⟨x, hx, rfl, hds_shut hS⟩
theorem acts_d0 (hno : (pickN a.kd 8 ≤ 1 → q < (arD σ w).us + hasA a ∨ ((arD σ w).us + hasA a ≤ q ∧ (σ.fr (clsA a)).length = 0)) ∧ (2 ≤ pickN a.kd 8 → pickN a.kd 8 ≤ 4 → (arD σ w).tk.length = 0) ∧ pickN a.kd 8 ≠ 5) :
    Does Try.prog 25 [.pointer (some ⟨p, 0, none⟩), hdV x, acV a, .int .i64 q] [PoolS p σ, HdS x] (RetE (fun y : HdV => Hv σ w y) (fun y => .tuple #[hdV y, .bool true]) (fun y => [PoolS p σ, HdS y])) := by
  obtain ⟨n1, n2, n3⟩ := hno
  have hr := h.ar_ok hw
  have hrq := (h.op w hw).2
  have hl := hx.len h hw
  have hl5 := hx.lok h hw
  have hz := hx.lenZ h hw
  have hq := h.hq
  obtain ⟨c1, c2, c3, c4⟩ := clsA_has h a
  have n8 := pickN_lt a.kd 8 (by decide)
  have hnb := h.pi.nb
  have hlen := h.len hw
  by_cases k1 : pickN a.kd 8 ≤ 1
  · have hfree := free_p h.pi p (clsA a) (by rw [h.nc]; omega) (by rw [h.na]; decide)
    have hfl := h.pi.fr_len (clsA a) (by rw [h.na]; decide)
    have hcnc : clsA a < σ.nc := by rw [h.nc]; exact c1
    have hcs : ((1 : Int) + (pickN a.sz 16 : Nat)) ≤ (σ.size (clsA a) : Nat) := by rw [c2]; omega
    have hcj : ∀ j, j < clsA a → (σ.size j : Int) < 1 + (pickN a.sz 16 : Nat) := fun j hj => by have := c4 j hj; omega
    rcases n1 k1 with e | ⟨e, e2⟩
    · have ht := takeq_p h.pi hr p (1 + (pickN a.sz 16 : Nat)) a.pk (clsA a) hcnc (by omega) hcs hcj (by rw [c2, hrq]; omega)
      rw [← hx.id] at ht
      exact acts_same h hw hx a ha p (acts_quota p σ x a ha q hl5 (by omega) k1 (σ.fr (clsA a)) hfree (by omega) (by omega) ht (by rw [hx.sz h hw]; exact e))
    · have ht := takee_p h.pi hr p (1 + (pickN a.sz 16 : Nat)) a.pk (clsA a) hcnc (by omega) hcs hcj (by rw [c2, hrq]; omega) e2
      rw [← hx.id] at ht
      exact acts_same h hw hx a ha p (acts_empty p σ x a ha q hl5 (by omega) k1 (σ.fr (clsA a)) hfree (by omega) (by omega) ht (by rw [hx.sz h hw]; exact e) e2)
  · by_cases k4 : pickN a.kd 8 ≤ 4
    · have hd := fun A => acts_none2 p x a ha q (by rw [hl]; exact n2 (by omega) k4) ⟨by omega, k4⟩ A
      exact does_conv (K := [HdS x]) (ret_e (hd (PoolS p σ))) (fun g w F hS => hS) fun y _ g w F hS => ⟨x, hx, rfl, hS⟩
    · have hd := fun A => acts_none p x a ha q hl5.1 (by omega) A
      exact does_conv (K := [HdS x]) (ret_e (hd (PoolS p σ))) (fun g w F hS => hS) fun y _ g w F hS => ⟨x, hx, rfl, hS⟩
theorem acts_d1 (hk : pickN a.kd 8 ≤ 1) (hq : (arD σ w).us + hasA a ≤ q) (hf : 0 < (σ.fr (clsA a)).length) :
    Does Try.prog 25 [.pointer (some ⟨p, 0, none⟩), hdV x, acV a, .int .i64 q] [PoolS p σ, HdS x] (RetE (fun y : HdV => Hv (takP σ w (arD σ w) (clsA a) a.pk) w y) (fun y => .tuple #[hdV y, .bool true]) (fun y => [PoolS p (takP σ w (arD σ w) (clsA a) a.pk), HdS y])) := by
  have hr := h.ar_ok hw
  have hrq := (h.op w hw).2
  have hl := hx.len h hw
  have hl5 := hx.lok h hw
  have hz := hx.lenZ h hw
  have hqq := h.hq
  obtain ⟨c1, c2, c3, c4⟩ := clsA_has h a
  have hnb := h.pi.nb
  have hlen := h.len hw
  have hfree := free_p h.pi p (clsA a) (by rw [h.nc]; omega) (by rw [h.na]; decide)
  have hfl := h.pi.fr_len (clsA a) (by rw [h.na]; decide)
  have hcnc : clsA a < σ.nc := by rw [h.nc]; exact c1
  have hcs : ((1 : Int) + (pickN a.sz 16 : Nat)) ≤ (σ.size (clsA a) : Nat) := by rw [c2]; omega
  have hcj : ∀ j, j < clsA a → (σ.size j : Int) < 1 + (pickN a.sz 16 : Nat) := fun j hj => by have := c4 j hj; omega
  have ht := take_p h.pi hr p (1 + (pickN a.sz 16 : Nat)) a.pk ha.2.2.2.1 (clsA a) hcnc (by omega) hcs hcj (by rw [c2, hrq]; omega) hf
  obtain ⟨v, g1, g2, g3, g4, g5, g6⟩ := h.pi.fr_at (k := clsA a) (pickN_lt a.pk _ hf)
  have e : tkV σ (clsA a) a.pk = v := by unfold tkV tkI; rw [g1]; rfl
  rw [c2, e] at ht
  have hτ : (takP σ w (arD σ w) (clsA a) a.pk).ar = updF σ.ar w (some ⟨(arD σ w).q, (arD σ w).us + σ.size (clsA a), (arD σ w).tk ++ [(v : Int)]⟩) := by rw [takP_ar, e]
  have hτb : (takP σ w (arD σ w) (clsA a) a.pk).bs = updF σ.bs v (some (List.replicate (hasA a) 0)) := by rw [← c2, ← e]; rfl
  have hid := hx.id
  subst hid
  refine does_conv (K := [ZP x]) (acts_take p σ (takP σ x.id (arD σ x.id) (clsA a) a.pk) x a ha q hl5 (by omega) hk (σ.fr (clsA a)) hfree (by omega) (by omega) v ht (by rw [hx.sz h hw]; exact hq) hf g1) (fun g w F hS => hds_open hS) fun y hy g w' F hS => ?_
  obtain ⟨⟨la, lc⟩, ⟨ba, bc⟩, z⟩ := y
  dsimp only at hS
  have eD : arD (takP σ x.id (arD σ x.id) (clsA a) a.pk) x.id = ⟨(arD σ x.id).q, (arD σ x.id).us + σ.size (clsA a), (arD σ x.id).tk ++ [(v : Int)]⟩ := by rw [arD_upd hτ, if_pos rfl]
  refine ⟨⟨x.id, la, lc, ba, bc, x.les ++ [((v : Int), (clsA a : Int), (hasA a : Int))], x.Z ++ [(z, List.replicate (hasA a) 0)]⟩, ⟨rfl, ?_, ?_⟩, rfl, hds_shut ?_⟩
  · rw [eD]
    show x.les ++ _ = lesOf σ ((arD σ x.id).tk ++ [(v : Int)])
    rw [hx.les]
    unfold lesOf
    rw [List.map_append]
    show _ = _ ++ [leOf σ.cl (fun k => (σ.size k : Int)) (v : Int)]
    unfold leOf
    rw [Int.toNat_natCast, g3]
    show _ = _ ++ [((v : Int), ((clsA a : Nat) : Int), ((σ.size (clsA a) : Nat) : Int))]
    rw [c2]
  · rw [eD]
    show (x.Z ++ [(z, List.replicate (hasA a) 0)]).map (fun z : Option Addr × List Int => z.2) = ((arD σ x.id).tk ++ [(v : Int)]).map (byD (takP σ x.id (arD σ x.id) (clsA a) a.pk))
    rw [List.map_append, List.map_append, hx.Z]
    congr 1
    · refine List.map_congr_left fun b hb => ?_
      unfold byD
      rw [hτb, updF_ne]
      intro e2
      have h7 := h.pi.tk_rng hr hb
      exact h.pi.apart hr (x := b) (by rw [show b = (v : Int) from by omega]; exact g6) hb
    · show [List.replicate (hasA a) 0] = [byD _ _]
      unfold byD
      rw [hτb, Int.toNat_natCast, updF_same]; rfl
  · have h1 := sl_ord [3, 4, 0, 1, 2] 5 rfl hS
    have h2 : SL g (byZ (z, List.replicate (hasA a) 0) :: starL byZ x.Z :: PoolS p (takP σ x.id (arD σ x.id) (clsA a) a.pk) :: recsO 42 3 leK la lc (x.les ++ [((v : Int), (clsA a : Int), (hasA a : Int))]) :: recsO 40 1 bhK ba bc (x.Z ++ [(z, List.replicate (hasA a) 0)]) :: F) w' := by
      show SL g (Y2 z (List.replicate (hasA a) (0 : Int)).length _ :: _) _
      rw [List.length_replicate]; exact h1
    exact sl_ord [1, 2, 3, 0] 4 rfl (starL_one h2)
end
end Go.Proofs.Ytmplimmcjdkhlaa

/- The arena laws: acts: stored, given back, closed. -/
namespace Go.Proofs.Ytmplimmcjdkhlaa
open Go.Sl Go.Xg
set_option linter.unusedVariables false
set_option linter.unusedSimpArgs false
set_option linter.unusedSectionVars false
set_option linter.unnecessarySimpa false
set_option maxHeartbeats 4000000
set_option maxRecDepth 100000

theorem recs_same {α : Type} (cells : α → List Value) (d : α) : ∀ (l : List α) (k : Nat) (y : α), k < l.length → cells y = cells (l.getD k d) → recs cells (l.set k y) = recs cells l
  | [], k, y, h, _ => by simp at h
  | x :: l, 0, y, _, e => by
    have e : cells y = cells x := e
    simp [recs, List.flatMap_cons, e]
  | x :: l, k + 1, y, h, e => by
    have ih := recs_same cells d l k y (by simpa using h) (by simpa using e)
    unfold recs at ih
    simp [recs, List.flatMap_cons, ih]
theorem nodup_at {l : List Int} (hn : l.Nodup) {i j : Nat} (hi : i < l.length) (hj : j < l.length) (e : l[i] = l[j]) : i = j := by
  have h := List.pairwise_iff_getElem.1 hn
  by_cases h1 : i < j
  · exact absurd e (h i j hi hj h1)
  · by_cases h2 : j < i
    · exact absurd e.symm (h j i hj hi h2)
    · omega
section
variable {q : Int} {m : Nat} {σ : Po} (h : P2 q m σ) {w : Nat} (hw : w < 4) {x : HdV} (hx : Hv σ w x) (a : Ac) (ha : Acok a) (p : Nat)
include h hw hx ha
theorem acts_d2 (hk : 2 ≤ pickN a.kd 8 ∧ pickN a.kd 8 ≤ 3) (hl : 0 < (arD σ w).tk.length) :
    Does Try.prog 25 [.pointer (some ⟨p, 0, none⟩), hdV x, acV a, .int .i64 q] [PoolS p σ, HdS x] (RetE (fun y : HdV => Hv (storeσ σ (bT σ w a) ((byD σ (bT σ w a)).set (pickN a.ap (byD σ (bT σ w a)).length) (a.bt % 256))) w y) (fun y => .tuple #[hdV y, .bool true]) (fun y => [PoolS p (storeσ σ (bT σ w a) ((byD σ (bT σ w a)).set (pickN a.ap (byD σ (bT σ w a)).length) (a.bt % 256))), HdS y])) := by
  have hr := h.ar_ok hw
  have hl5 := hx.lok h hw
  have hll := hx.len h hw
  have hz := hx.lenZ h hw
  obtain ⟨g1, g2, g3, g4, g5, g6, g7, g8⟩ := h.bT_ok hw a hl
  have hzk := hx.atZ h hw g1
  rw [g2] at hzk
  have hle := les_at σ (arD σ w).tk (kT σ w a) g1
  rw [← hx.les, g2] at hle
  have hkk : kT σ w a = kOf a x.les.length := by unfold kT; rw [hll]
  obtain ⟨b, hb⟩ : ∃ b, bT σ w a = b := ⟨_, rfl⟩
  obtain ⟨k, hkd⟩ : ∃ k, kT σ w a = k := ⟨_, rfl⟩
  obtain ⟨l, hld⟩ : ∃ l, byD σ (b : Int) = l := ⟨_, rfl⟩
  rw [hb] at g2 g3 g4 g5 g6 g7 g8 hzk hle ⊢
  rw [hkd] at g1 g2 hzk hle hkk
  rw [hld] at g5 g6 g7 g8 hzk ⊢
  have hst := fun (i : Nat) (bt : Int) (y : Nat) (hi : i < l.length) => store1_p h.pi hr p k b i bt g1 g2 l g5 hi y
  obtain ⟨ad, hzz⟩ : ∃ ad, x.Z.getD k default = (ad, l) := ⟨(x.Z.getD k default).1, by rw [← hzk]⟩
  rw [← hx.id] at hst
  have hd := acts_store p σ x a ha q hl5.1 k hkk (by omega) (by omega) hk b l ad (by rw [hle]; rfl) (by rw [hle]; unfold leOf; rw [Int.toNat_natCast, g6]) g7 (by omega) hzz (fun _ => σ) hst
  obtain ⟨l', hl'⟩ : ∃ l', l.set (pickN a.ap l.length) (a.bt % 256) = l' := ⟨_, rfl⟩
  have hl'l : l'.length = l.length := by rw [← hl', List.length_set]
  rw [hl'] at hd ⊢
  refine does_conv (K := [starL byZ (x.Z.eraseIdx k)]) (ret_e hd) (fun g w F hS => ?_) fun _ _ g w' F hS => ⟨⟨x.id, x.la, x.lc, x.ba, x.bc, x.les, x.Z.set k (ad, l')⟩, ⟨hx.id, ?_, ?_⟩, ?_, ?_⟩
  · have h1 := hds_open hS
    have h2 : SL g (starL byZ x.Z :: _) w := sl_ord [3, 0, 1, 2] 4 rfl h1
    have h3 := starL_take default (i := k) (by omega) h2
    rw [hzz] at h3
    exact sl_ord [2, 3, 4, 0, 1] 5 rfl h3
  · exact hx.les
  · show (x.Z.set k (ad, l')).map (fun z : Option Addr × List Int => z.2) = (arD σ w).tk.map (byD (storeσ σ b l'))
    rw [List.map_set]
    have hx2 : x.Z.map (fun z : Option Addr × List Int => z.2) = (arD σ w).tk.map (byD σ) := hx.Z
    rw [hx2]
    have hn := (h.pi.tk_nodup hr (by rw [h.nc]; decide)).1
    apply List.ext_getElem (by simp)
    intro i h1 h2
    have hi : i < (arD σ w).tk.length := by simpa using h2
    simp only [List.getElem_set, List.getElem_map]
    have hbk : (arD σ w).tk[k]'g1 = (b : Int) := by rw [← g2, List.getD_eq_getElem?_getD, List.getElem?_eq_getElem g1]; rfl
    by_cases e : k = i
    · subst e
      rw [if_pos rfl]
      unfold byD storeσ
      dsimp only
      rw [hbk, Int.toNat_natCast, updF_same]; rfl
    · rw [if_neg e]
      unfold byD storeσ
      dsimp only
      rw [updF_ne]
      intro e2
      have h7 := h.pi.tk_rng hr (List.getElem_mem hi)
      have : (arD σ w).tk[i] = (arD σ w).tk[k]'g1 := by rw [hbk]; omega
      exact e (nodup_at hn hi g1 this).symm
  · show Value.tuple #[hdV x, .bool true] = Value.tuple #[.agg #[.int .i64 (x.id : Nat), .slice x.la x.les.length x.lc, .slice x.ba (x.Z.set k (ad, l')).length x.bc], .bool true]
    rw [List.length_set]
  · refine hds_shut ?_
    have h1 := sl_ord [3, 4, 0, 1, 2] 5 rfl hS
    have h2 : SL g (byZ (ad, l') :: starL byZ (x.Z.eraseIdx k) :: PoolS p (storeσ σ b l') :: LeP x :: BhP x :: F) w' := by
      show SL g (Y2 ad l'.length l' :: _) _
      rw [hl'l]; exact h1
    have h3 := starL_put (i := k) (x := (ad, l')) (by omega) h2
    have e : BhP x = BhP ⟨x.id, x.la, x.lc, x.ba, x.bc, x.les, x.Z.set k (ad, l')⟩ := by
      show ownS _ 1 (.slice x.ba x.Z.length x.bc) x.Z.length (recs bhK x.Z) = ownS _ 1 (.slice x.ba (x.Z.set k (ad, l')).length x.bc) (x.Z.set k (ad, l')).length (recs bhK (x.Z.set k (ad, l')))
      rw [List.length_set, recs_same bhK default x.Z k (ad, l') (by omega) (by rw [hzz]; show [Value.slice ad l'.length l'.length] = [Value.slice ad l.length l.length]; rw [hl'l])]
    rw [e] at h3
    exact sl_ord [1, 2, 3, 0] 4 rfl h3
theorem acts_d3 (hk : pickN a.kd 8 = 4) (hl : 0 < (arD σ w).tk.length) :
    Does Try.prog 25 [.pointer (some ⟨p, 0, none⟩), hdV x, acV a, .int .i64 q] [PoolS p σ, HdS x] (RetE (fun y : HdV => Hv (giveσ σ w (arD σ w) (bT σ w a) (kT σ w a)) w y) (fun y => .tuple #[hdV y, .bool true]) (fun y => [PoolS p (giveσ σ w (arD σ w) (bT σ w a) (kT σ w a)), HdS y])) := by
  have hr := h.ar_ok hw
  have hl5 := hx.lok h hw
  have hll := hx.len h hw
  have hz := hx.lenZ h hw
  obtain ⟨g1, g2, g3, g4, g5, g6, g7, g8⟩ := h.bT_ok hw a hl
  have hle := les_at σ (arD σ w).tk (kT σ w a) g1
  rw [← hx.les, g2] at hle
  have hkk : kT σ w a = kOf a x.les.length := by unfold kT; rw [hll]
  obtain ⟨b, hb⟩ : ∃ b, bT σ w a = b := ⟨_, rfl⟩
  obtain ⟨k, hkd⟩ : ∃ k, kT σ w a = k := ⟨_, rfl⟩
  rw [hb] at g2 g3 g4 g5 g6 g7 g8 hle ⊢
  rw [hkd] at g1 g2 hle hkk ⊢
  have hg := give_p h.pi hr p k b g1 g2
  have hle1 : (x.les.getD k default).1 = (b : Int) := by rw [hle]; rfl
  rw [← hle1, ← hx.id] at hg
  rw [hx.id] at hg
  have hgar := giveσ_ar σ w (arD σ w) b k
  obtain ⟨τ, hτ⟩ : ∃ τ, giveσ σ w (arD σ w) b k = τ := ⟨_, rfl⟩
  have hτc : τ.cl = σ.cl ∧ τ.size = σ.size ∧ τ.bs = updF σ.bs b none := by rw [← hτ]; exact ⟨rfl, rfl, rfl⟩
  rw [hτ] at hg hgar ⊢
  have eD : arD τ w = ⟨(arD σ w).q, (arD σ w).us - σ.size (σ.cl b), (arD σ w).tk.eraseIdx k⟩ := by rw [arD_upd hgar, if_pos rfl]
  have hd := acts_give p σ τ x a ha q hl5.1 k hkk (by omega) (by omega) hk (by rw [hx.id]; exact hg)
  refine does_conv (K := [ZP x]) hd (fun g w F hS => hds_open hS) fun y _ g w' F hS => ?_
  obtain ⟨⟨la, lc⟩, ⟨ba, bc⟩⟩ := y
  refine ⟨⟨x.id, la, lc, ba, bc, x.les.eraseIdx k, x.Z.eraseIdx k⟩, ⟨hx.id, ?_, ?_⟩, rfl, hds_shut ?_⟩
  · rw [eD]
    show x.les.eraseIdx k = lesOf τ ((arD σ w).tk.eraseIdx k)
    rw [hx.les]
    unfold lesOf
    rw [erase_map, hτc.1, hτc.2.1]
  · rw [eD]
    show (x.Z.eraseIdx k).map (fun z : Option Addr × List Int => z.2) = ((arD σ w).tk.eraseIdx k).map (byD τ)
    rw [← erase_map]
    have hx2 : x.Z.map (fun z : Option Addr × List Int => z.2) = (arD σ w).tk.map (byD σ) := hx.Z
    rw [hx2, erase_map]
    refine List.map_congr_left fun c hc => ?_
    have hn := (h.pi.tk_nodup hr (by rw [h.nc]; decide)).1
    have hp := erase_perm (arD σ w).tk k g1
    rw [g2] at hp
    have hnb : ((b : Nat) : Int) ∉ (arD σ w).tk.eraseIdx k := (List.nodup_cons.1 ((hp.nodup_iff).1 hn)).1
    unfold byD
    rw [hτc.2.2, updF_ne]
    intro e2
    have h7 := h.pi.tk_rng hr (List.mem_of_mem_eraseIdx hc)
    exact hnb (by rw [show (b : Int) = c from by omega]; exact hc)
  · have h1 : SL g (starL byZ x.Z :: _) w' := sl_ord [3, 0, 1, 2] 4 rfl hS
    have h3 := (starL_take default (i := k) (by omega) h1).tail
    exact sl_ord [1, 2, 3, 0] 4 rfl h3
theorem acts_d4 (hk : pickN a.kd 8 = 5) :
    Does Try.prog 25 [.pointer (some ⟨p, 0, none⟩), hdV x, acV a, .int .i64 q] [PoolS p σ, HdS x] (RetE (fun y : HdV => Hv (openσ (closeσ σ w (arD σ w)) w q) w y) (fun y => .tuple #[hdV y, .bool true]) (fun y => [PoolS p (openσ (closeσ σ w (arD σ w)) w q), HdS y])) := by
  have hr := h.ar_ok hw
  have hl5 := hx.lok h hw
  have hc := close_p h.pi hr p (by rw [h.nc]; decide)
  have ho := openS p (closeσ σ w (arD σ w)) (by show σ.na ≤ 64; rw [h.na]; decide) w (by show w < σ.na; rw [h.na]; omega) (updF_same _ _ _) (fun j hj => by
    show (updF σ.ar w none j).isSome = true
    rw [updF_ne _ _ (by omega), (h.op j (by omega)).1]; rfl) q h.hq.1
  have eD : arD (openσ (closeσ σ w (arD σ w)) w q) w = ⟨q, 0, []⟩ := by
    unfold arD openσ; dsimp only; rw [updF_same]; rfl
  have hid := hx.id
  have hd := acts_close p σ (closeσ σ w (arD σ w)) (openσ (closeσ σ w (arD σ w)) w q) x a ha q hl5 hk (arD σ w).us (hx.sz h hw) (by rw [hid]; exact hc) (by rw [hid]; exact ho)
  refine does_conv (K := [ZP x]) (ret_e hd) (fun g w F hS => hds_open hS) fun _ _ g w' F hS => ⟨⟨x.id, none, 0, none, 0, [], []⟩, ⟨hx.id, ?_, ?_⟩, rfl, hds_shut ?_⟩
  · rw [eD]; rfl
  · rw [eD]; rfl
  · have h1 : SL g (PoolS p (openσ (closeσ σ w (arD σ w)) w q) :: F) w' := (sl_ord [1, 0] 2 rfl hS).tail
    have h2 : SL g (starL byZ [] :: _) w' := starL_nil.2 h1
    have h3 := (h2.own_nil 40 1).own_nil 42 3
    exact sl_ord [3, 0, 1, 2] 4 rfl h3
end
theorem acts_d {q : Int} {m : Nat} {σ : Po} (h : P2 q m σ) {w : Nat} (hw : w < 4) {x : HdV} (hx : Hv σ w x) (a : Ac) (ha : Acok a) (p : Nat) :
    Does Try.prog 25 [.pointer (some ⟨p, 0, none⟩), hdV x, acV a, .int .i64 q] [PoolS p σ, HdS x] (RetE (fun y : HdV => Hv (actσ σ w a q) w y) (fun y => .tuple #[hdV y, .bool true]) (fun y => [PoolS p (actσ σ w a q), HdS y])) := by
  have ht := act_way q σ w a
  generalize actσ σ w a q = τ at ht ⊢
  cases ht with
  | none hk => exact acts_d0 h hw hx a ha p hk
  | take hk hq hf => exact acts_d1 h hw hx a ha p hk hq hf
  | store hk hl => exact acts_d2 h hw hx a ha p hk hl
  | give hk hl => exact acts_d3 h hw hx a ha p hk hl
  | close hk => exact acts_d4 h hw hx a ha p hk
end Go.Proofs.Ytmplimmcjdkhlaa

/- The arena laws: holds. -/
namespace Go.Proofs.Ytmplimmcjdkhlaa
open Go.Sl Go.Xg
set_option linter.unusedVariables false
set_option linter.unusedSimpArgs false
set_option linter.unusedSectionVars false
set_option linter.unnecessarySimpa false
set_option maxHeartbeats 4000000
set_option maxRecDepth 100000

end Go.Proofs.Ytmplimmcjdkhlaa

/- The arena laws: the house and what its arenas must have. -/
namespace Go.Proofs.Ytmplimmcjdkhlaa
open Go.Sl Go.Xg
set_option linter.unusedVariables false
set_option linter.unusedSimpArgs false
set_option linter.unusedSectionVars false
set_option linter.unnecessarySimpa false
set_option maxHeartbeats 4000000
set_option maxRecDepth 100000

def h0 (i : Nat) : HdV := ⟨i, none, 0, none, 0, [], []⟩
def H0s : List HdV := [h0 0, h0 1, h0 2, h0 3]
theorem house_h (m : Nat) (q : Int) (h1 : 1 ≤ m) (h6 : m ≤ 500) (hq : 0 ≤ q ∧ q ≤ 100000) : Does Try.prog 24 [.int .i64 (m : Nat), .int .i64 q] []
    (RetE (fun x : Nat × Option Addr × Nat => True) (fun x => .tuple #[.pointer (some ⟨x.1, 0, none⟩), .slice x.2.1 4 x.2.2, .bool true])
      (fun x => [PoolS x.1 (opsσ m q 4), recsO 62 3 hdK x.2.1 x.2.2 H0s, starL HdS H0s])) := by
  refine does_conv (K := []) (house_d m q h1 h6 hq) (fun g w F hS => hS) fun x _ g w F hS => ⟨x, trivial, rfl, ?_⟩
  have key : ∀ (i : Nat) (L : List HP), SL g L w → SL g (HdS (h0 i) :: L) w := fun i L hL => by
    have h2 : SL g (starL byZ [] :: L) w := starL_nil.2 hL
    have h3 := (h2.own_nil 40 1).own_nil 42 3
    exact SL.flat.2 h3
  have h1 := key 3 _ hS
  have h2 := key 2 _ h1
  have h3 := key 1 _ h2
  have h4 := key 0 _ h3
  have h5 : SL g (starL HdS [] :: HdS (h0 0) :: HdS (h0 1) :: HdS (h0 2) :: HdS (h0 3) :: ([PoolS x.1 (opsσ m q 4), recsO 62 3 hdK x.2.1 x.2.2 H0s] ++ F)) w := starL_nil.2 h4
  have h6 := starL_cons.2 (sl_ord [4, 0, 1, 2, 3] 5 rfl h5)
  have h7 := starL_cons.2 (sl_ord [3, 0, 1, 2] 4 rfl h6)
  have h8 := starL_cons.2 (sl_ord [2, 0, 1] 3 rfl h7)
  have h9 := starL_cons.2 (sl_ord [1, 0] 2 rfl h8)
  exact sl_ord [1, 2, 0] 3 rfl h9
/-- The Pool and what the four must have. -/
structure Hs4 (q : Int) (m : Nat) (σ : Po) (H : List HdV) : Prop where
  p2 : P2 q m σ
  len : H.length = 4
  all : ∀ w, w < 4 → Hv σ w (H.getD w default)
theorem hs_start (m : Nat) (q : Int) (h1 : 1 ≤ m) (h6 : m ≤ 500) (hq : 0 ≤ q ∧ q ≤ 1000) : Hs4 q m (opsσ m q 4) H0s := by
  obtain ⟨e1, e2, e3, e4, e5, e6⟩ := ops_same m q 4
  have hD : ∀ w, w < 4 → arD (opsσ m q 4) w = ⟨q, 0, []⟩ := fun w hw => by unfold arD; rw [ops_ar, if_pos hw]; rfl
  refine ⟨{ pi := ops_inv m q h1 h6 (by omega) 4 (Nat.le_refl _), nc := e1, na := ops_na m q 4, nb := e2, s0 := by rw [e4]; rfl, s1 := by rw [e4]; rfl, op := fun w hw => ?_, no := by rw [ops_ar]; rfl, hq := hq, fm := fun b hb => ?_ }, rfl, fun w hw => ?_⟩
  · rw [hD w hw, ops_ar, if_pos hw]; exact ⟨rfl, rfl⟩
  · rw [e5]
    show ((bufL (ksH m) 2).getD b default).cls = _
    split
    · rename_i h
      have h2 := bufL_cls (ksH m) 0 b (by show b < m; exact h) 2 (by decide)
      simpa [bufL] using h2
    · rename_i h
      have h2 := bufL_cls (ksH m) 1 (b - m) (by show b - m < m; omega) 2 (by decide)
      have h3 : (bufL (ksH m) 1).length = m := by
        show (bufL (ksH m) (0 + 1)).length = m
        rw [bufL_one]; show 0 + m = m; omega
      rw [h3, show m + (b - m) = b from by omega] at h2
      exact h2
  · have hg : H0s.getD w default = h0 w := by
      have : w = 0 ∨ w = 1 ∨ w = 2 ∨ w = 3 := by omega
      rcases this with rfl | rfl | rfl | rfl <;> rfl
    rw [hg]
    exact ⟨rfl, by rw [hD w hw]; rfl, by rw [hD w hw]; rfl⟩
theorem Hs4.act {q : Int} {m : Nat} {σ : Po} {H : List HdV} (h : Hs4 q m σ H) {w : Nat} (hw : w < 4) (a : Ac) {y : HdV} (hy : Hv (actσ σ w a q) w y) : Hs4 q m (actσ σ w a q) (H.set w y) := by
  have ht := act_way q σ w a
  refine ⟨h.p2.act hw a ht, by rw [List.length_set]; exact h.len, fun j hj => ?_⟩
  by_cases e : j = w
  · subst e
    rw [List.getD_eq_getElem?_getD, List.getElem?_set_self (by rw [h.len]; exact hj)]
    exact hy
  · rw [List.getD_eq_getElem?_getD, List.getElem?_set_ne (fun e2 => e e2.symm), ← List.getD_eq_getElem?_getD]
    exact h.p2.act_other hw a ht hj e (h.all j hj)
theorem at_L_take {P : Program} {f : FuncId} {g : World} {F : List HP} {R : Ending → World → Prop} {k : List Item} {T : List Value} {L : List HP} {α : Type} {cs : α → HP} {l : List α} (d : α) {i : Nat} (hi : i < l.length) (h : At P f g F R k T (cs (l.getD i d) :: starL cs (l.eraseIdx i) :: L)) : At P f g F R k T (starL cs l :: L) := h.sl fun w hS => starL_take d hi hS
theorem at_L_put {P : Program} {f : FuncId} {g : World} {F : List HP} {R : Ending → World → Prop} {k : List Item} {T : List Value} {L : List HP} {α : Type} {cs : α → HP} {l : List α} {i : Nat} {x : α} (hi : i < l.length) (h : At P f g F R k T (starL cs (l.set i x) :: L)) : At P f g F R k T (cs x :: starL cs (l.eraseIdx i) :: L) := h.sl fun w hS => starL_put hi hS
theorem at_reslot {P : Program} {f : FuncId} {g : World} {F : List HP} {R : Ending → World → Prop} {k : List Item} {T : List Value} {L : List HP} (i : Nat) (v v' : Value) (h1 : T[i]? = some v') (e : v' = v) (h : At P f g F R k (T.set i v) L) : At P f g F R k T L := by
  have e2 : T.set i v = T := by
    apply List.ext_getElem (by simp)
    intro j g1 g2
    rw [List.getElem_set]
    split
    · rename_i h3
      subst h3
      rw [List.getElem?_eq_getElem g2] at h1
      cases h1
      exact e.symm
    · rfl
  rwa [e2] at h
end Go.Proofs.Ytmplimmcjdkhlaa

/- The arena laws, plain: what does not hang on the picks. -/
namespace Go.Proofs.Ytmplimmcjdkhlaa
open Go.Sl Go.Xg
set_option linter.unusedVariables false
set_option linter.unusedSimpArgs false
set_option linter.unusedSectionVars false
set_option linter.unnecessarySimpa false
set_option maxHeartbeats 4000000
set_option maxRecDepth 100000

/-- What is seen of an arena, but for the numbers: the classes and sizes, the bytes. -/
def obsL (σ : Po) (w : Nat) : List (Int × Int) := (lesOf σ (arD σ w).tk).map fun l => l.2
def obsB (σ : Po) (w : Nat) : List (List Int) := (arD σ w).tk.map (byD σ)
theorem obs_of {σ : Po} {w : Nat} {x : HdV} (h : Hv σ w x) : x.les.map (fun l => l.2) = obsL σ w ∧ x.Z.map (fun z => z.2) = obsB σ w := ⟨by rw [h.les]; rfl, h.Z⟩
/-- Alike. -/
structure Alike (σ ρ : Po) : Prop where
  l : ∀ w, w < 4 → obsL σ w = obsL ρ w
  b : ∀ w, w < 4 → obsB σ w = obsB ρ w
  f : ∀ k, k < 2 → (σ.fr k).length = (ρ.fr k).length
def hvOf (σ : Po) (j : Nat) : HdV := ⟨j, none, 0, none, 0, lesOf σ (arD σ j).tk, (arD σ j).tk.map fun b => (none, byD σ b)⟩
theorem hvOf_ok (σ : Po) (j : Nat) : Hv σ j (hvOf σ j) := ⟨rfl, rfl, by unfold hvOf; dsimp only; rw [List.map_map]; rfl⟩
section
variable {q : Int} {m : Nat} {σ : Po} (h : P2 q m σ) {w : Nat} (hw : w < 4) (a : Ac)
include h hw
theorem obs_other {τ : Po} (ht : Way q σ w a τ) {j : Nat} (hj : j < 4) (hjw : j ≠ w) : obsL τ j = obsL σ j ∧ obsB τ j = obsB σ j := by
  have h1 := obs_of (hvOf_ok σ j)
  have h2 := obs_of (h.act_other hw a ht hj hjw (hvOf_ok σ j))
  exact ⟨h2.1.symm.trans h1.1, h2.2.symm.trans h1.2⟩
theorem obs_len : (obsL σ w).length = (arD σ w).tk.length ∧ (obsB σ w).length = (arD σ w).tk.length := by
  unfold obsL obsB lesOf; simp
theorem obs_us : ((obsL σ w).map fun x => x.2).sum = (arD σ w).us := by
  have h1 := (h.pi.au w _ (h.ar_ok hw)).1
  rw [h1, ← sizeL_les]
  unfold obsL sizeL
  rw [List.map_map]; rfl
theorem take_obs (pk : Int) (hf : 0 < (σ.fr (clsA a)).length) : obsL (takP σ w (arD σ w) (clsA a) pk) w = obsL σ w ++ [((clsA a : Int), (hasA a : Int))] ∧ obsB (takP σ w (arD σ w) (clsA a) pk) w = obsB σ w ++ [List.replicate (hasA a) 0] ∧ ∀ k, ((takP σ w (arD σ w) (clsA a) pk).fr k).length = if k = clsA a then (σ.fr k).length - 1 else (σ.fr k).length := by
  obtain ⟨c1, c2, c3, c4⟩ := clsA_has h a
  have hr := h.ar_ok hw
  obtain ⟨v, g1, g2, g3, g4, g5, g6⟩ := h.pi.fr_at (k := clsA a) (pickN_lt pk _ hf)
  have e : tkV σ (clsA a) pk = v := by unfold tkV tkI; rw [g1]; rfl
  have eD : arD (takP σ w (arD σ w) (clsA a) pk) w = ⟨(arD σ w).q, (arD σ w).us + σ.size (clsA a), (arD σ w).tk ++ [(v : Int)]⟩ := by rw [arD_upd (takP_ar _ _ _ _ _), if_pos rfl, e]
  have hτb : (takP σ w (arD σ w) (clsA a) pk).bs = updF σ.bs v (some (List.replicate (hasA a) 0)) := by rw [← c2, ← e]; rfl
  refine ⟨?_, ?_, fun k => ?_⟩
  · unfold obsL
    rw [eD]
    show ((lesOf σ ((arD σ w).tk ++ [(v : Int)])).map fun l => l.2) = _
    unfold lesOf
    rw [List.map_append, List.map_append]
    show _ = _ ++ [_]
    congr 1
    show [(((σ.cl ((v : Int)).toNat : Nat) : Int), ((σ.size (σ.cl ((v : Int)).toNat) : Nat) : Int))] = _
    rw [Int.toNat_natCast, g3, c2]
  · unfold obsB
    rw [eD]
    show ((arD σ w).tk ++ [(v : Int)]).map _ = _
    rw [List.map_append]
    congr 1
    · refine List.map_congr_left fun b hb => ?_
      unfold byD
      rw [hτb, updF_ne]
      intro e2
      have h7 := h.pi.tk_rng hr hb
      exact h.pi.apart hr (x := b) (by rw [show b = (v : Int) from by omega]; exact g6) hb
    · show [byD _ _] = [List.replicate (hasA a) 0]
      unfold byD
      rw [hτb, Int.toNat_natCast, updF_same]; rfl
  · show (updF σ.fr (clsA a) ((σ.fr (clsA a)).eraseIdx (tkI σ (clsA a) pk)) k).length = _
    unfold updF
    split
    · rename_i e2
      rw [List.length_eraseIdx, if_pos (show tkI σ (clsA a) pk < _ from pickN_lt pk _ hf), e2]
    · rfl
theorem store_obs (hl : 0 < (arD σ w).tk.length) (l : List Int) (hll : l.length = (byD σ (bT σ w a)).length) : obsL (storeσ σ (bT σ w a) l) w = obsL σ w ∧ obsB (storeσ σ (bT σ w a) l) w = (obsB σ w).set (kT σ w a) l ∧ (obsB σ w).getD (kT σ w a) [] = byD σ (bT σ w a) := by
  have hr := h.ar_ok hw
  obtain ⟨g1, g2, g3, g4, g5, g6, g7, g8⟩ := h.bT_ok hw a hl
  refine ⟨rfl, ?_, ?_⟩
  · have hn := (h.pi.tk_nodup hr (by rw [h.nc]; decide)).1
    unfold obsB
    apply List.ext_getElem (by rw [List.length_set, List.length_map, List.length_map]; rfl)
    intro i h1 h2
    have hi : i < (arD σ w).tk.length := by simpa using h2
    have hD : arD (storeσ σ (bT σ w a) l) w = arD σ w := rfl
    simp only [hD, List.getElem_set, List.getElem_map]
    have hbk : (arD σ w).tk[kT σ w a]'g1 = (bT σ w a : Int) := by rw [← g2, List.getD_eq_getElem?_getD, List.getElem?_eq_getElem g1]; rfl
    by_cases e : kT σ w a = i
    · rw [if_pos e]
      have e3 : (arD σ w).tk[i] = (bT σ w a : Int) := by rw [← hbk]; congr 1; exact e.symm
      unfold byD storeσ
      dsimp only
      rw [e3, Int.toNat_natCast, updF_same]; rfl
    · rw [if_neg e]
      unfold byD storeσ
      dsimp only
      rw [updF_ne]
      intro e2
      have h7 := h.pi.tk_rng hr (List.getElem_mem hi)
      have : (arD σ w).tk[i] = (arD σ w).tk[kT σ w a]'g1 := by rw [hbk]; omega
      exact e (nodup_at hn hi g1 this).symm
  · unfold obsB
    rw [List.getD_eq_getElem?_getD, List.getElem?_map, List.getElem?_eq_getElem g1]
    show byD σ ((arD σ w).tk[kT σ w a]) = _
    have hbk : (arD σ w).tk[kT σ w a]'g1 = (bT σ w a : Int) := by rw [← g2, List.getD_eq_getElem?_getD, List.getElem?_eq_getElem g1]; rfl
    rw [hbk]
theorem give_obs (hl : 0 < (arD σ w).tk.length) : obsL (giveσ σ w (arD σ w) (bT σ w a) (kT σ w a)) w = (obsL σ w).eraseIdx (kT σ w a) ∧ obsB (giveσ σ w (arD σ w) (bT σ w a) (kT σ w a)) w = (obsB σ w).eraseIdx (kT σ w a) ∧
    (∀ k, ((giveσ σ w (arD σ w) (bT σ w a) (kT σ w a)).fr k).length = if k = σ.cl (bT σ w a) then (σ.fr k).length + 1 else (σ.fr k).length) ∧ ((obsL σ w).getD (kT σ w a) (0, 0)).1 = (σ.cl (bT σ w a) : Int) := by
  have hr := h.ar_ok hw
  obtain ⟨g1, g2, g3, g4, g5, g6, g7, g8⟩ := h.bT_ok hw a hl
  have eD : arD (giveσ σ w (arD σ w) (bT σ w a) (kT σ w a)) w = ⟨(arD σ w).q, (arD σ w).us - σ.size (σ.cl (bT σ w a)), (arD σ w).tk.eraseIdx (kT σ w a)⟩ := by rw [arD_upd (giveσ_ar _ _ _ _ _), if_pos rfl]
  refine ⟨?_, ?_, fun k => ?_, ?_⟩
  · unfold obsL
    rw [eD]
    show ((lesOf σ ((arD σ w).tk.eraseIdx (kT σ w a))).map fun l => l.2) = _
    unfold lesOf
    rw [erase_map, erase_map]
  · unfold obsB
    rw [eD, erase_map]
    refine List.map_congr_left fun c hc => ?_
    have hn := (h.pi.tk_nodup hr (by rw [h.nc]; decide)).1
    have hp := erase_perm (arD σ w).tk (kT σ w a) g1
    rw [g2] at hp
    have hnb : ((bT σ w a : Nat) : Int) ∉ (arD σ w).tk.eraseIdx (kT σ w a) := (List.nodup_cons.1 ((hp.nodup_iff).1 hn)).1
    show (updF σ.bs (bT σ w a) none c.toNat).getD [] = _
    rw [updF_ne]
    · rfl
    · intro e2
      have h7 := h.pi.tk_rng hr (List.mem_of_mem_eraseIdx hc)
      exact hnb (by rw [show (bT σ w a : Int) = c from by omega]; exact hc)
  · show (updF σ.fr (σ.cl (bT σ w a)) (sins (bT σ w a : Nat) (σ.fr (σ.cl (bT σ w a)))) k).length = _
    unfold updF
    split
    · rename_i e; rw [sins_len, e]
    · rfl
  · unfold obsL lesOf
    rw [List.getD_eq_getElem?_getD, List.getElem?_map, List.getElem?_map, List.getElem?_eq_getElem g1]
    show ((σ.cl ((arD σ w).tk[kT σ w a]).toNat : Nat) : Int) = _
    have hbk : (arD σ w).tk[kT σ w a]'g1 = (bT σ w a : Int) := by rw [← g2, List.getD_eq_getElem?_getD, List.getElem?_eq_getElem g1]; rfl
    rw [hbk, Int.toNat_natCast]
/-- How many of a class. -/
def cntC (l : List (Int × Int)) (k : Nat) : Nat := (l.filter fun x => x.1 == (k : Int)).length
omit h hw in
theorem backF_len (cl : Nat → Nat) : ∀ (l : List Int) (fr : Nat → List Int) (k : Nat), (backF cl fr l k).length = (fr k).length + (l.filter fun x => cl x.toNat == k).length
  | [], fr, k => rfl
  | x :: l, fr, k => by
    rw [backF_cons, backF_len cl l, List.filter_cons]
    unfold updF
    by_cases e : k = cl x.toNat
    · rw [if_pos e, sins_len, if_pos (by simp [e]), List.length_cons, ← e]; omega
    · rw [if_neg e, if_neg (by simpa using fun h => e h.symm)]
theorem close_obs : obsL (openσ (closeσ σ w (arD σ w)) w q) w = [] ∧ obsB (openσ (closeσ σ w (arD σ w)) w q) w = [] ∧ ∀ k, ((openσ (closeσ σ w (arD σ w)) w q).fr k).length = (σ.fr k).length + cntC (obsL σ w) k := by
  have eD : arD (openσ (closeσ σ w (arD σ w)) w q) w = ⟨q, 0, []⟩ := by
    unfold arD openσ; dsimp only; rw [updF_same]; rfl
  refine ⟨by unfold obsL; rw [eD]; rfl, by unfold obsB; rw [eD]; rfl, fun k => ?_⟩
  show (backF σ.cl σ.fr (arD σ w).tk k).length = _
  rw [backF_len]
  congr 1
  unfold cntC obsL lesOf
  rw [List.map_map, List.filter_map, List.length_map]
  congr 1
  refine List.filter_congr fun x _ => ?_
  show (σ.cl x.toNat == k) = (((σ.cl x.toNat : Nat) : Int) == (k : Int))
  by_cases e : σ.cl x.toNat = k
  · rw [e]; simp
  · rw [beq_eq_false_iff_ne.2 e, beq_eq_false_iff_ne.2 (by omega)]
end
theorem Alike.us {q : Int} {m : Nat} {σ ρ : Po} (hσ : P2 q m σ) (hρ : P2 q m ρ) (h : Alike σ ρ) {w : Nat} (hw : w < 4) : (arD σ w).us = (arD ρ w).us := by
  rw [← obs_us hσ hw, ← obs_us hρ hw, h.l w hw]
theorem Alike.len {q : Int} {m : Nat} {σ ρ : Po} (hσ : P2 q m σ) (hρ : P2 q m ρ) (h : Alike σ ρ) {w : Nat} (hw : w < 4) : (arD σ w).tk.length = (arD ρ w).tk.length := by
  rw [← (obs_len hσ hw).1, ← (obs_len hρ hw).1, h.l w hw]
/-- The same but for the pick of a Take. -/
def SameA (a b : Ac) : Prop := b.kd = a.kd ∧ b.sz = a.sz ∧ b.ap = a.ap ∧ b.bt = a.bt ∧ (2 ≤ pickN a.kd 8 → b.pk = a.pk)
theorem Alike.mk' {q : Int} {m : Nat} {σ ρ τ υ : Po} (hσ : P2 q m σ) (hρ : P2 q m ρ) (h : Alike σ ρ) {w : Nat} (hw : w < 4) {a b : Ac} (h1 : Way q σ w a τ) (h2 : Way q ρ w b υ) (el : obsL τ w = obsL υ w) (eb : obsB τ w = obsB υ w) (ef : ∀ k, k < 2 → (τ.fr k).length = (υ.fr k).length) : Alike τ υ := by
  refine ⟨fun j hj => ?_, fun j hj => ?_, ef⟩
  · by_cases e : j = w
    · rw [e]; exact el
    · rw [(obs_other hσ hw a h1 hj e).1, (obs_other hρ hw b h2 hj e).1]; exact h.l j hj
  · by_cases e : j = w
    · rw [e]; exact eb
    · rw [(obs_other hσ hw a h1 hj e).2, (obs_other hρ hw b h2 hj e).2]; exact h.b j hj
theorem Alike.act {q : Int} {m : Nat} {σ ρ : Po} (hσ : P2 q m σ) (hρ : P2 q m ρ) (h : Alike σ ρ) {w : Nat} (hw : w < 4) {a b : Ac} (hab : SameA a b) : Alike (actσ σ w a q) (actσ ρ w b q) := by
  obtain ⟨e1, e2, e3, e4, e5⟩ := hab
  have hus := h.us hσ hρ hw
  have hln := h.len hσ hρ hw
  have hc : clsA b = clsA a := by unfold clsA; rw [e2]
  have hh : hasA b = hasA a := by unfold hasA; rw [e2]
  have hc2 : clsA a < 2 := by unfold clsA; split <;> omega
  have hf := h.f (clsA a) hc2
  have w1 := act_way q σ w a
  have w2 := act_way q ρ w b
  unfold actσ at w1 w2 ⊢
  rw [e1, hc, hh, ← hus, ← hf] at w2 ⊢
  by_cases k1 : pickN a.kd 8 ≤ 1
  · rw [if_pos k1] at w1 w2 ⊢
    rw [if_pos k1]
    by_cases k2 : q < (arD σ w).us + hasA a
    · rw [if_pos k2] at w1 w2 ⊢
      rw [if_pos k2]; exact h
    · rw [if_neg k2] at w1 w2 ⊢
      rw [if_neg k2]
      by_cases k3 : (σ.fr (clsA a)).length = 0
      · rw [if_pos k3] at w1 w2 ⊢
        rw [if_pos k3]; exact h
      · rw [if_neg k3] at w1 w2 ⊢
        rw [if_neg k3]
        obtain ⟨o1, o2, o3⟩ := take_obs hσ hw a a.pk (by omega)
        have o4 := take_obs hρ hw b b.pk (by rw [hc]; omega)
        rw [hc, hh] at o4
        obtain ⟨o4, o5, o6⟩ := o4
        refine Alike.mk' hσ hρ h hw w1 w2 (by rw [o1, o4, h.l w hw]) (by rw [o2, o5, h.b w hw]) fun k hk => ?_
        rw [o3, o6, h.f k hk]
  · rw [if_neg k1] at w1 w2 ⊢
    rw [if_neg k1]
    have hpk := e5 (by omega)
    have hkT : kT ρ w b = kT σ w a := by unfold kT kOf; rw [hpk, hln]
    by_cases k2 : pickN a.kd 8 ≤ 3
    · rw [if_pos k2] at w1 w2 ⊢
      rw [if_pos k2]
      by_cases k3 : (arD σ w).tk.length = 0
      · rw [if_pos k3] at w1 ⊢
        rw [if_pos (by rw [← hln]; exact k3)] at w2 ⊢
        exact h
      · rw [if_neg k3] at w1 ⊢
        rw [if_neg (by rw [← hln]; exact k3)] at w2 ⊢
        obtain ⟨o1, o2, o3⟩ := store_obs hσ hw a (by omega) ((byD σ (bT σ w a)).set (pickN a.ap (byD σ (bT σ w a)).length) (a.bt % 256)) (List.length_set ..)
        obtain ⟨p1, p2, p3⟩ := store_obs hρ hw b (by omega) ((byD ρ (bT ρ w b)).set (pickN b.ap (byD ρ (bT ρ w b)).length) (b.bt % 256)) (List.length_set ..)
        have hby : byD ρ (bT ρ w b) = byD σ (bT σ w a) := by rw [← o3, ← p3, hkT, h.b w hw]
        refine Alike.mk' hσ hρ h hw w1 w2 (by rw [o1, p1, h.l w hw]) (by rw [o2, p2, hkT, hby, e3, e4, h.b w hw]) fun k hk => h.f k hk
    · rw [if_neg k2] at w1 w2 ⊢
      rw [if_neg k2]
      by_cases k4 : pickN a.kd 8 = 4
      · rw [if_pos k4] at w1 w2 ⊢
        rw [if_pos k4]
        by_cases k3 : (arD σ w).tk.length = 0
        · rw [if_pos k3] at w1 ⊢
          rw [if_pos (by rw [← hln]; exact k3)] at w2 ⊢
          exact h
        · rw [if_neg k3] at w1 ⊢
          rw [if_neg (by rw [← hln]; exact k3)] at w2 ⊢
          obtain ⟨o1, o2, o3, o4⟩ := give_obs hσ hw a (by omega)
          obtain ⟨p1, p2, p3, p4⟩ := give_obs hρ hw b (by omega)
          have hcl : ρ.cl (bT ρ w b) = σ.cl (bT σ w a) := by
            rw [hkT, ← h.l w hw, o4] at p4; omega
          refine Alike.mk' hσ hρ h hw w1 w2 (by rw [o1, p1, hkT, h.l w hw]) (by rw [o2, p2, hkT, h.b w hw]) fun k hk => ?_
          rw [o3, p3, hcl, h.f k hk]
      · rw [if_neg k4] at w1 w2 ⊢
        rw [if_neg k4]
        by_cases k5 : pickN a.kd 8 = 5
        · rw [if_pos k5] at w1 w2 ⊢
          rw [if_pos k5]
          obtain ⟨o1, o2, o3⟩ := close_obs hσ hw
          obtain ⟨p1, p2, p3⟩ := close_obs hρ hw
          refine Alike.mk' hσ hρ h hw w1 w2 (by rw [o1, p1]) (by rw [o2, p2]) fun k hk => ?_
          rw [o3, p3, h.l w hw, h.f k hk]
        · rw [if_neg k5] at w1 w2 ⊢
          rw [if_neg k5]; exact h
theorem Alike.refl (σ : Po) : Alike σ σ := ⟨fun _ _ => rfl, fun _ _ => rfl, fun _ _ => rfl⟩
end Go.Proofs.Ytmplimmcjdkhlaa
