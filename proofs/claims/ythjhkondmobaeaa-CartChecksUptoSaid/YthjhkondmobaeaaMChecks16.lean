import Derived.Test.YthjhkondmobaeaaMChecks15
/- cart: the ROM that a raw box makes. -/
namespace Go.Proofs.Ythjhkondmobaeaa
open Go.Sl Go.Xg
set_option linter.unusedVariables false
set_option linter.unusedSimpArgs false
set_option maxHeartbeats 4000000
set_option maxRecDepth 100000

theorem rom_raw (A : HP) (t rc rr sd mo : Int) (P Q : List Int) (pa qa : Option Addr) (np pc nq qc n : Nat) (ht : iok t) (hrc : iok rc) (hrr : iok rr) (hsd : iok sd) (hmo : iok mo) (hP : P.length = np) (hQ : Q.length = nq) (hnp : np ≤ maxLen) (hnq : nq ≤ maxLen) (hPo : ∀ i, i < np → iok (P.getD i 0)) (hQo : ∀ i, i < nq → iok (Q.getD i 0))
    (hRP : Reads A 1 (.slice pa np pc) np (P.map (Value.int .i64))) (hRQ : Reads A 1 (.slice qa nq qc) nq (Q.map (Value.int .i64))) (hn : (n : Int) = 16384 * bnkC (pickI rc 7) + morI mo) :
    Does Try.prog 10 [.agg #[.int .i64 t, .int .i64 rc, .int .i64 rr, .int .i64 sd, .int .i64 mo, .slice pa np pc, .slice qa nq qc, .bool true]] [A] (RetE (fun x : Option Addr × List Int => x.2.length = n ∧ isB x.2) (fun x => .slice x.1 n n) (fun x => [bts x.1 n n x.2, A])) := by
  have hml : maxLen = 9223372036854775807 := by unfold maxLen; decide
  have hp7 := pick_lt rc 7 (by decide)
  have hp6 := pick_lt mo 600 (by decide)
  have hp26 := pick_lt sd 26 (by decide)
  obtain ⟨hs1, hs2, hs3⟩ := shl_box hp7
  have hd7 := pick_d rc 7 hrc (by decide)
  have hd6 := pick_d mo 600 hmo (by decide)
  have hd26 := pick_d sd 26 hsd (by decide)
  obtain ⟨bk, hbk⟩ : ∃ bk, bnkC (pickI rc 7) = bk := ⟨_, rfl⟩
  rw [hbk] at hs1 hs2 hs3 hn
  obtain ⟨r7, hr7⟩ : ∃ r7, pickI rc 7 = r7 := ⟨_, rfl⟩
  rw [hr7] at hs1 hp7 hd7
  have hnl : 32468 ≤ n ∧ n ≤ 2097451 := by
    unfold morI at hn
    split at hn <;> omega
  (focus
    refine Xg.spec_of Go.Proofs.Try.func10 rfl Go.Proofs.Try.ntmps10 fun g F => ?_)
  (focus
    refine Xg.at_seq ?_
    refine Xg.at_region ?_
    refine Xg.ops_op (by kernel_rfl) (Xg.opx_box (v := (Value.agg #[iv t, iv rc, iv rr, iv sd, iv mo, Value.slice pa np pc, Value.slice qa nq qc, Value.bool true])) [iv t, iv rc, iv rr, iv sd, iv mo, Value.slice pa np pc, Value.slice qa nq qc, Value.bool true] (by kernel_rfl) (by kernel_rfl) fun xb1 => ?_)
    refine Xg.ops_op (by kernel_rfl) (Xg.opx_pure ((Value.slice none (0 : Nat) (0 : Nat))) rfl (fun _ => by kernel_rfl) ?_)
    refine Xg.ops_nil ?_
    refine Xg.at_seq ?_
    refine Xg.at_region ?_
    refine Xg.ops_op (by kernel_rfl) (Xg.opx_pure ((pv xb1 1)) rfl (fun _ => by kernel_rfl) ?_)
    refine Xg.ops_op (by kernel_rfl) (Xg.opx_load (b := xb1) (off := ((1 : Nat))) 0 (iv rc) rfl (by kernel_rfl) (by kernel_rfl) (by kernel_rfl) ?_)
    refine Xg.ops_op (by kernel_rfl) (Xg.opx_call1' [] [row xb1 (31 : Nat) [iv t, iv rc, iv rr, iv sd, iv mo, Value.slice pa np pc, Value.slice qa nq qc, Value.bool true], A] (fun _ => by kernel_rfl) (@hd7 ) (by kernel_rfl) (by kernel_rfl) (by kernel_rfl) ?_)
    refine Xg.ops_op (by kernel_rfl) (Xg.opx_run (.int .i64 (IntKind.wrap .i64 (((32768 : Int)) * 2 ^ min (Int.toNat r7) (IntKind.bits .i64)))) rfl (fun _ => Xg.run_shl (k1 := .i64) (k2 := .i64) (m := ((32768 : Int))) (e := r7) (by kernel_rfl) (by kernel_rfl) (by omega)) ?_)
    refine Xg.ops_op (by kernel_rfl) (Xg.opx_pure ((iv (IntKind.i64.wrap ((32768 : Int) * (2 : Int) ^ min r7.toNat IntKind.i64.bits)))) rfl (fun _ => by kernel_rfl) ?_)
    refine Xg.ops_nil ?_
    refine Xg.at_seq ?_
    refine Xg.at_seq ?_
    refine Xg.at_region ?_
    refine Xg.ops_op (by kernel_rfl) (Xg.opx_pure ((pv xb1 4)) rfl (fun _ => by kernel_rfl) ?_)
    refine Xg.ops_op (by kernel_rfl) (Xg.opx_load (b := xb1) (off := ((4 : Nat))) 0 (iv mo) rfl (by kernel_rfl) (by kernel_rfl) (by kernel_rfl) ?_)
    refine Xg.ops_op (by kernel_rfl) (Xg.opx_pure (.bool (!decide ((mo : Int) = ((0 : Int))))) rfl (fun _ => by kernel_rfl) ?_)
    refine Xg.ops_nil ?_)
  (focus
    refine Xg.at_cut (α := (Int) × (Nat → Value)) (fun x9 => ((fun m => m = (n : Int)) : (Int) → Prop) x9.1) (fun x9 => Xg.headT [Value.agg #[iv t, iv rc, iv rr, iv sd, iv mo, Value.slice pa np pc, Value.slice qa nq qc, Value.bool true], pv xb1 0, Value.slice none (0 : Nat) (0 : Nat), iv (IntKind.i64.wrap ((32768 : Int) * (2 : Int) ^ min r7.toNat IntKind.i64.bits)), tu, tu, tu, tu, tu, pv xb1 1, iv rc, iv r7, iv (IntKind.i64.wrap ((32768 : Int) * (2 : Int) ^ min r7.toNat IntKind.i64.bits)), pv xb1 4, iv mo, Value.bool !decide (mo = (0 : Int)), tu, tu, tu, tu, tu, tu, tu, tu, tu, tu, tu, tu, tu, tu, tu, tu, tu, tu, tu, tu, tu, tu, tu, tu, tu, tu, tu, tu, tu, tu, tu, tu, tu, tu, tu, tu, tu, tu, tu, tu, tu, tu, tu, tu, tu, tu, tu, tu, tu, tu, tu, tu, tu, tu, tu, tu, tu, tu, tu, tu, tu, tu, tu, tu, tu, tu, tu, tu, tu, tu, tu, tu, tu, tu, tu, tu, tu, tu, tu, tu, tu, tu, tu, tu, tu, tu, tu, tu, tu, tu, tu, tu, tu, tu, tu, tu, tu, tu, tu, tu, tu, tu, tu, tu, tu, tu, tu, tu, tu, tu, tu, tu, tu, tu, tu, tu, tu, tu] [16, 17, 18, 19, 20, 21] (((fun m => [(3, .int .i64 m)]) : (Int) → List (Nat × Go.Value)) x9.1) x9.2) (fun x9 => ((fun m => [row xb1 31 [.int .i64 t, .int .i64 rc, .int .i64 rr, .int .i64 sd, .int .i64 mo, .slice pa np pc, .slice qa nq qc, .bool true], A]) : (Int) → List Go.Sl.HP) x9.1) (fun kk hk => ?_) ?_)
  · unfold morI at hn
    by_cases hm0 : mo = 0
    · rw [if_pos hm0] at hn
      (focus
        refine Xg.at_false (t := !decide ((mo = (0 : Int)))) (by kernel_rfl) (by rw [decide_eq_true (by omega)]; rfl) ?_
        refine Xg.at_skip ?_)
      (focus
        refine Xg.at_keep [0, 1] (by kernel_rfl) ?_
        refine Xg.At.same (by kernel_rfl) ?_ (hk (((IntKind.wrap .i64 ((32768 : Int) * 2 ^ min (Int.toNat r7) (IntKind.bits .i64)))), fun j9 => ([Value.agg #[iv t, iv rc, iv rr, iv sd, iv mo, Value.slice pa np pc, Value.slice qa nq qc, Value.bool true], pv xb1 0, Value.slice none (0 : Nat) (0 : Nat), iv (IntKind.i64.wrap ((32768 : Int) * (2 : Int) ^ min r7.toNat IntKind.i64.bits)), tu, tu, tu, tu, tu, pv xb1 1, iv rc, iv r7, iv (IntKind.i64.wrap ((32768 : Int) * (2 : Int) ^ min r7.toNat IntKind.i64.bits)), pv xb1 4, iv mo, Value.bool !decide (mo = (0 : Int)), tu, tu, tu, tu, tu, tu, tu, tu, tu, tu, tu, tu, tu, tu, tu, tu, tu, tu, tu, tu, tu, tu, tu, tu, tu, tu, tu, tu, tu, tu, tu, tu, tu, tu, tu, tu, tu, tu, tu, tu, tu, tu, tu, tu, tu, tu, tu, tu, tu, tu, tu, tu, tu, tu, tu, tu, tu, tu, tu, tu, tu, tu, tu, tu, tu, tu, tu, tu, tu, tu, tu, tu, tu, tu, tu, tu, tu, tu, tu, tu, tu, tu, tu, tu, tu, tu, tu, tu, tu, tu, tu, tu, tu, tu, tu, tu, tu, tu, tu, tu, tu, tu, tu, tu, tu, tu, tu, tu, tu, tu, tu, tu, tu, tu, tu, tu, tu, tu] : List Value).getD j9 undef) ?_))
      · rfl
      · show _ = (n : Int); rw [hs1]; omega
    · rw [if_neg hm0] at hn
      (focus
        refine Xg.at_true (t := !decide ((mo = (0 : Int)))) (by kernel_rfl) (by rw [decide_eq_false (by omega)]; rfl) ?_
        refine Xg.at_region ?_
        refine Xg.ops_op (by kernel_rfl) (Xg.opx_pure ((iv (IntKind.i64.wrap ((32768 : Int) * (2 : Int) ^ min r7.toNat IntKind.i64.bits)))) rfl (fun _ => by kernel_rfl) ?_)
        refine Xg.ops_op (by kernel_rfl) (Xg.opx_pure ((pv xb1 4)) rfl (fun _ => by kernel_rfl) ?_)
        refine Xg.ops_op (by kernel_rfl) (Xg.opx_load (b := xb1) (off := ((4 : Nat))) 0 (iv mo) rfl (by kernel_rfl) (by kernel_rfl) (by kernel_rfl) ?_)
        refine Xg.ops_op (by kernel_rfl) (Xg.opx_call1' [] [row xb1 (31 : Nat) [iv t, iv rc, iv rr, iv sd, iv mo, Value.slice pa np pc, Value.slice qa nq qc, Value.bool true], A] (fun _ => by kernel_rfl) (@hd6 ) (by kernel_rfl) (by kernel_rfl) (by kernel_rfl) ?_)
        refine Xg.ops_op (by kernel_rfl) (Xg.opx_int .i64 (IntKind.wrap .i64 ((IntKind.i64.wrap ((32768 : Int) * (2 : Int) ^ min r7.toNat IntKind.i64.bits) + pickI mo (600 : Int)))) rfl (fun _ => by kernel_rfl) (Xg.wrap_i64_in (by omega)) ?_)
        refine Xg.ops_op (by kernel_rfl) (Xg.opx_int .i64 (IntKind.wrap .i64 ((IntKind.i64.wrap ((32768 : Int) * (2 : Int) ^ min r7.toNat IntKind.i64.bits) + pickI mo (600 : Int) - (300 : Int)))) rfl (fun _ => by kernel_rfl) (Xg.wrap_i64_in (by omega)) ?_)
        refine Xg.ops_op (by kernel_rfl) (Xg.opx_pure ((iv (IntKind.i64.wrap ((32768 : Int) * (2 : Int) ^ min r7.toNat IntKind.i64.bits) + pickI mo (600 : Int) - (300 : Int)))) rfl (fun _ => by kernel_rfl) ?_)
        refine Xg.ops_nil ?_)
      (focus
        refine Xg.at_keep [0, 1] (by kernel_rfl) ?_
        refine Xg.At.same (by kernel_rfl) ?_ (hk (((IntKind.wrap .i64 ((32768 : Int) * 2 ^ min (Int.toNat r7) (IntKind.bits .i64)) + pickI mo 600 - 300)), fun j9 => ([Value.agg #[iv t, iv rc, iv rr, iv sd, iv mo, Value.slice pa np pc, Value.slice qa nq qc, Value.bool true], pv xb1 0, Value.slice none (0 : Nat) (0 : Nat), iv (IntKind.i64.wrap ((32768 : Int) * (2 : Int) ^ min r7.toNat IntKind.i64.bits) + pickI mo (600 : Int) - (300 : Int)), tu, tu, tu, tu, tu, pv xb1 1, iv rc, iv r7, iv (IntKind.i64.wrap ((32768 : Int) * (2 : Int) ^ min r7.toNat IntKind.i64.bits)), pv xb1 4, iv mo, Value.bool !decide (mo = (0 : Int)), iv (IntKind.i64.wrap ((32768 : Int) * (2 : Int) ^ min r7.toNat IntKind.i64.bits)), pv xb1 4, iv mo, iv (pickI mo (600 : Int)), iv (IntKind.i64.wrap ((32768 : Int) * (2 : Int) ^ min r7.toNat IntKind.i64.bits) + pickI mo (600 : Int)), iv (IntKind.i64.wrap ((32768 : Int) * (2 : Int) ^ min r7.toNat IntKind.i64.bits) + pickI mo (600 : Int) - (300 : Int)), tu, tu, tu, tu, tu, tu, tu, tu, tu, tu, tu, tu, tu, tu, tu, tu, tu, tu, tu, tu, tu, tu, tu, tu, tu, tu, tu, tu, tu, tu, tu, tu, tu, tu, tu, tu, tu, tu, tu, tu, tu, tu, tu, tu, tu, tu, tu, tu, tu, tu, tu, tu, tu, tu, tu, tu, tu, tu, tu, tu, tu, tu, tu, tu, tu, tu, tu, tu, tu, tu, tu, tu, tu, tu, tu, tu, tu, tu, tu, tu, tu, tu, tu, tu, tu, tu, tu, tu, tu, tu, tu, tu, tu, tu, tu, tu, tu, tu, tu, tu, tu, tu, tu, tu, tu, tu, tu, tu, tu, tu, tu, tu] : List Value).getD j9 undef) ?_))
      · rfl
      · show _ = (n : Int); rw [hs1]; omega
  rintro ⟨m, J0⟩ h
  dsimp only at h
  subst h
  (focus
    refine Xg.At.same (T' := [Value.agg #[iv t, iv rc, iv rr, iv sd, iv mo, Value.slice pa np pc, Value.slice qa nq qc, Value.bool true], pv xb1 0, Value.slice none (0 : Nat) (0 : Nat), iv (↑n : Int), tu, tu, tu, tu, tu, pv xb1 1, iv rc, iv r7, iv (IntKind.i64.wrap ((32768 : Int) * (2 : Int) ^ min r7.toNat IntKind.i64.bits)), pv xb1 4, iv mo, Value.bool !decide (mo = (0 : Int)), J0 16, J0 17, J0 18, J0 19, J0 20, J0 21, tu, tu, tu, tu, tu, tu, tu, tu, tu, tu, tu, tu, tu, tu, tu, tu, tu, tu, tu, tu, tu, tu, tu, tu, tu, tu, tu, tu, tu, tu, tu, tu, tu, tu, tu, tu, tu, tu, tu, tu, tu, tu, tu, tu, tu, tu, tu, tu, tu, tu, tu, tu, tu, tu, tu, tu, tu, tu, tu, tu, tu, tu, tu, tu, tu, tu, tu, tu, tu, tu, tu, tu, tu, tu, tu, tu, tu, tu, tu, tu, tu, tu, tu, tu, tu, tu, tu, tu, tu, tu, tu, tu, tu, tu, tu, tu, tu, tu, tu, tu, tu, tu, tu, tu, tu, tu, tu, tu, tu, tu, tu, tu]) (L' := [row xb1 (31 : TypeId) [iv t, iv rc, iv rr, iv sd, iv mo, Value.slice pa np pc, Value.slice qa nq qc, Value.bool true], A]) (by kernel_rfl) rfl ?_)
  (focus
    refine Xg.at_seq ?_
    refine Xg.at_region ?_
    refine Xg.ops_op (by kernel_rfl) (Xg.opx_pure ((iv (↑n : Int))) rfl (fun _ => by kernel_rfl) ?_)
    refine Xg.ops_op (by kernel_rfl) (Xg.opx_make_hid (elem := 5) (kd := .u8) (by_ := 1) (k1 := .i64) (k2 := .i64) (n := ((↑n : Int))) (c := ((↑n : Int))) n n (by kernel_rfl) (by kernel_rfl) (by kernel_rfl) (by kernel_rfl) rfl rfl (by omega) (by omega) fun xa1 xs1 xh1 xl1 xz1 => ?_)
    refine Xg.ops_op (by kernel_rfl) (Xg.opx_pure ((Value.slice xa1 xs1.length n)) rfl (fun _ => by kernel_rfl) ?_)
    refine Xg.ops_nil ?_
    refine Xg.at_seq ?_
    refine Xg.at_seq ?_
    refine Xg.at_region ?_
    refine Xg.ops_op (by kernel_rfl) (Xg.opx_pure ((iv 0)) rfl (fun _ => by kernel_rfl) ?_)
    refine Xg.ops_nil ?_
    refine Xg.at_block ?_)
  have hB1 : isB xs1 := isB_of fun i hi => by rw [xz1]; decide
  unfold Xg.ints
  rw [xl1]
  (focus
    refine Xg.at_rounds_inv (α := (Nat × List Int) × (Nat → Value)) (fun x => ((fun x => x.1 ≤ n ∧ x.2.length = n ∧ isB x.2 ∧ ∀ k, k < x.1 → x.2.getD k 0 = bytI k sd) : (Nat × List Int) → Prop) x.1) (fun x => ((fun x => n - x.1) : (Nat × List Int) → Nat) x.1) (fun x => Xg.headT [Value.agg #[iv t, iv rc, iv rr, iv sd, iv mo, Value.slice pa np pc, Value.slice qa nq qc, Value.bool true], pv xb1 0, Value.slice none (0 : Nat) (0 : Nat), iv (↑n : Int), Value.slice xa1 n n, iv 0, tu, tu, tu, pv xb1 1, iv rc, iv r7, iv (IntKind.i64.wrap ((32768 : Int) * (2 : Int) ^ min r7.toNat IntKind.i64.bits)), pv xb1 4, iv mo, Value.bool !decide (mo = (0 : Int)), J0 16, J0 17, J0 18, J0 19, J0 20, J0 21, iv (↑n : Int), Value.slice xa1 n n, tu, tu, tu, tu, tu, tu, tu, tu, tu, tu, tu, tu, tu, tu, tu, tu, tu, tu, tu, tu, tu, tu, tu, tu, tu, tu, tu, tu, tu, tu, tu, tu, tu, tu, tu, tu, tu, tu, tu, tu, tu, tu, tu, tu, tu, tu, tu, tu, tu, tu, tu, tu, tu, tu, tu, tu, tu, tu, tu, tu, tu, tu, tu, tu, tu, tu, tu, tu, tu, tu, tu, tu, tu, tu, tu, tu, tu, tu, tu, tu, tu, tu, tu, tu, tu, tu, tu, tu, tu, tu, tu, tu, tu, tu, tu, tu, tu, tu, tu, tu, tu, tu, tu, tu, tu, tu, tu, tu, tu, tu] [24, 25, 26, 27, 28, 29, 30, 31, 32, 33, 34, 35] (((fun x => [(5, .int .i64 (x.1 : Nat))]) : (Nat × List Int) → List (Nat × Go.Value)) x.1) x.2) (fun x => ((fun x => [bts xa1 n n x.2, row xb1 31 [.int .i64 t, .int .i64 rc, .int .i64 rr, .int .i64 sd, .int .i64 mo, .slice pa np pc, .slice qa nq qc, .bool true], A]) : (Nat × List Int) → List Go.Sl.HP) x.1) (((0, xs1)), fun j9 => ([Value.agg #[iv t, iv rc, iv rr, iv sd, iv mo, Value.slice pa np pc, Value.slice qa nq qc, Value.bool true], pv xb1 0, Value.slice none (0 : Nat) (0 : Nat), iv (↑n : Int), Value.slice xa1 n n, iv 0, tu, tu, tu, pv xb1 1, iv rc, iv r7, iv (IntKind.i64.wrap ((32768 : Int) * (2 : Int) ^ min r7.toNat IntKind.i64.bits)), pv xb1 4, iv mo, Value.bool !decide (mo = (0 : Int)), J0 16, J0 17, J0 18, J0 19, J0 20, J0 21, iv (↑n : Int), Value.slice xa1 n n, tu, tu, tu, tu, tu, tu, tu, tu, tu, tu, tu, tu, tu, tu, tu, tu, tu, tu, tu, tu, tu, tu, tu, tu, tu, tu, tu, tu, tu, tu, tu, tu, tu, tu, tu, tu, tu, tu, tu, tu, tu, tu, tu, tu, tu, tu, tu, tu, tu, tu, tu, tu, tu, tu, tu, tu, tu, tu, tu, tu, tu, tu, tu, tu, tu, tu, tu, tu, tu, tu, tu, tu, tu, tu, tu, tu, tu, tu, tu, tu, tu, tu, tu, tu, tu, tu, tu, tu, tu, tu, tu, tu, tu, tu, tu, tu, tu, tu, tu, tu, tu, tu, tu, tu, tu, tu, tu, tu, tu, tu] : List Value).getD j9 undef) (by kernel_rfl) (by kernel_rfl) ?_ ?_)
  · exact ⟨Nat.zero_le _, xl1, hB1, fun k hk => absurd hk (Nat.not_lt_zero _)⟩
  rintro ⟨⟨i, xs⟩, J1⟩ hI ih
  obtain ⟨hi, hl, hB, hf⟩ := hI
  dsimp only at hi hl hB hf
  (focus
    refine Xg.At.same (T' := [Value.agg #[iv t, iv rc, iv rr, iv sd, iv mo, Value.slice pa np pc, Value.slice qa nq qc, Value.bool true], pv xb1 0, Value.slice none (0 : Nat) (0 : Nat), iv (↑n : Int), Value.slice xa1 n n, iv (↑i : Int), tu, tu, tu, pv xb1 1, iv rc, iv r7, iv (IntKind.i64.wrap ((32768 : Int) * (2 : Int) ^ min r7.toNat IntKind.i64.bits)), pv xb1 4, iv mo, Value.bool !decide (mo = (0 : Int)), J0 16, J0 17, J0 18, J0 19, J0 20, J0 21, iv (↑n : Int), Value.slice xa1 n n, J1 24, J1 25, J1 26, J1 27, J1 28, J1 29, J1 30, J1 31, J1 32, J1 33, J1 34, J1 35, tu, tu, tu, tu, tu, tu, tu, tu, tu, tu, tu, tu, tu, tu, tu, tu, tu, tu, tu, tu, tu, tu, tu, tu, tu, tu, tu, tu, tu, tu, tu, tu, tu, tu, tu, tu, tu, tu, tu, tu, tu, tu, tu, tu, tu, tu, tu, tu, tu, tu, tu, tu, tu, tu, tu, tu, tu, tu, tu, tu, tu, tu, tu, tu, tu, tu, tu, tu, tu, tu, tu, tu, tu, tu, tu, tu, tu, tu, tu, tu, tu, tu, tu, tu, tu, tu, tu, tu, tu, tu, tu, tu, tu, tu, tu, tu, tu, tu]) (L' := [bts xa1 n n ((i, xs), J1).fst.snd, row xb1 (31 : TypeId) [iv t, iv rc, iv rr, iv sd, iv mo, Value.slice pa np pc, Value.slice qa nq qc, Value.bool true], A]) (by kernel_rfl) rfl ?_)
  by_cases hlt : i < n
  · have hby := byteAt_d i sd (by omega) hsd
    have hbo := bytI_ok i sd
    (focus
      refine Xg.at_seq ?_
      refine Xg.at_seq ?_
      refine Xg.at_region ?_
      refine Xg.ops_op (by kernel_rfl) (Xg.opx_pure ((iv (↑i : Int))) rfl (fun _ => by kernel_rfl) ?_)
      refine Xg.ops_op (by kernel_rfl) (Xg.opx_pure ((iv (↑n : Int))) rfl (fun _ => by kernel_rfl) ?_)
      refine Xg.ops_op (by kernel_rfl) (Xg.opx_pure (.bool (decide ((((↑i : Int)) : Int) < ((↑n : Int))))) rfl (fun _ => by kernel_rfl) ?_)
      refine Xg.ops_nil ?_
      refine Xg.at_true (t := decide (((↑i : Int) < (↑n : Int)))) (by kernel_rfl) (decide_eq_true (by omega)) ?_
      refine Xg.at_skip ?_
      refine Xg.at_seq ?_
      refine Xg.at_block ?_
      refine Xg.at_region ?_
      refine Xg.ops_op (by kernel_rfl) (Xg.opx_pure ((Value.slice xa1 n n)) rfl (fun _ => by kernel_rfl) ?_)
      refine Xg.ops_op (by kernel_rfl) (Xg.opx_pure ((iv (↑i : Int))) rfl (fun _ => by kernel_rfl) ?_)
      refine Xg.ops_op (by kernel_rfl) (Xg.opx_pure ((iv (↑i : Int))) rfl (fun _ => by kernel_rfl) ?_)
      refine Xg.ops_op (by kernel_rfl) (Xg.opx_pure ((pv xb1 3)) rfl (fun _ => by kernel_rfl) ?_)
      refine Xg.ops_op (by kernel_rfl) (Xg.opx_load (b := xb1) (off := ((3 : Nat))) 1 (iv sd) rfl (by kernel_rfl) (by kernel_rfl) (by kernel_rfl) ?_)
      refine Xg.ops_op (by kernel_rfl) (Xg.opx_call1' [] [bts xa1 n n xs, row xb1 (31 : TypeId) [iv t, iv rc, iv rr, iv sd, iv mo, Value.slice pa np pc, Value.slice qa nq qc, Value.bool true], A] (fun _ => by kernel_rfl) (@hby ) (by kernel_rfl) (by kernel_rfl) (by kernel_rfl) ?_)
      refine Xg.ops_op (by kernel_rfl) (Xg.opx_ix_own (elem := 5) (kd := .i64) (e := ((↑i : Int))) 0 1 i i rfl (by kernel_rfl) (by kernel_rfl) (by kernel_rfl) (by kernel_rfl) rfl (by omega) (by omega) ?_)
      refine Xg.ops_op (by kernel_rfl) (Xg.opx_store_own_i (a := xa1) (off := i) (kd := .u8) (xs := xs) (e := (bytI (↑i : Int) sd)) 0 (by kernel_rfl) rfl (by kernel_rfl) (by kernel_rfl) (by first | omega | (simp only [List.length_set]; omega)) ?_)
      refine Xg.ops_nil ?_
      refine Xg.at_inBlock ?_
      refine Xg.at_region ?_
      refine Xg.ops_op (by kernel_rfl) (Xg.opx_pure ((iv (↑i : Int))) rfl (fun _ => by kernel_rfl) ?_)
      refine Xg.ops_op (by kernel_rfl) (Xg.opx_int .i64 (IntKind.wrap .i64 (((↑i : Int) + (1 : Int)))) rfl (fun _ => by kernel_rfl) (Xg.wrap_i64_in (by omega)) ?_)
      refine Xg.ops_op (by kernel_rfl) (Xg.opx_pure ((iv ((↑i : Int) + (1 : Int)))) rfl (fun _ => by kernel_rfl) ?_)
      refine Xg.ops_nil ?_
      refine Xg.at_inLoop ?_)
    (focus
      refine Xg.at_keep [0, 1, 2] (by kernel_rfl) ?_
      refine Xs.same ?_ (fun J9 => ih (((i + 1, xs.set i (bytI i sd))), J9) ?_ ?_) (by kernel_rfl))
    · rfl
    · refine ⟨hlt, by rw [List.length_set]; exact hl, isB_set i hB hbo, fun k hk => ?_⟩
      have hk : k < i + 1 := hk
      show (xs.set i (bytI i sd)).getD k 0 = bytI k sd
      rw [getD_set _ _ _ _ (by omega)]
      split
      · rename_i e; rw [e]
      · exact hf k (by omega)
    · show n - (i + 1) < n - i; omega
  clear ih
  obtain rfl : n = i := by omega
  (focus
    refine Xg.at_seq ?_
    refine Xg.at_seq ?_
    refine Xg.at_region ?_
    refine Xg.ops_op (by kernel_rfl) (Xg.opx_pure ((iv (↑n : Int))) rfl (fun _ => by kernel_rfl) ?_)
    refine Xg.ops_op (by kernel_rfl) (Xg.opx_pure ((iv (↑n : Int))) rfl (fun _ => by kernel_rfl) ?_)
    refine Xg.ops_op (by kernel_rfl) (Xg.opx_pure (.bool (decide ((((↑n : Int)) : Int) < ((↑n : Int))))) rfl (fun _ => by kernel_rfl) ?_)
    refine Xg.ops_nil ?_
    refine Xg.at_false (t := decide (((↑n : Int) < (↑n : Int)))) (by kernel_rfl) (decide_eq_false (by omega)) ?_
    refine Xg.at_exit rfl ?_
    refine Xg.at_seq ?_
    refine Xg.at_seq ?_
    refine Xg.at_region ?_
    refine Xg.ops_op (by kernel_rfl) (Xg.opx_pure ((iv (↑n : Int))) rfl (fun _ => by kernel_rfl) ?_)
    refine Xg.ops_op (by kernel_rfl) (Xg.opx_pure (.bool (decide ((((↑n : Int)) : Int) > ((335 : Int))))) rfl (fun _ => by kernel_rfl) ?_)
    refine Xg.ops_op (by kernel_rfl) (Xg.opx_pure ((Value.bool (decide ((↑n : Int) > (335 : Int))))) rfl (fun _ => by kernel_rfl) ?_)
    refine Xg.ops_flag (j := 38) (c := (decide ((↑n : Int) > (335 : Int)))) (by kernel_rfl) (fun _ => ?_) (fun xh2 => absurd (of_decide_eq_false xh2) (by omega))
    refine Xg.ops_op (by kernel_rfl) (Xg.opx_pure ((pv xb1 7)) rfl (fun _ => by kernel_rfl) ?_)
    refine Xg.ops_op (by kernel_rfl) (Xg.opx_load (b := xb1) (off := ((7 : Nat))) 1 (Value.bool true) rfl (by kernel_rfl) (by kernel_rfl) (by kernel_rfl) ?_)
    refine Xg.ops_op (by kernel_rfl) (Xg.opx_pure (.bool false) rfl (fun _ => by kernel_rfl) ?_)
    refine Xg.ops_op (by kernel_rfl) (Xg.opx_pure ((Value.bool false)) rfl (fun _ => by kernel_rfl) ?_)
    refine Xg.ops_nil ?_
    refine Xg.at_false (t := false) (by kernel_rfl) rfl ?_
    refine Xg.at_skip ?_
    refine Xg.at_seq ?_
    refine Xg.at_seq ?_
    refine Xg.at_region ?_
    refine Xg.ops_op (by kernel_rfl) (Xg.opx_pure ((iv 0)) rfl (fun _ => by kernel_rfl) ?_)
    refine Xg.ops_nil ?_
    refine Xg.at_block ?_)
  have hl4 := hl
  have hB4 := hB
  (focus
    refine Xg.at_rounds_inv (α := (Nat × List Int) × (Nat → Value)) (fun x => ((fun x => x.1 ≤ np ∧ x.1 ≤ nq ∧ x.2.length = n ∧ isB x.2) : (Nat × List Int) → Prop) x.1) (fun x => ((fun x => np - x.1) : (Nat × List Int) → Nat) x.1) (fun x => Xg.headT [Value.agg #[iv t, iv rc, iv rr, iv sd, iv mo, Value.slice pa np pc, Value.slice qa nq qc, Value.bool true], pv xb1 0, Value.slice none (0 : Nat) (0 : Nat), iv (↑n : Int), Value.slice xa1 n n, iv (↑n : Int), tu, tu, iv 0, pv xb1 1, iv rc, iv r7, iv (IntKind.i64.wrap ((32768 : Int) * (2 : Int) ^ min r7.toNat IntKind.i64.bits)), pv xb1 4, iv mo, Value.bool !decide (mo = (0 : Int)), J0 16, J0 17, J0 18, J0 19, J0 20, J0 21, iv (↑n : Int), Value.slice xa1 n n, iv (↑n : Int), iv (↑n : Int), Value.bool (decide ((↑n : Int) < (↑n : Int))), J1 27, J1 28, J1 29, J1 30, J1 31, J1 32, J1 33, J1 34, J1 35, iv (↑n : Int), Value.bool (decide ((↑n : Int) > (335 : Int))), Value.bool true, pv xb1 7, Value.bool true, Value.bool false, Value.bool false, tu, tu, tu, tu, tu, tu, tu, tu, tu, tu, tu, tu, tu, tu, tu, tu, tu, tu, tu, tu, tu, tu, tu, tu, tu, tu, tu, tu, tu, tu, tu, tu, tu, tu, tu, tu, tu, tu, tu, tu, tu, tu, tu, tu, tu, tu, tu, tu, tu, tu, tu, tu, tu, tu, tu, tu, tu, tu, tu, tu, tu, tu, tu, tu, tu, tu, tu, tu, tu, tu, tu, tu, tu, tu, tu, tu, tu, tu, tu, tu, tu, tu, tu, tu, tu, tu, tu, tu, tu, tu, tu] [93, 94, 95, 96, 97, 98, 99, 100, 101, 102, 103, 104, 105, 106, 107, 108, 109, 110, 111, 112, 113, 114, 115, 116, 117, 118, 119, 120, 121] (((fun x => [(8, .int .i64 (x.1 : Nat))]) : (Nat × List Int) → List (Nat × Go.Value)) x.1) x.2) (fun x => ((fun x => [bts xa1 n n x.2, row xb1 31 [.int .i64 t, .int .i64 rc, .int .i64 rr, .int .i64 sd, .int .i64 mo, .slice pa np pc, .slice qa nq qc, .bool true], A]) : (Nat × List Int) → List Go.Sl.HP) x.1) (((0, xs)), fun j9 => ([Value.agg #[iv t, iv rc, iv rr, iv sd, iv mo, Value.slice pa np pc, Value.slice qa nq qc, Value.bool true], pv xb1 0, Value.slice none (0 : Nat) (0 : Nat), iv (↑n : Int), Value.slice xa1 n n, iv (↑n : Int), tu, tu, iv 0, pv xb1 1, iv rc, iv r7, iv (IntKind.i64.wrap ((32768 : Int) * (2 : Int) ^ min r7.toNat IntKind.i64.bits)), pv xb1 4, iv mo, Value.bool !decide (mo = (0 : Int)), J0 16, J0 17, J0 18, J0 19, J0 20, J0 21, iv (↑n : Int), Value.slice xa1 n n, iv (↑n : Int), iv (↑n : Int), Value.bool (decide ((↑n : Int) < (↑n : Int))), J1 27, J1 28, J1 29, J1 30, J1 31, J1 32, J1 33, J1 34, J1 35, iv (↑n : Int), Value.bool (decide ((↑n : Int) > (335 : Int))), Value.bool true, pv xb1 7, Value.bool true, Value.bool false, Value.bool false, tu, tu, tu, tu, tu, tu, tu, tu, tu, tu, tu, tu, tu, tu, tu, tu, tu, tu, tu, tu, tu, tu, tu, tu, tu, tu, tu, tu, tu, tu, tu, tu, tu, tu, tu, tu, tu, tu, tu, tu, tu, tu, tu, tu, tu, tu, tu, tu, tu, tu, tu, tu, tu, tu, tu, tu, tu, tu, tu, tu, tu, tu, tu, tu, tu, tu, tu, tu, tu, tu, tu, tu, tu, tu, tu, tu, tu, tu, tu, tu, tu, tu, tu, tu, tu, tu, tu, tu, tu, tu, tu] : List Value).getD j9 undef) (by kernel_rfl) (by kernel_rfl) ?_ ?_)
  · exact ⟨Nat.zero_le _, Nat.zero_le _, hl4, hB4⟩
  rintro ⟨⟨i, us⟩, J4⟩ hI ih
  obtain ⟨hi5, hi6, hl5, hB5⟩ := hI
  dsimp only at hi5 hi6 hl5 hB5
  (focus
    refine Xg.At.same (T' := [Value.agg #[iv t, iv rc, iv rr, iv sd, iv mo, Value.slice pa np pc, Value.slice qa nq qc, Value.bool true], pv xb1 0, Value.slice none (0 : Nat) (0 : Nat), iv (↑n : Int), Value.slice xa1 n n, iv (↑n : Int), tu, tu, iv (↑i : Int), pv xb1 1, iv rc, iv r7, iv (IntKind.i64.wrap ((32768 : Int) * (2 : Int) ^ min r7.toNat IntKind.i64.bits)), pv xb1 4, iv mo, Value.bool !decide (mo = (0 : Int)), J0 16, J0 17, J0 18, J0 19, J0 20, J0 21, iv (↑n : Int), Value.slice xa1 n n, iv (↑n : Int), iv (↑n : Int), Value.bool (decide ((↑n : Int) < (↑n : Int))), J1 27, J1 28, J1 29, J1 30, J1 31, J1 32, J1 33, J1 34, J1 35, iv (↑n : Int), Value.bool (decide ((↑n : Int) > (335 : Int))), Value.bool true, pv xb1 7, Value.bool true, Value.bool false, Value.bool false, tu, tu, tu, tu, tu, tu, tu, tu, tu, tu, tu, tu, tu, tu, tu, tu, tu, tu, tu, tu, tu, tu, tu, tu, tu, tu, tu, tu, tu, tu, tu, tu, tu, tu, tu, tu, tu, tu, tu, tu, tu, tu, tu, tu, tu, tu, tu, tu, tu, tu, J4 93, J4 94, J4 95, J4 96, J4 97, J4 98, J4 99, J4 100, J4 101, J4 102, J4 103, J4 104, J4 105, J4 106, J4 107, J4 108, J4 109, J4 110, J4 111, J4 112, J4 113, J4 114, J4 115, J4 116, J4 117, J4 118, J4 119, J4 120, J4 121, tu, tu, tu, tu, tu, tu, tu, tu, tu, tu, tu, tu]) (L' := [bts xa1 n n ((i, us), J4).fst.snd, row xb1 (31 : TypeId) [iv t, iv rc, iv rr, iv sd, iv mo, Value.slice pa np pc, Value.slice qa nq qc, Value.bool true], A]) (by kernel_rfl) rfl ?_)
  refine Xg.at_off 0 rfl (by omega) fun hoff => ?_
  by_cases hlt : i < np ∧ i < nq
  · obtain ⟨hlt1, hlt2⟩ := hlt
    have hpd := pick_d (P.getD i 0) n (hPo i hlt1) (by omega)
    have hpl := pick_lt (P.getD i 0) n (by omega)
    have hqo := hQo i hlt2
    obtain ⟨pk, hpk⟩ : ∃ pk : Nat, pickI (P.getD i 0) n = (pk : Int) := ⟨(pickI (P.getD i 0) n).toNat, by omega⟩
    rw [hpk] at hpd hpl
    (focus
      refine Xg.at_seq ?_
      refine Xg.at_seq ?_
      refine Xg.at_region ?_
      refine Xg.ops_op (by kernel_rfl) (Xg.opx_pure ((iv (↑i : Int))) rfl (fun _ => by kernel_rfl) ?_)
      refine Xg.ops_op (by kernel_rfl) (Xg.opx_pure ((pv xb1 5)) rfl (fun _ => by kernel_rfl) ?_)
      refine Xg.ops_op (by kernel_rfl) (Xg.opx_load (b := xb1) (off := ((5 : Nat))) 1 (Value.slice pa np pc) rfl (by kernel_rfl) (by kernel_rfl) (by kernel_rfl) ?_)
      refine Xg.ops_op (by kernel_rfl) (Xg.opx_pure ((iv (↑np : Int))) rfl (fun _ => by kernel_rfl) ?_)
      refine Xg.ops_op (by kernel_rfl) (Xg.opx_pure (.bool (decide ((((↑i : Int)) : Int) < ((↑np : Int))))) rfl (fun _ => by kernel_rfl) ?_)
      refine Xg.ops_op (by kernel_rfl) (Xg.opx_pure ((Value.bool (decide ((↑i : Int) < (↑np : Int))))) rfl (fun _ => by kernel_rfl) ?_)
      refine Xg.ops_flag (j := 98) (c := (decide ((↑i : Int) < (↑np : Int)))) (by kernel_rfl) (fun _ => ?_) (fun xh2 => absurd (of_decide_eq_false xh2) (by omega))
      refine Xg.ops_op (by kernel_rfl) (Xg.opx_pure ((iv (↑i : Int))) rfl (fun _ => by kernel_rfl) ?_)
      refine Xg.ops_op (by kernel_rfl) (Xg.opx_pure ((pv xb1 6)) rfl (fun _ => by kernel_rfl) ?_)
      refine Xg.ops_op (by kernel_rfl) (Xg.opx_load (b := xb1) (off := ((6 : Nat))) 1 (Value.slice qa nq qc) rfl (by kernel_rfl) (by kernel_rfl) (by kernel_rfl) ?_)
      refine Xg.ops_op (by kernel_rfl) (Xg.opx_pure ((iv (↑nq : Int))) rfl (fun _ => by kernel_rfl) ?_)
      refine Xg.ops_op (by kernel_rfl) (Xg.opx_pure (.bool (decide ((((↑i : Int)) : Int) < ((↑nq : Int))))) rfl (fun _ => by kernel_rfl) ?_)
      refine Xg.ops_flag (j := 103) (c := (decide ((↑i : Int) < (↑nq : Int)))) (by kernel_rfl) (fun _ => ?_) (fun xh2 => absurd (of_decide_eq_false xh2) (by omega))
      refine Xg.ops_op (by kernel_rfl) (Xg.opx_pure ((Value.bool true)) rfl (fun _ => by kernel_rfl) ?_)
      refine Xg.ops_nil ?_
      refine Xg.at_true (t := true) (by kernel_rfl) rfl ?_
      refine Xg.at_skip ?_
      refine Xg.at_seq ?_
      refine Xg.at_block ?_
      refine Xg.at_draw [7, 15] [(2, [0, 1, 2, 3, 6, 8, 9, 10, 11, 12, 13], Xg.CellIs (xb1) (((5 : Nat))) ((Value.slice pa np pc))), (4, [0, 1, 2, 3, 4, 6, 8, 9, 10, 11, 12, 13], (RdIs (1 : Nat) (Value.slice pa np pc) np (List.map (Value.int IntKind.i64) P))), (5, [0, 1, 2, 3, 4, 5, 6, 8, 9, 10, 11, 12, 13], (RdIs (1 : Nat) (Value.slice pa np pc) np (List.map (Value.int IntKind.i64) P))), (9, [0, 1, 2, 3, 4, 5, 6, 7, 8, 9, 10], Xg.CellIs (xb1) (((6 : Nat))) ((Value.slice qa nq qc))), (11, [0, 1, 2, 3, 4, 5, 6, 7, 8, 9, 10, 11], (RdIs (1 : Nat) (Value.slice qa nq qc) nq (List.map (Value.int IntKind.i64) Q))), (12, [0, 1, 2, 3, 4, 5, 6, 7, 8, 9, 10, 11, 12], (RdIs (1 : Nat) (Value.slice qa nq qc) nq (List.map (Value.int IntKind.i64) Q))), (14, [0, 1, 2, 3, 4, 5, 6, 7, 8, 9, 10, 11, 12, 13, 14], (RdIs (1 : Nat) (Value.slice xa1 n n) n (List.map (Value.int IntKind.u8) us)))] (by kernel_rfl) ?_
      refine Xg.any_pure ((Value.slice xa1 n n)) 0 (by kernel_rfl) rfl (by kernel_rfl) (by kernel_rfl) (by kernel_rfl) (by kernel_rfl) rfl (fun _ => by kernel_rfl) ?_
      refine Xg.any_pure ((pv xb1 5)) 1 (by kernel_rfl) rfl (by kernel_rfl) (by kernel_rfl) (by kernel_rfl) (by kernel_rfl) rfl (fun _ => by kernel_rfl) ?_
      refine Xg.any_reads (Value.slice pa np pc) 2 0 (by kernel_rfl) rfl (by kernel_rfl) (by kernel_rfl) (by kernel_rfl) (by kernel_rfl) rfl rfl (by kernel_rfl) (Xg.cell_now (b := xb1) (off := ((5 : Nat))) 1 rfl (by kernel_rfl)) (fun _ h => Xg.run_load (by kernel_rfl) (by kernel_rfl) h) ?_
      refine Xg.any_pure ((iv (↑i : Int))) 3 (by kernel_rfl) rfl (by kernel_rfl) (by kernel_rfl) (by kernel_rfl) (by kernel_rfl) rfl (fun _ => by kernel_rfl) ?_
      refine Xg.any_reads (.pointer (some (Addr.mk (Xg.blk pa) (offA pa + i) none))) 4 1 (by kernel_rfl) rfl (by kernel_rfl) (by kernel_rfl) (by kernel_rfl) (by kernel_rfl) rfl rfl (by kernel_rfl) (Xg.rd_now 2 hRP (by kernel_rfl)) (Xg.run_ix_rd (elem := 3) (kd := .i64) (e := ((↑i : Int))) 1 i (offA pa + i) (by kernel_rfl) (by kernel_rfl) (by kernel_rfl) (by kernel_rfl) rfl (by omega) (by simp only [List.length_map]; omega) (by omega)) ?_
      refine Xg.any_reads (iv (P.getD i (0 : Int))) 5 2 (by kernel_rfl) rfl (by kernel_rfl) (by kernel_rfl) (by kernel_rfl) (by kernel_rfl) rfl rfl (by kernel_rfl) (Xg.rd_now 2 hRP (by kernel_rfl)) (Xg.run_load_rd (off0 := (offA pa + i)) i (by kernel_rfl) (by omega) (Xg.get_ints (by omega)) (by kernel_rfl)) ?_
      refine Xg.any_pure ((iv (↑n : Int))) 6 (by kernel_rfl) rfl (by kernel_rfl) (by kernel_rfl) (by kernel_rfl) (by kernel_rfl) rfl (fun _ => by kernel_rfl) ?_
      refine Xg.any_pure ((pv xb1 6)) 8 (by kernel_rfl) rfl (by kernel_rfl) (by kernel_rfl) (by kernel_rfl) (by kernel_rfl) rfl (fun _ => by kernel_rfl) ?_
      refine Xg.any_reads (Value.slice qa nq qc) 9 3 (by kernel_rfl) rfl (by kernel_rfl) (by kernel_rfl) (by kernel_rfl) (by kernel_rfl) rfl rfl (by kernel_rfl) (Xg.cell_now (b := xb1) (off := ((6 : Nat))) 1 rfl (by kernel_rfl)) (fun _ h => Xg.run_load (by kernel_rfl) (by kernel_rfl) h) ?_
      refine Xg.any_pure ((iv (↑i : Int))) 10 (by kernel_rfl) rfl (by kernel_rfl) (by kernel_rfl) (by kernel_rfl) (by kernel_rfl) rfl (fun _ => by kernel_rfl) ?_
      refine Xg.any_reads (.pointer (some (Addr.mk (Xg.blk qa) (offA qa + i) none))) 11 4 (by kernel_rfl) rfl (by kernel_rfl) (by kernel_rfl) (by kernel_rfl) (by kernel_rfl) rfl rfl (by kernel_rfl) (Xg.rd_now 2 hRQ (by kernel_rfl)) (Xg.run_ix_rd (elem := 3) (kd := .i64) (e := ((↑i : Int))) 1 i (offA qa + i) (by kernel_rfl) (by kernel_rfl) (by kernel_rfl) (by kernel_rfl) rfl (by omega) (by simp only [List.length_map]; omega) (by omega)) ?_
      refine Xg.any_reads (iv (Q.getD i (0 : Int))) 12 5 (by kernel_rfl) rfl (by kernel_rfl) (by kernel_rfl) (by kernel_rfl) (by kernel_rfl) rfl rfl (by kernel_rfl) (Xg.rd_now 2 hRQ (by kernel_rfl)) (Xg.run_load_rd (off0 := (offA qa + i)) i (by kernel_rfl) (by omega) (Xg.get_ints (by omega)) (by kernel_rfl)) ?_
      refine Xg.any_int .u8 (IntKind.wrap .u8 ((Q.getD i (0 : Int)))) 13 (by kernel_rfl) rfl (by kernel_rfl) (by kernel_rfl) (by kernel_rfl) (by kernel_rfl) rfl (fun _ => by kernel_rfl) (Xg.wrap_u8_mod _) ?_
      refine Xg.any_each [7] (by kernel_rfl) rfl ⟨?_, trivial⟩
      refine Xg.comes_act rfl (by kernel_rfl) (by kernel_rfl) (Xg.opx_call1' [] [bts xa1 n n us, row xb1 (31 : TypeId) [iv t, iv rc, iv rr, iv sd, iv mo, Value.slice pa np pc, Value.slice qa nq qc, Value.bool true], A] (fun _ => by kernel_rfl) (@hpd ) (by kernel_rfl) (by kernel_rfl) (by kernel_rfl) ?_)
      refine Xg.acts (Xg.owes_skip (by kernel_rfl) (Xg.owes_skip (by kernel_rfl) (Xg.owes_skip (by kernel_rfl) (Xg.owes_cell 1 rfl (by kernel_rfl) (Xg.owes_rd 2 hRQ (by kernel_rfl) (Xg.owes_rd 2 hRQ (by kernel_rfl) (Xg.owes_rd 0 (Xg.reads_own (E := ((5 : TypeId))) (sz := ((1 : Nat))) (n := n) (c := n) (a := xa1) (vs := (List.map (Value.int IntKind.u8) us))) (by kernel_rfl) Xg.owes_nil))))))) ?_
      refine Xg.any_reads (.pointer (some (Addr.mk (Xg.blk xa1) (offA xa1 + pk) none))) 14 6 (by kernel_rfl) rfl (by kernel_rfl) (by kernel_rfl) (by kernel_rfl) (by kernel_rfl) rfl rfl (by kernel_rfl) (Xg.rd_now 0 (Xg.reads_own (E := ((5 : TypeId))) (sz := ((1 : Nat))) (n := n) (c := n) (a := xa1) (vs := (List.map (Value.int IntKind.u8) us))) (by kernel_rfl)) (Xg.run_ix_rd (elem := 5) (kd := .i64) (e := ((↑pk : Int))) 1 pk (offA xa1 + pk) (by kernel_rfl) (by kernel_rfl) (by kernel_rfl) (by kernel_rfl) rfl (by omega) (by simp only [List.length_map]; omega) (by omega)) ?_
      refine Xg.any_each [15] (by kernel_rfl) rfl ⟨?_, trivial⟩
      refine Xg.comes_act rfl (by kernel_rfl) (by kernel_rfl) (Xg.opx_store_own_i (a := xa1) (off := (offA xa1 + pk)) (kd := .u8) (xs := us) (e := (Q.getD i (0 : Int) % (256 : Int))) 0 (by kernel_rfl) rfl (by kernel_rfl) (by kernel_rfl) (by first | omega | (simp only [List.length_set]; omega)) ?_)
      refine Xg.acts (Xg.owes_skip (by kernel_rfl) (Xg.owes_skip (by kernel_rfl) (Xg.owes_skip (by kernel_rfl) (Xg.owes_skip (by kernel_rfl) (Xg.owes_skip (by kernel_rfl) (Xg.owes_skip (by kernel_rfl) (Xg.owes_skip (by kernel_rfl) Xg.owes_nil))))))) ?_
      refine Xg.any_nil (by kernel_rfl) ?_
      refine Xg.at_inBlock ?_
      refine Xg.at_region ?_
      refine Xg.ops_op (by kernel_rfl) (Xg.opx_pure ((iv (↑i : Int))) rfl (fun _ => by kernel_rfl) ?_)
      refine Xg.ops_op (by kernel_rfl) (Xg.opx_int .i64 (IntKind.wrap .i64 (((↑i : Int) + (1 : Int)))) rfl (fun _ => by kernel_rfl) (Xg.wrap_i64_in (by omega)) ?_)
      refine Xg.ops_op (by kernel_rfl) (Xg.opx_pure ((iv ((↑i : Int) + (1 : Int)))) rfl (fun _ => by kernel_rfl) ?_)
      refine Xg.ops_nil ?_
      refine Xg.at_inLoop ?_)
    (focus
      refine Xg.at_keep [0, 1, 2] (by kernel_rfl) ?_
      refine Xs.same ?_ (fun J9 => ih (((i + 1, us.set (offA xa1 + pk) (Q.getD i 0 % 256))), J9) ?_ ?_) (by kernel_rfl))
    · rfl
    · exact ⟨hlt1, hlt2, by rw [List.length_set]; exact hl5, isB_set _ hB5 (by omega)⟩
    · show np - (i + 1) < np - i; omega
  clear ih
  by_cases hlt1 : i < np
  · (focus
      refine Xg.at_seq ?_
      refine Xg.at_seq ?_
      refine Xg.at_region ?_
      refine Xg.ops_op (by kernel_rfl) (Xg.opx_pure ((iv (↑i : Int))) rfl (fun _ => by kernel_rfl) ?_)
      refine Xg.ops_op (by kernel_rfl) (Xg.opx_pure ((pv xb1 5)) rfl (fun _ => by kernel_rfl) ?_)
      refine Xg.ops_op (by kernel_rfl) (Xg.opx_load (b := xb1) (off := ((5 : Nat))) 1 (Value.slice pa np pc) rfl (by kernel_rfl) (by kernel_rfl) (by kernel_rfl) ?_)
      refine Xg.ops_op (by kernel_rfl) (Xg.opx_pure ((iv (↑np : Int))) rfl (fun _ => by kernel_rfl) ?_)
      refine Xg.ops_op (by kernel_rfl) (Xg.opx_pure (.bool (decide ((((↑i : Int)) : Int) < ((↑np : Int))))) rfl (fun _ => by kernel_rfl) ?_)
      refine Xg.ops_op (by kernel_rfl) (Xg.opx_pure ((Value.bool (decide ((↑i : Int) < (↑np : Int))))) rfl (fun _ => by kernel_rfl) ?_)
      refine Xg.ops_flag (j := 98) (c := (decide ((↑i : Int) < (↑np : Int)))) (by kernel_rfl) (fun _ => ?_) (fun xh2 => absurd (of_decide_eq_false xh2) (by omega))
      refine Xg.ops_op (by kernel_rfl) (Xg.opx_pure ((iv (↑i : Int))) rfl (fun _ => by kernel_rfl) ?_)
      refine Xg.ops_op (by kernel_rfl) (Xg.opx_pure ((pv xb1 6)) rfl (fun _ => by kernel_rfl) ?_)
      refine Xg.ops_op (by kernel_rfl) (Xg.opx_load (b := xb1) (off := ((6 : Nat))) 1 (Value.slice qa nq qc) rfl (by kernel_rfl) (by kernel_rfl) (by kernel_rfl) ?_)
      refine Xg.ops_op (by kernel_rfl) (Xg.opx_pure ((iv (↑nq : Int))) rfl (fun _ => by kernel_rfl) ?_)
      refine Xg.ops_op (by kernel_rfl) (Xg.opx_pure (.bool (decide ((((↑i : Int)) : Int) < ((↑nq : Int))))) rfl (fun _ => by kernel_rfl) ?_)
      refine Xg.ops_flag (j := 103) (c := (decide ((↑i : Int) < (↑nq : Int)))) (by kernel_rfl) (fun xh2 => absurd (of_decide_eq_true xh2) (by omega)) (fun _ => ?_)
      refine Xg.ops_op (by kernel_rfl) (Xg.opx_pure ((Value.bool false)) rfl (fun _ => by kernel_rfl) ?_)
      refine Xg.ops_nil ?_
      refine Xg.at_false (t := false) (by kernel_rfl) rfl ?_
      refine Xg.at_exit rfl ?_
      refine Xg.at_seq ?_
      refine Xg.at_seq ?_
      refine Xg.at_region ?_
      refine Xg.ops_op (by kernel_rfl) (Xg.opx_pure ((iv (↑n : Int))) rfl (fun _ => by kernel_rfl) ?_)
      refine Xg.ops_op (by kernel_rfl) (Xg.opx_pure (.bool (decide ((((↑n : Int)) : Int) > ((335 : Int))))) rfl (fun _ => by kernel_rfl) ?_)
      refine Xg.ops_op (by kernel_rfl) (Xg.opx_pure ((Value.bool (decide ((↑n : Int) > (335 : Int))))) rfl (fun _ => by kernel_rfl) ?_)
      refine Xg.ops_flag (j := 124) (c := (decide ((↑n : Int) > (335 : Int)))) (by kernel_rfl) (fun _ => ?_) (fun xh2 => absurd (of_decide_eq_false xh2) (by omega))
      refine Xg.ops_op (by kernel_rfl) (Xg.opx_pure ((pv xb1 7)) rfl (fun _ => by kernel_rfl) ?_)
      refine Xg.ops_op (by kernel_rfl) (Xg.opx_load (b := xb1) (off := ((7 : Nat))) 1 (Value.bool true) rfl (by kernel_rfl) (by kernel_rfl) (by kernel_rfl) ?_)
      refine Xg.ops_op (by kernel_rfl) (Xg.opx_pure (.bool false) rfl (fun _ => by kernel_rfl) ?_)
      refine Xg.ops_op (by kernel_rfl) (Xg.opx_pure ((Value.bool false)) rfl (fun _ => by kernel_rfl) ?_)
      refine Xg.ops_nil ?_
      refine Xg.at_false (t := false) (by kernel_rfl) rfl ?_
      refine Xg.at_skip ?_
      refine Xg.at_seq ?_
      refine Xg.at_region ?_
      refine Xg.ops_op (by kernel_rfl) (Xg.opx_pure ((Value.slice xa1 n n)) rfl (fun _ => by kernel_rfl) ?_)
      refine Xg.ops_op (by kernel_rfl) (Xg.opx_pure ((Value.slice xa1 n n)) rfl (fun _ => by kernel_rfl) ?_)
      refine Xg.ops_nil ?_
      refine Xg.at_ret_ps (v := (Value.slice xa1 n n)) [0, 2] [bts xa1 n n us, A] Go.Proofs.Try.func10 (fun _ => by kernel_rfl) (by kernel_rfl) (by kernel_rfl) ?_
      refine ⟨((xa1, us)), ?_, by kernel_rfl, by kernel_rfl⟩)
    exact ⟨hl5, hB5⟩
  · (focus
      refine Xg.at_seq ?_
      refine Xg.at_seq ?_
      refine Xg.at_region ?_
      refine Xg.ops_op (by kernel_rfl) (Xg.opx_pure ((iv (↑i : Int))) rfl (fun _ => by kernel_rfl) ?_)
      refine Xg.ops_op (by kernel_rfl) (Xg.opx_pure ((pv xb1 5)) rfl (fun _ => by kernel_rfl) ?_)
      refine Xg.ops_op (by kernel_rfl) (Xg.opx_load (b := xb1) (off := ((5 : Nat))) 1 (Value.slice pa np pc) rfl (by kernel_rfl) (by kernel_rfl) (by kernel_rfl) ?_)
      refine Xg.ops_op (by kernel_rfl) (Xg.opx_pure ((iv (↑np : Int))) rfl (fun _ => by kernel_rfl) ?_)
      refine Xg.ops_op (by kernel_rfl) (Xg.opx_pure (.bool (decide ((((↑i : Int)) : Int) < ((↑np : Int))))) rfl (fun _ => by kernel_rfl) ?_)
      refine Xg.ops_op (by kernel_rfl) (Xg.opx_pure ((Value.bool (decide ((↑i : Int) < (↑np : Int))))) rfl (fun _ => by kernel_rfl) ?_)
      refine Xg.ops_flag (j := 98) (c := (decide ((↑i : Int) < (↑np : Int)))) (by kernel_rfl) (fun xh2 => absurd (of_decide_eq_true xh2) (by omega)) (fun _ => ?_)
      refine Xg.ops_skip (by kernel_rfl) ?_
      refine Xg.ops_skip (by kernel_rfl) ?_
      refine Xg.ops_skip (by kernel_rfl) ?_
      refine Xg.ops_skip (by kernel_rfl) ?_
      refine Xg.ops_skip (by kernel_rfl) ?_
      refine Xg.ops_op (by kernel_rfl) (Xg.opx_pure ((Value.bool false)) rfl (fun _ => by kernel_rfl) ?_)
      refine Xg.ops_nil ?_
      refine Xg.at_false (t := false) (by kernel_rfl) rfl ?_
      refine Xg.at_exit rfl ?_
      refine Xg.at_seq ?_
      refine Xg.at_seq ?_
      refine Xg.at_region ?_
      refine Xg.ops_op (by kernel_rfl) (Xg.opx_pure ((iv (↑n : Int))) rfl (fun _ => by kernel_rfl) ?_)
      refine Xg.ops_op (by kernel_rfl) (Xg.opx_pure (.bool (decide ((((↑n : Int)) : Int) > ((335 : Int))))) rfl (fun _ => by kernel_rfl) ?_)
      refine Xg.ops_op (by kernel_rfl) (Xg.opx_pure ((Value.bool (decide ((↑n : Int) > (335 : Int))))) rfl (fun _ => by kernel_rfl) ?_)
      refine Xg.ops_flag (j := 124) (c := (decide ((↑n : Int) > (335 : Int)))) (by kernel_rfl) (fun _ => ?_) (fun xh2 => absurd (of_decide_eq_false xh2) (by omega))
      refine Xg.ops_op (by kernel_rfl) (Xg.opx_pure ((pv xb1 7)) rfl (fun _ => by kernel_rfl) ?_)
      refine Xg.ops_op (by kernel_rfl) (Xg.opx_load (b := xb1) (off := ((7 : Nat))) 1 (Value.bool true) rfl (by kernel_rfl) (by kernel_rfl) (by kernel_rfl) ?_)
      refine Xg.ops_op (by kernel_rfl) (Xg.opx_pure (.bool false) rfl (fun _ => by kernel_rfl) ?_)
      refine Xg.ops_op (by kernel_rfl) (Xg.opx_pure ((Value.bool false)) rfl (fun _ => by kernel_rfl) ?_)
      refine Xg.ops_nil ?_
      refine Xg.at_false (t := false) (by kernel_rfl) rfl ?_
      refine Xg.at_skip ?_
      refine Xg.at_seq ?_
      refine Xg.at_region ?_
      refine Xg.ops_op (by kernel_rfl) (Xg.opx_pure ((Value.slice xa1 n n)) rfl (fun _ => by kernel_rfl) ?_)
      refine Xg.ops_op (by kernel_rfl) (Xg.opx_pure ((Value.slice xa1 n n)) rfl (fun _ => by kernel_rfl) ?_)
      refine Xg.ops_nil ?_
      refine Xg.at_ret_ps (v := (Value.slice xa1 n n)) [0, 2] [bts xa1 n n us, A] Go.Proofs.Try.func10 (fun _ => by kernel_rfl) (by kernel_rfl) (by kernel_rfl) ?_
      refine ⟨((xa1, us)), ?_, by kernel_rfl, by kernel_rfl⟩)
    exact ⟨hl5, hB5⟩
end Go.Proofs.Ythjhkondmobaeaa

/- cart, plain: what Check says of a box's ROM. -/
namespace Go.Proofs.Ythjhkondmobaeaa
open Go.Sl Go.Xg
set_option linter.unusedVariables false
set_option linter.unusedSimpArgs false

/-- A box's ROM, with nothing laid over it. -/
structure BoxR (t rc rr sd : Int) (n : Nat) (R : List Int) : Prop where
  l : R.length = n
  b : isB R
  s : (231 - hsum R 25) % 256 = R.getD 333 0
  f : ∀ k, k ≠ 333 → k < n → R.getD k 0 = romP t rc rr sd k
/-- Its header. -/
def hdX (t rc rr sd : Int) (k : Kd) : Hd := ⟨[65 + pickI sd 26, 98], t, k.mp, bnk rc, if k.mp = 2 then 512 else rmC rr, k.bt⟩
theorem tit_box {t rc rr sd : Int} {n : Nat} {R : List Int} (h : BoxR t rc rr sd n R) (hn : 336 ≤ n) : tit ((R.drop 308).take 15) = [65 + pickI sd 26, 98] := by
  have hp := pick_lt sd 26 (by decide)
  have hl : ((R.drop 308).take 15).length = 15 := by rw [List.length_take, List.length_drop, h.l]; omega
  have hg := mid_getD R 308 15
  obtain ⟨C, hC⟩ : ∃ C, (R.drop 308).take 15 = C := ⟨_, rfl⟩
  rw [hC] at hl hg ⊢
  have g0 : C.getD 0 0 = 65 + pickI sd 26 := by rw [hg 0 (by omega), h.f 308 (by omega) (by omega)]; rfl
  have g1 : C.getD 1 0 = 98 := by rw [hg 1 (by omega), h.f 309 (by omega) (by omega)]; rfl
  have g2 : C.getD 2 0 = 0 := by rw [hg 2 (by omega), h.f 310 (by omega) (by omega)]; rfl
  rw [tit_at C 2 (by omega) (fun k hk => by
    rcases (show k = 0 ∨ k = 1 by omega) with e | e <;> subst e
    · rw [g0]; omega
    · rw [g1]; decide) (fun _ => g2)]
  match C, hl, g0, g1 with
  | x :: y :: C', _, e0, e1 =>
    have e0 : x = 65 + pickI sd 26 := e0
    have e1 : y = 98 := e1
    rw [e0, e1]; rfl
theorem box_bytes {t rc rr sd : Int} {n : Nat} {R : List Int} (h : BoxR t rc rr sd n R) (hn : 336 ≤ n) : mkdB R = true ∧ R.getD 323 0 = 0 ∧ R.getD 327 0 = t % 256 ∧ R.getD 328 0 = rc % 256 ∧ R.getD 329 0 = rr % 256 := by
  refine ⟨(mkdB_t R).2 fun i hi => ?_, ?_, ?_, ?_, ?_⟩
  · rw [h.f _ (by omega) (by omega)]
    unfold romP
    rw [if_pos (by omega), show 260 + i - 260 = i by omega]
  · rw [h.f _ (by omega) (by omega)]; rfl
  · rw [h.f _ (by omega) (by omega)]; rfl
  · rw [h.f _ (by omega) (by omega)]; rfl
  · rw [h.f _ (by omega) (by omega)]; rfl
theorem chk_kd {t rc rr sd : Int} {n : Nat} {R : List Int} (h : BoxR t rc rr sd n R) (hn : 32768 ≤ n ∧ n ≤ 2097152) : chk R = match kdOf (t % 256) with
    | none => (hd0, 45)
    | some k => if 6 < rc % 256 ∨ k.bk < bnk (rc % 256) ∨ bnk (rc % 256) * 16384 ≠ n then (hd0, 46)
      else if rr % 256 ∉ k.cl then (hd0, 47)
      else (hdX (t % 256) (rc % 256) (rr % 256) sd k, 0) := by
  obtain ⟨h1, h2, h3, h4, h5⟩ := box_bytes h (by omega)
  unfold chk
  rw [h.l, if_neg (by omega), if_neg (by rw [h1]; decide), if_neg (by rw [h.s]; simp), if_neg (by rw [h2]; decide), h3, h4, h5]
  cases kdOf (t % 256) with
  | none => rfl
  | some k =>
    dsimp only
    unfold hdB hdX
    rw [tit_box h (by omega), h3, h4, h5]
/-- A box that must be taken. -/
theorem chk_box {t rc rr sd : Int} {n : Nat} {R : List Int} {k : Kd} (h : BoxR t rc rr sd n R) (ht : 0 ≤ t ∧ t ≤ 255) (hrc : 0 ≤ rc ∧ rc ≤ 6) (hrr : 0 ≤ rr ∧ rr ≤ 255) (hk : kdOf t = some k) (hb : bnk rc ≤ k.bk) (hn : (n : Int) = 16384 * bnk rc) (hc : rr ∈ k.cl) : chk R = (hdX t rc rr sd k, 0) := by
  have hbk : 2 ≤ bnk rc ∧ bnk rc ≤ 128 := (shl_bnk hrc).2
  have e1 : t % 256 = t := by omega
  have e2 : rc % 256 = rc := by omega
  have e3 : rr % 256 = rr := by omega
  rw [chk_kd h (by omega), e1, e2, e3, hk]
  dsimp only
  rw [if_neg (by omega), if_neg (by simpa using hc)]
theorem first_box {sd : Int} {R : List Int} (h : BoxR 3 1 3 sd 65536 R) : (chk R).2 = 0 := by
  rw [chk_box (k := ⟨1, 128, [2, 3], true⟩) h (by decide) (by decide) (by decide) (by rfl) (by decide) (by decide) (by decide)]
end Go.Proofs.Ythjhkondmobaeaa

/- cart's law: every Check. -/
namespace Go.Proofs.Ythjhkondmobaeaa
open Go.Sl Go.Xg
set_option linter.unusedVariables false
set_option linter.unusedSimpArgs false
set_option maxHeartbeats 4000000
set_option maxRecDepth 100000

/-- A box. -/
structure BoxA where
  t : Int
  rc : Int
  rr : Int
  sd : Int
  mo : Int
  pa : Option Addr
  np : Nat
  pc : Nat
  P : List Int
  qa : Option Addr
  nq : Nat
  qc : Nat
  Q : List Int
  rw : Bool
  deriving Inhabited
abbrev bxC (b : BoxA) : List Value := [.int .i64 b.t, .int .i64 b.rc, .int .i64 b.rr, .int .i64 b.sd, .int .i64 b.mo, .slice b.pa b.np b.pc, .slice b.qa b.nq b.qc, .bool b.rw]
structure BoxA.Ok (A : HP) (b : BoxA) : Prop where
  t : iok b.t
  rc : iok b.rc
  rr : iok b.rr
  sd : iok b.sd
  mo : iok b.mo
  hp : b.P.length = b.np
  hq : b.Q.length = b.nq
  mp : b.np ≤ maxLen
  mq : b.nq ≤ maxLen
  op : ∀ i, i < b.np → iok (b.P.getD i 0)
  oq : ∀ i, i < b.nq → iok (b.Q.getD i 0)
  rp : Reads A 1 (.slice b.pa b.np b.pc) b.np (b.P.map (Value.int .i64))
  rq : Reads A 1 (.slice b.qa b.nq b.qc) b.nq (b.Q.map (Value.int .i64))
/-- How long its ROM is. -/
def boxN (rc mo : Int) : Nat := (16384 * bnkC (pickI rc 7) + morI mo).toNat
theorem boxN_ok (rc mo : Int) : (boxN rc mo : Int) = 16384 * bnkC (pickI rc 7) + morI mo ∧ 32468 ≤ boxN rc mo ∧ boxN rc mo ≤ 2097451 := by
  have h := (shl_box (pick_lt rc 7 (by decide))).2
  have h2 := pick_lt mo 600 (by decide)
  unfold boxN morI
  split <;> omega
theorem rom_any {A : HP} {b : BoxA} (h : b.Ok A) : Does Try.prog 10 [.agg #[.int .i64 b.t, .int .i64 b.rc, .int .i64 b.rr, .int .i64 b.sd, .int .i64 b.mo, .slice b.pa b.np b.pc, .slice b.qa b.nq b.qc, .bool b.rw]] [A] (RetE (fun x : Option Addr × List Int => x.2.length = boxN b.rc b.mo ∧ isB x.2) (fun x => .slice x.1 (boxN b.rc b.mo) (boxN b.rc b.mo)) (fun x => [bts x.1 (boxN b.rc b.mo) (boxN b.rc b.mo) x.2, A])) := by
  have hn := (boxN_ok b.rc b.mo).1
  cases hb : b.rw with
  | true => exact rom_raw A b.t b.rc b.rr b.sd b.mo b.P b.Q b.pa b.qa b.np b.pc b.nq b.qc _ h.t h.rc h.rr h.sd h.mo h.hp h.hq h.mp h.mq h.op h.oq h.rp h.rq hn
  | false => exact (rom_d A b.t b.rc b.rr b.sd b.mo b.P b.Q b.pa b.qa b.np b.pc b.nq b.qc _ h.t h.rc h.rr h.sd h.mo h.hp h.hq h.mp h.mq h.op h.oq h.rp h.rq hn).mono fun _ _ ⟨x, hx, e1, e2⟩ => ⟨x, ⟨hx.1, hx.2.1⟩, e1, e2⟩
theorem reads_none (A : HP) (sz : Nat) : Reads A sz (.slice none 0 0) 0 [] := ⟨fun g F w hS => ⟨_, _, rfl, (Nat.zero_mul sz).symm, fun j u hu => by cases hu⟩⟩
/-- A box of a statement's own. -/
theorem rom_own (A : HP) (t rc rr sd : Int) (ht : iok t) (hrc : 0 ≤ rc ∧ rc ≤ 6) (hrr : iok rr) (hsd : iok sd) (n : Nat) (hn : (n : Int) = 16384 * bnk rc) : Does Try.prog 10 [.agg #[.int .i64 t, .int .i64 rc, .int .i64 rr, .int .i64 sd, .int .i64 0, .slice none 0 0, .slice none 0 0, .bool false]] [A] (RetE (fun x : Option Addr × List Int => BoxR t rc rr sd n x.2) (fun x => .slice x.1 n n) (fun x => [bts x.1 n n x.2, A])) :=
  (rom_d A t rc rr sd 0 [] [] none none 0 0 0 0 n ht ⟨by omega, by omega⟩ hrr hsd (by decide) rfl rfl (Nat.zero_le _) (Nat.zero_le _) (fun i h => absurd h (Nat.not_lt_zero _)) (fun i h => absurd h (Nat.not_lt_zero _)) (reads_none A 1) (reads_none A 1) (by
    have e : pickI rc 7 = rc := by unfold pickI; rw [if_neg (by omega)]; omega
    rw [e, hn]; show 16384 * bnk rc = 16384 * bnk rc + morI 0; unfold morI; rw [if_pos rfl]; omega)).mono fun _ _ ⟨x, hx, e1, e2⟩ => ⟨x, ⟨hx.1, hx.2.1, hx.2.2.1, hx.2.2.2 rfl⟩, e1, e2⟩
theorem checks_d (A : HP) (a : Option Addr) (m c : Nat) (xs : List BoxA) (hm : xs.length = m) (hmx : m ≤ maxLen) (hR : Reads A 8 (.slice a m c) m (recs bxC xs)) (hB : ∀ i, i < m → (xs.getD i default).Ok A) :
    Does Try.prog 4 [.slice a m c] [A] (Ret (.bool true) [A]) := by
  have hml : maxLen = 9223372036854775807 := by unfold maxLen; decide
  have hr0 := rom_own A 3 1 3 0 (by decide) (by decide) (by decide) (by decide) 65536 (by decide)
  (focus
    refine Xg.spec_of Go.Proofs.Try.func4 rfl Go.Proofs.Try.ntmps4 fun g F => ?_)
  (focus
    refine Xg.at_seq ?_
    refine Xg.at_region ?_
    refine Xg.ops_op (by kernel_rfl) (Xg.opx_pure ((Value.bool false)) rfl (fun _ => by kernel_rfl) ?_)
    refine Xg.ops_nil ?_
    refine Xg.at_seq ?_
    refine Xg.at_region ?_
    refine Xg.ops_op (by kernel_rfl) (Xg.opx_pure ((Value.agg #[iv 3, iv 1, iv 3, iv 0, iv 0, Value.slice none (0 : Nat) (0 : Nat), Value.slice none (0 : Nat) (0 : Nat), Value.bool false])) rfl (fun _ => by kernel_rfl) ?_)
    refine Xg.ops_op (by kernel_rfl) (Xg.opx_callE' [0] (fun xx1 => [bts xx1.fst (65536 : Nat) (65536 : Nat) xx1.snd, A]) (fun _ => by kernel_rfl) (@hr0 ) (by kernel_rfl) (by kernel_rfl) (by kernel_rfl) fun xx1 xh1 => ?_)
    try dsimp only at xh1)
  have hc1 := checked_d (bts xx1.1 65536 65536 xx1.2) xx1.1 65536 65536 xx1.2 xh1.l (Nat.le_refl _) (by omega) xh1.b Xg.reads_own
  (focus
    refine Xg.ops_op (by kernel_rfl) (Xg.opx_call1' [0] [bts xx1.fst (65536 : Nat) (65536 : Nat) xx1.snd, A] (fun _ => by kernel_rfl) (@hc1 ) (by kernel_rfl) (by kernel_rfl) (by kernel_rfl) ?_)
    refine Xg.ops_op (by kernel_rfl) (Xg.opx_pure ((Value.bool true)) rfl (fun _ => by kernel_rfl) ?_)
    refine Xg.ops_nil ?_
    refine Xg.at_seq ?_
    refine Xg.at_region ?_
    refine Xg.ops_op (by kernel_rfl) (Xg.opx_pure ((Value.agg #[iv 3, iv 1, iv 3, iv 0, iv 0, Value.slice none (0 : Nat) (0 : Nat), Value.slice none (0 : Nat) (0 : Nat), Value.bool false])) rfl (fun _ => by kernel_rfl) ?_)
    refine Xg.ops_op (by kernel_rfl) (Xg.opx_callE' [1] (fun xx2 => [bts xx2.fst (65536 : Nat) (65536 : Nat) xx2.snd, A, bts xx1.fst (65536 : Nat) (65536 : Nat) xx1.snd]) (fun _ => by kernel_rfl) (@hr0 ) (by kernel_rfl) (by kernel_rfl) (by kernel_rfl) fun xx2 xh2 => ?_)
    try dsimp only at xh2)
  have hc2 := check_d (bts xx2.1 65536 65536 xx2.2) xx2.1 65536 65536 xx2.2 xh2.l (Nat.le_refl _) (by omega) xh2.b Xg.reads_own
  rw [first_box xh2] at hc2
  obtain ⟨hd, hhd⟩ : ∃ hd, (chk xx2.2).1 = hd := ⟨_, rfl⟩
  rw [hhd] at hc2
  unfold hdV at hc2
  (focus
    refine Xg.ops_op (by kernel_rfl) (Xg.opx_call1' [0] [bts xx2.fst (65536 : Nat) (65536 : Nat) xx2.snd, A, bts xx1.fst (65536 : Nat) (65536 : Nat) xx1.snd] (fun _ => by kernel_rfl) (@hc2 ) (by kernel_rfl) (by kernel_rfl) (by kernel_rfl) ?_)
    refine Xg.ops_op (by kernel_rfl) (Xg.opx_pure ((Value.tuple #[Value.agg #[Value.string (St hd.tt), iv hd.ty, iv hd.mp, iv hd.bk, iv hd.rm, Value.bool hd.bt], iv 0])) rfl (fun _ => by kernel_rfl) ?_)
    refine Xg.ops_op (by kernel_rfl) (Xg.opx_pure ((Value.agg #[Value.string (St hd.tt), iv hd.ty, iv hd.mp, iv hd.bk, iv hd.rm, Value.bool hd.bt])) rfl (fun _ => by kernel_rfl) ?_)
    refine Xg.ops_op (by kernel_rfl) (Xg.opx_pure ((iv 0)) rfl (fun _ => by kernel_rfl) ?_)
    refine Xg.ops_op (by kernel_rfl) (Xg.opx_new 6 [Value.string (ByteArray.mk #[]), iv 0, iv 0, iv 0, iv 0, Value.bool false] (by kernel_rfl) (by kernel_rfl) fun xb1 => ?_)
    refine Xg.ops_op (by kernel_rfl) (Xg.opx_storen 6 (off := 0) 0 [Value.string (St hd.tt), iv hd.ty, iv hd.mp, iv hd.bk, iv hd.rm, Value.bool hd.bt] (by kernel_rfl) rfl (by kernel_rfl) (by kernel_rfl) rfl (by kernel_rfl) (Nat.le_of_ble_eq_true (by kernel_rfl)) ?_)
    refine Xg.ops_op (by kernel_rfl) (Xg.opx_pure ((iv 0)) rfl (fun _ => by kernel_rfl) ?_)
    refine Xg.ops_nil ?_
    refine Xg.at_seq ?_
    refine Xg.at_region ?_
    refine Xg.ops_op (by kernel_rfl) (Xg.opx_pure ((Value.bool true)) rfl (fun _ => by kernel_rfl) ?_)
    refine Xg.ops_op (by kernel_rfl) (Xg.opx_pure ((Value.bool true)) rfl (fun _ => by kernel_rfl) ?_)
    refine Xg.ops_op (by kernel_rfl) (Xg.opx_pure ((iv 0)) rfl (fun _ => by kernel_rfl) ?_)
    refine Xg.ops_op (by kernel_rfl) (Xg.opx_pure ((Value.bool true)) rfl (fun _ => by kernel_rfl) ?_)
    refine Xg.ops_op (by kernel_rfl) (Xg.opx_pure ((Value.bool true)) rfl (fun _ => by kernel_rfl) ?_)
    refine Xg.ops_op (by kernel_rfl) (Xg.opx_pure ((Value.bool true)) rfl (fun _ => by kernel_rfl) ?_)
    refine Xg.ops_nil ?_
    refine Xg.at_seq ?_
    refine Xg.at_seq ?_
    refine Xg.at_region ?_
    refine Xg.ops_op (by kernel_rfl) (Xg.opx_pure ((iv 0)) rfl (fun _ => by kernel_rfl) ?_)
    refine Xg.ops_nil ?_
    refine Xg.at_block ?_)
  (focus
    refine Xg.at_keep [2] (by kernel_rfl) ?_
    refine Xg.at_rounds_inv (α := (Nat) × (Nat → Value)) (fun x => ((fun i => i ≤ m ∧ i ≤ 6) : (Nat) → Prop) x.1) (fun x => ((fun i => 6 - i) : (Nat) → Nat) x.1) (fun x => Xg.headT [Value.slice a m c, tu, Value.bool false, Value.bool true, pv xb1 0, iv 0, iv 0, tu, Value.agg #[iv 3, iv 1, iv 3, iv 0, iv 0, Value.slice none (0 : Nat) (0 : Nat), Value.slice none (0 : Nat) (0 : Nat), Value.bool false], Value.slice xx1.fst (65536 : Nat) (65536 : Nat), Value.bool true, Value.tuple #[Value.agg #[Value.string (St hd.tt), iv hd.ty, iv hd.mp, iv hd.bk, iv hd.rm, Value.bool hd.bt], iv 0], Value.agg #[iv 3, iv 1, iv 3, iv 0, iv 0, Value.slice none (0 : Nat) (0 : Nat), Value.slice none (0 : Nat) (0 : Nat), Value.bool false], Value.slice xx2.fst (65536 : Nat) (65536 : Nat), Value.tuple #[Value.agg #[Value.string (St hd.tt), iv hd.ty, iv hd.mp, iv hd.bk, iv hd.rm, Value.bool hd.bt], iv 0], Value.agg #[Value.string (St hd.tt), iv hd.ty, iv hd.mp, iv hd.bk, iv hd.rm, Value.bool hd.bt], iv 0, Value.bool true, Value.bool true, iv 0, Value.bool true, Value.bool true, tu, tu, tu, tu, tu, tu, tu, tu, tu, tu, tu, tu, tu, tu, tu, tu, tu, tu, tu, tu, tu] [7, 22, 23, 24, 25, 26, 27, 28, 29, 30, 31, 32, 33, 34, 35, 36, 37, 38, 39, 40, 41] (((fun i => [(6, .int .i64 (i : Nat)), (3, .bool true)]) : (Nat) → List (Nat × Go.Value)) x.1) x.2) (fun x => ((fun i => [A]) : (Nat) → List Go.Sl.HP) x.1) ((0), fun j9 => ([Value.slice a m c, tu, Value.bool false, Value.bool true, pv xb1 0, iv 0, iv 0, tu, Value.agg #[iv 3, iv 1, iv 3, iv 0, iv 0, Value.slice none (0 : Nat) (0 : Nat), Value.slice none (0 : Nat) (0 : Nat), Value.bool false], Value.slice xx1.fst (65536 : Nat) (65536 : Nat), Value.bool true, Value.tuple #[Value.agg #[Value.string (St hd.tt), iv hd.ty, iv hd.mp, iv hd.bk, iv hd.rm, Value.bool hd.bt], iv 0], Value.agg #[iv 3, iv 1, iv 3, iv 0, iv 0, Value.slice none (0 : Nat) (0 : Nat), Value.slice none (0 : Nat) (0 : Nat), Value.bool false], Value.slice xx2.fst (65536 : Nat) (65536 : Nat), Value.tuple #[Value.agg #[Value.string (St hd.tt), iv hd.ty, iv hd.mp, iv hd.bk, iv hd.rm, Value.bool hd.bt], iv 0], Value.agg #[Value.string (St hd.tt), iv hd.ty, iv hd.mp, iv hd.bk, iv hd.rm, Value.bool hd.bt], iv 0, Value.bool true, Value.bool true, iv 0, Value.bool true, Value.bool true, tu, tu, tu, tu, tu, tu, tu, tu, tu, tu, tu, tu, tu, tu, tu, tu, tu, tu, tu, tu, tu] : List Value).getD j9 undef) (by kernel_rfl) (by kernel_rfl) ?_ ?_)
  · exact ⟨Nat.zero_le _, Nat.zero_le _⟩
  rintro ⟨i, J⟩ hI ih
  obtain ⟨hi, hi6⟩ := hI
  dsimp only at hi hi6
  (focus
    refine Xg.At.same (T' := [Value.slice a m c, tu, Value.bool false, Value.bool true, pv xb1 0, iv 0, iv (↑i : Int), J 7, Value.agg #[iv 3, iv 1, iv 3, iv 0, iv 0, Value.slice none (0 : Nat) (0 : Nat), Value.slice none (0 : Nat) (0 : Nat), Value.bool false], Value.slice xx1.fst (65536 : Nat) (65536 : Nat), Value.bool true, Value.tuple #[Value.agg #[Value.string (St hd.tt), iv hd.ty, iv hd.mp, iv hd.bk, iv hd.rm, Value.bool hd.bt], iv 0], Value.agg #[iv 3, iv 1, iv 3, iv 0, iv 0, Value.slice none (0 : Nat) (0 : Nat), Value.slice none (0 : Nat) (0 : Nat), Value.bool false], Value.slice xx2.fst (65536 : Nat) (65536 : Nat), Value.tuple #[Value.agg #[Value.string (St hd.tt), iv hd.ty, iv hd.mp, iv hd.bk, iv hd.rm, Value.bool hd.bt], iv 0], Value.agg #[Value.string (St hd.tt), iv hd.ty, iv hd.mp, iv hd.bk, iv hd.rm, Value.bool hd.bt], iv 0, Value.bool true, Value.bool true, iv 0, Value.bool true, Value.bool true, J 22, J 23, J 24, J 25, J 26, J 27, J 28, J 29, J 30, J 31, J 32, J 33, J 34, J 35, J 36, J 37, J 38, J 39, J 40, J 41, tu]) (L' := [A]) (by kernel_rfl) rfl ?_)
  by_cases hlt : i < m
  · by_cases hlt6 : i < 6
    · have hra := rom_any (hB i hlt)
      have hbn := (boxN_ok (xs.getD i default).rc (xs.getD i default).mo).2
      obtain ⟨N, hN⟩ : ∃ N, boxN (xs.getD i default).rc (xs.getD i default).mo = N := ⟨_, rfl⟩
      rw [hN] at hra hbn
      (focus
        refine Xg.at_seq ?_
        refine Xg.at_seq ?_
        refine Xg.at_region ?_
        refine Xg.ops_op (by kernel_rfl) (Xg.opx_pure ((iv (↑i : Int))) rfl (fun _ => by kernel_rfl) ?_)
        refine Xg.ops_op (by kernel_rfl) (Xg.opx_pure ((Value.slice a m c)) rfl (fun _ => by kernel_rfl) ?_)
        refine Xg.ops_op (by kernel_rfl) (Xg.opx_pure ((iv (↑m : Int))) rfl (fun _ => by kernel_rfl) ?_)
        refine Xg.ops_op (by kernel_rfl) (Xg.opx_pure (.bool (decide ((((↑i : Int)) : Int) < ((↑m : Int))))) rfl (fun _ => by kernel_rfl) ?_)
        refine Xg.ops_op (by kernel_rfl) (Xg.opx_pure ((Value.bool (decide ((↑i : Int) < (↑m : Int))))) rfl (fun _ => by kernel_rfl) ?_)
        refine Xg.ops_flag (j := 26) (c := (decide ((↑i : Int) < (↑m : Int)))) (by kernel_rfl) (fun _ => ?_) (fun xh3 => absurd (of_decide_eq_false xh3) (by omega))
        refine Xg.ops_op (by kernel_rfl) (Xg.opx_pure ((iv (↑i : Int))) rfl (fun _ => by kernel_rfl) ?_)
        refine Xg.ops_op (by kernel_rfl) (Xg.opx_pure (.bool (decide ((((↑i : Int)) : Int) < ((6 : Int))))) rfl (fun _ => by kernel_rfl) ?_)
        refine Xg.ops_flag (j := 28) (c := (decide ((↑i : Int) < (6 : Int)))) (by kernel_rfl) (fun _ => ?_) (fun xh3 => absurd (of_decide_eq_false xh3) (by omega))
        refine Xg.ops_op (by kernel_rfl) (Xg.opx_pure ((Value.bool true)) rfl (fun _ => by kernel_rfl) ?_)
        refine Xg.ops_op (by kernel_rfl) (Xg.opx_pure ((Value.bool true)) rfl (fun _ => by kernel_rfl) ?_)
        refine Xg.ops_op (by kernel_rfl) (Xg.opx_pure ((Value.bool true)) rfl (fun _ => by kernel_rfl) ?_)
        refine Xg.ops_op (by kernel_rfl) (Xg.opx_pure ((Value.bool true)) rfl (fun _ => by kernel_rfl) ?_)
        refine Xg.ops_nil ?_
        refine Xg.at_true (t := true) (by kernel_rfl) rfl ?_
        refine Xg.at_skip ?_
        refine Xg.at_seq ?_
        refine Xg.at_block ?_
        refine Xg.at_seq ?_
        refine Xg.at_region ?_
        refine Xg.ops_op (by kernel_rfl) (Xg.opx_pure ((Value.slice a m c)) rfl (fun _ => by kernel_rfl) ?_)
        refine Xg.ops_op (by kernel_rfl) (Xg.opx_pure ((iv (↑i : Int))) rfl (fun _ => by kernel_rfl) ?_)
        refine Xg.ops_op (by kernel_rfl) (Xg.opx_rd 0 (.pointer (some (Addr.mk (Xg.blk a) (offA a + i * (8 : Nat)) none))) rfl hR (by kernel_rfl) (Xg.run_ix_rd (elem := 31) (kd := .i64) (e := ((↑i : Int))) 8 i (offA a + i * (8 : Nat)) (by kernel_rfl) (by kernel_rfl) (by kernel_rfl) (by kernel_rfl) rfl (by omega) (by rw [Xg.recs_len (wd := 8) (fun _ => rfl)]; omega) (by omega)) ?_)
        refine Xg.ops_op (by kernel_rfl) (Xg.opx_rd 0 (.agg (List.toArray [iv (xs.getD i default).t, iv (xs.getD i default).rc, iv (xs.getD i default).rr, iv (xs.getD i default).sd, iv (xs.getD i default).mo, Value.slice (xs.getD i default).pa (xs.getD i default).np (xs.getD i default).pc, Value.slice (xs.getD i default).qa (xs.getD i default).nq (xs.getD i default).qc, Value.bool (xs.getD i default).rw])) rfl hR (by kernel_rfl) (Xg.run_loadn_rd (off0 := (offA a + i * (8 : Nat))) 8 (i * (8 : Nat)) [iv (xs.getD i default).t, iv (xs.getD i default).rc, iv (xs.getD i default).rr, iv (xs.getD i default).sd, iv (xs.getD i default).mo, Value.slice (xs.getD i default).pa (xs.getD i default).np (xs.getD i default).pc, Value.slice (xs.getD i default).qa (xs.getD i default).nq (xs.getD i default).qc, Value.bool (xs.getD i default).rw] (by kernel_rfl) (by kernel_rfl) (by omega) rfl (Xg.recs_at' (wd := 8) (fun _ => rfl) default i (by omega) (by omega) (by kernel_rfl)) (by kernel_rfl)) ?_)
        refine Xg.ops_op (by kernel_rfl) (Xg.opx_callE' [0] (fun xx3 => [bts xx3.fst N N xx3.snd, A]) (fun _ => by kernel_rfl) (@hra ) (by kernel_rfl) (by kernel_rfl) (by kernel_rfl) fun xx3 xh3 => ?_)
        try dsimp only at xh3
        obtain ⟨xh3_0, xh3_1⟩ := xh3
        refine Xg.ops_op (by kernel_rfl) (Xg.opx_pure ((Value.slice xx3.fst N N)) rfl (fun _ => by kernel_rfl) ?_)
        refine Xg.ops_nil ?_
        refine Xg.at_region ?_
        refine Xg.ops_op (by kernel_rfl) (Xg.opx_pure ((Value.slice xx3.fst N N)) rfl (fun _ => by kernel_rfl) ?_))
      have hc3 := checked_d (bts xx3.1 N N xx3.2) xx3.1 N N xx3.2 xh3_0 (Nat.le_refl _) (by omega) xh3_1 Xg.reads_own
      (focus
        refine Xg.ops_op (by kernel_rfl) (Xg.opx_call1' [0] [bts xx3.fst N N xx3.snd, A] (fun _ => by kernel_rfl) (@hc3 ) (by kernel_rfl) (by kernel_rfl) (by kernel_rfl) ?_)
        refine Xg.ops_op (by kernel_rfl) (Xg.opx_pure ((Value.bool true)) rfl (fun _ => by kernel_rfl) ?_)
        refine Xg.ops_nil ?_
        refine Xg.at_inBlock ?_
        refine Xg.at_region ?_
        refine Xg.ops_op (by kernel_rfl) (Xg.opx_pure ((iv (↑i : Int))) rfl (fun _ => by kernel_rfl) ?_)
        refine Xg.ops_op (by kernel_rfl) (Xg.opx_int .i64 (IntKind.wrap .i64 (((↑i : Int) + (1 : Int)))) rfl (fun _ => by kernel_rfl) (Xg.wrap_i64_in (by omega)) ?_)
        refine Xg.ops_op (by kernel_rfl) (Xg.opx_pure ((iv ((↑i : Int) + (1 : Int)))) rfl (fun _ => by kernel_rfl) ?_)
        refine Xg.ops_nil ?_
        refine Xg.at_inLoop ?_)
      (focus
        refine Xg.at_keep [1] (by kernel_rfl) ?_
        refine Xs.same ?_ (fun J9 => ih (((i + 1)), J9) ?_ ?_) (by kernel_rfl))
      · rfl
      · exact ⟨hlt, hlt6⟩
      · show 6 - (i + 1) < 6 - i; omega
    · (focus
        refine Xg.at_seq ?_
        refine Xg.at_seq ?_
        refine Xg.at_region ?_
        refine Xg.ops_op (by kernel_rfl) (Xg.opx_pure ((iv (↑i : Int))) rfl (fun _ => by kernel_rfl) ?_)
        refine Xg.ops_op (by kernel_rfl) (Xg.opx_pure ((Value.slice a m c)) rfl (fun _ => by kernel_rfl) ?_)
        refine Xg.ops_op (by kernel_rfl) (Xg.opx_pure ((iv (↑m : Int))) rfl (fun _ => by kernel_rfl) ?_)
        refine Xg.ops_op (by kernel_rfl) (Xg.opx_pure (.bool (decide ((((↑i : Int)) : Int) < ((↑m : Int))))) rfl (fun _ => by kernel_rfl) ?_)
        refine Xg.ops_op (by kernel_rfl) (Xg.opx_pure ((Value.bool (decide ((↑i : Int) < (↑m : Int))))) rfl (fun _ => by kernel_rfl) ?_)
        refine Xg.ops_flag (j := 26) (c := (decide ((↑i : Int) < (↑m : Int)))) (by kernel_rfl) (fun _ => ?_) (fun xh3 => absurd (of_decide_eq_false xh3) (by omega))
        refine Xg.ops_op (by kernel_rfl) (Xg.opx_pure ((iv (↑i : Int))) rfl (fun _ => by kernel_rfl) ?_)
        refine Xg.ops_op (by kernel_rfl) (Xg.opx_pure (.bool (decide ((((↑i : Int)) : Int) < ((6 : Int))))) rfl (fun _ => by kernel_rfl) ?_)
        refine Xg.ops_flag (j := 28) (c := (decide ((↑i : Int) < (6 : Int)))) (by kernel_rfl) (fun xh3 => absurd (of_decide_eq_true xh3) (by omega)) (fun _ => ?_)
        refine Xg.ops_op (by kernel_rfl) (Xg.opx_pure ((Value.bool false)) rfl (fun _ => by kernel_rfl) ?_)
        refine Xg.ops_op (by kernel_rfl) (Xg.opx_pure ((Value.bool false)) rfl (fun _ => by kernel_rfl) ?_)
        refine Xg.ops_skip (by kernel_rfl) ?_
        refine Xg.ops_op (by kernel_rfl) (Xg.opx_pure ((Value.bool false)) rfl (fun _ => by kernel_rfl) ?_)
        refine Xg.ops_nil ?_
        refine Xg.at_false (t := false) (by kernel_rfl) rfl ?_
        refine Xg.at_exit rfl ?_
        refine Xg.at_seq ?_
        refine Xg.at_region ?_
        refine Xg.ops_op (by kernel_rfl) (Xg.opx_pure ((Value.bool true)) rfl (fun _ => by kernel_rfl) ?_)
        refine Xg.ops_op (by kernel_rfl) (Xg.opx_pure ((Value.bool true)) rfl (fun _ => by kernel_rfl) ?_)
        refine Xg.ops_nil ?_
        refine Xg.at_ret_ps (v := (Value.bool true)) [0] [A] Go.Proofs.Try.func4 (fun _ => by kernel_rfl) (by kernel_rfl) (by kernel_rfl) ?_
        exact ⟨by kernel_rfl, by kernel_rfl⟩)
  · (focus
      refine Xg.at_seq ?_
      refine Xg.at_seq ?_
      refine Xg.at_region ?_
      refine Xg.ops_op (by kernel_rfl) (Xg.opx_pure ((iv (↑i : Int))) rfl (fun _ => by kernel_rfl) ?_)
      refine Xg.ops_op (by kernel_rfl) (Xg.opx_pure ((Value.slice a m c)) rfl (fun _ => by kernel_rfl) ?_)
      refine Xg.ops_op (by kernel_rfl) (Xg.opx_pure ((iv (↑m : Int))) rfl (fun _ => by kernel_rfl) ?_)
      refine Xg.ops_op (by kernel_rfl) (Xg.opx_pure (.bool (decide ((((↑i : Int)) : Int) < ((↑m : Int))))) rfl (fun _ => by kernel_rfl) ?_)
      refine Xg.ops_op (by kernel_rfl) (Xg.opx_pure ((Value.bool (decide ((↑i : Int) < (↑m : Int))))) rfl (fun _ => by kernel_rfl) ?_)
      refine Xg.ops_flag (j := 26) (c := (decide ((↑i : Int) < (↑m : Int)))) (by kernel_rfl) (fun xh3 => absurd (of_decide_eq_true xh3) (by omega)) (fun _ => ?_)
      refine Xg.ops_skip (by kernel_rfl) ?_
      refine Xg.ops_skip (by kernel_rfl) ?_
      refine Xg.ops_op (by kernel_rfl) (Xg.opx_pure ((Value.bool false)) rfl (fun _ => by kernel_rfl) ?_)
      refine Xg.ops_op (by kernel_rfl) (Xg.opx_pure ((Value.bool false)) rfl (fun _ => by kernel_rfl) ?_)
      refine Xg.ops_skip (by kernel_rfl) ?_
      refine Xg.ops_op (by kernel_rfl) (Xg.opx_pure ((Value.bool false)) rfl (fun _ => by kernel_rfl) ?_)
      refine Xg.ops_nil ?_
      refine Xg.at_false (t := false) (by kernel_rfl) rfl ?_
      refine Xg.at_exit rfl ?_
      refine Xg.at_seq ?_
      refine Xg.at_region ?_
      refine Xg.ops_op (by kernel_rfl) (Xg.opx_pure ((Value.bool true)) rfl (fun _ => by kernel_rfl) ?_)
      refine Xg.ops_op (by kernel_rfl) (Xg.opx_pure ((Value.bool true)) rfl (fun _ => by kernel_rfl) ?_)
      refine Xg.ops_nil ?_
      refine Xg.at_ret_ps (v := (Value.bool true)) [0] [A] Go.Proofs.Try.func4 (fun _ => by kernel_rfl) (by kernel_rfl) (by kernel_rfl) ?_
      exact ⟨by kernel_rfl, by kernel_rfl⟩)
end Go.Proofs.Ythjhkondmobaeaa
