import Derived.Test.YtmplimmcjdkhlaaMApart15
/- The arena law: ArenaApart. -/
namespace Go.Proofs.Ytmplimmcjdkhlaa
open Go.Sl Go.Xg
set_option linter.unusedVariables false
set_option linter.unusedSimpArgs false
set_option linter.unusedSectionVars false
set_option linter.unnecessarySimpa false
set_option maxHeartbeats 4000000
set_option maxRecDepth 100000

set_option maxHeartbeats 0 in
theorem papart_d (A : HP) (a : Option Addr) (n c : Nat) (xs : List Ac) (hx : xs.length = n) (hmx : n ≤ maxLen) (hR : Reads A 6 (.slice a n c) n (recs acC xs)) (hB : n ≤ c ∧ ∀ i, i < n → Acok (xs.getD i default)) (quota : Int) (hqu : i64ok quota) (many : Int) (hmn : i64ok many) :
    Does Try.prog 11 [.slice a n c, .int .i64 quota, .int .i64 many] [A] (Ret (.bool true) [A]) := by
  have hn2 : n ≤ 9223372036854775807 := by unfold maxLen at hmx; omega
  have hp90 := pick_r quota 90 hqu (by decide)
  have hp6 := pick_r many 6 hmn (by decide)
  have l90 := pickN_lt quota 90 (by decide)
  have l6 := pickN_lt many 6 (by decide)
  obtain ⟨q, hq⟩ : ∃ q, pickN quota 90 = q := ⟨_, rfl⟩
  obtain ⟨m, hm⟩ : ∃ m, 1 + pickN many 6 = m := ⟨_, rfl⟩
  have hh := house_h m q (by omega) (by omega) (by omega)
  rw [show ((m : Nat) : Int) = 1 + (pickN many 6 : Nat) from by omega] at hh
  rw [hq] at hp90
  have h0 := hs_start m q (by omega) (by omega) (by omega)
  obtain ⟨σ0, hσ0⟩ : ∃ σ, opsσ m q 4 = σ := ⟨_, rfl⟩
  rw [hσ0] at hh h0
  obtain ⟨H0, hH0⟩ : ∃ H, H0s = H := ⟨_, rfl⟩
  rw [hH0] at hh h0
  subst hx
  (focus
    refine Xg.spec_of Go.Proofs.Try.func11 rfl Go.Proofs.Try.ntmps11 fun g F => ?_)
  (focus
    refine Xg.at_seq ?_
    refine Xg.at_region ?_
    refine Xg.ops_op (by kernel_rfl) (Xg.opx_pure ((Value.bool false)) rfl (fun _ => by kernel_rfl) ?_)
    refine Xg.ops_nil ?_
    refine Xg.at_seq ?_
    refine Xg.at_region ?_
    refine Xg.ops_op (by kernel_rfl) (Xg.opx_pure ((iv quota)) rfl (fun _ => by kernel_rfl) ?_)
    refine Xg.ops_op (by kernel_rfl) (Xg.opx_call1' [] [A] (fun _ => by kernel_rfl) (@hp90 ) (by kernel_rfl) (by kernel_rfl) (by kernel_rfl) ?_)
    refine Xg.ops_op (by kernel_rfl) (Xg.opx_pure ((iv (↑q : Int))) rfl (fun _ => by kernel_rfl) ?_)
    refine Xg.ops_nil ?_
    refine Xg.at_seq ?_
    refine Xg.at_region ?_
    refine Xg.ops_op (by kernel_rfl) (Xg.opx_pure ((iv many)) rfl (fun _ => by kernel_rfl) ?_)
    refine Xg.ops_op (by kernel_rfl) (Xg.opx_call1' [] [A] (fun _ => by kernel_rfl) (@hp6 ) (by kernel_rfl) (by kernel_rfl) (by kernel_rfl) ?_)
    refine Xg.ops_op (by kernel_rfl) (Xg.opx_int .i64 (IntKind.wrap .i64 (((1 : Int) + (↑(pickN many (6 : Nat)) : Int)))) rfl (fun _ => by kernel_rfl) (Xg.wrap_i64_in (by omega)) ?_)
    refine Xg.ops_op (by kernel_rfl) (Xg.opx_pure ((iv (↑q : Int))) rfl (fun _ => by kernel_rfl) ?_)
    refine Xg.ops_op (by kernel_rfl) (Xg.opx_callE' [] (fun xx1 => [PoolS xx1.fst σ0, recsO (62 : Nat) (3 : Nat) hdK xx1.snd.fst xx1.snd.snd H0, starL HdS H0, A]) (fun _ => by kernel_rfl) (@hh ) (by kernel_rfl) (by kernel_rfl) (by kernel_rfl) fun xx1 xh1 => ?_)
    try dsimp only at xh1
    refine Xg.ops_op (by kernel_rfl) (Xg.opx_pure ((Value.tuple #[pv xx1.fst 0, Value.slice xx1.snd.fst (4 : Nat) xx1.snd.snd, Value.bool true])) rfl (fun _ => by kernel_rfl) ?_)
    refine Xg.ops_op (by kernel_rfl) (Xg.opx_pure ((pv xx1.fst 0)) rfl (fun _ => by kernel_rfl) ?_)
    refine Xg.ops_op (by kernel_rfl) (Xg.opx_pure ((Value.slice xx1.snd.fst (4 : Nat) xx1.snd.snd)) rfl (fun _ => by kernel_rfl) ?_)
    refine Xg.ops_op (by kernel_rfl) (Xg.opx_pure ((Value.bool true)) rfl (fun _ => by kernel_rfl) ?_)
    refine Xg.ops_op (by kernel_rfl) (Xg.opx_pure ((pv xx1.fst 0)) rfl (fun _ => by kernel_rfl) ?_)
    refine Xg.ops_op (by kernel_rfl) (Xg.opx_pure ((Value.slice xx1.snd.fst (4 : Nat) xx1.snd.snd)) rfl (fun _ => by kernel_rfl) ?_)
    refine Xg.ops_op (by kernel_rfl) (Xg.opx_pure ((Value.bool true)) rfl (fun _ => by kernel_rfl) ?_)
    refine Xg.ops_nil ?_
    refine Xg.at_seq ?_
    refine Xg.at_seq ?_
    refine Xg.at_region ?_
    refine Xg.ops_op (by kernel_rfl) (Xg.opx_pure ((Value.bool true)) rfl (fun _ => by kernel_rfl) ?_)
    refine Xg.ops_op (by kernel_rfl) (Xg.opx_pure (.bool false) rfl (fun _ => by kernel_rfl) ?_)
    refine Xg.ops_nil ?_
    refine Xg.at_false (t := false) (by kernel_rfl) rfl ?_
    refine Xg.at_skip ?_
    refine Xg.at_seq ?_
    refine Xg.at_seq ?_
    refine Xg.at_region ?_
    refine Xg.ops_op (by kernel_rfl) (Xg.opx_pure ((iv 0)) rfl (fun _ => by kernel_rfl) ?_)
    refine Xg.ops_nil ?_
    refine Xg.at_block ?_)
  clear hp90 hp6 hh
  (focus
    refine Xg.at_rounds_inv (α := (Nat × Po × List HdV) × (Nat → Value)) (fun x => ((fun x => x.1 ≤ xs.length ∧ x.1 ≤ 80 ∧ Hs4 q m x.2.1 x.2.2) : (Nat × Po × List HdV) → Prop) x.1) (fun x => ((fun x => xs.length - x.1) : (Nat × Po × List HdV) → Nat) x.1) (fun x => Xg.headT [Value.slice a xs.length c, iv quota, iv many, tu, tu, tu, Value.bool false, iv (↑q : Int), pv xx1.fst 0, Value.slice xx1.snd.fst (4 : Nat) xx1.snd.snd, Value.bool true, iv 0, tu, tu, tu, tu, iv quota, iv (↑q : Int), Value.tuple #[pv xx1.fst 0, Value.slice xx1.snd.fst (4 : Nat) xx1.snd.snd, Value.bool true], iv many, iv (↑(pickN many (6 : Nat)) : Int), iv ((1 : Int) + (↑(pickN many (6 : Nat)) : Int)), iv (↑q : Int), Value.tuple #[pv xx1.fst 0, Value.slice xx1.snd.fst (4 : Nat) xx1.snd.snd, Value.bool true], pv xx1.fst 0, Value.slice xx1.snd.fst (4 : Nat) xx1.snd.snd, Value.bool true, Value.bool true, Value.bool false, tu, tu, tu, tu, tu, tu, tu, tu, tu, tu, tu, tu, tu, tu, tu, tu, tu, tu, tu, tu, tu, tu, tu, tu, tu, tu, tu, tu, tu, tu, tu, tu, tu, tu, tu, tu, tu, tu, tu, tu, tu, tu, tu, tu, tu, tu, tu, tu] [6, 10, 12, 13, 14, 15, 29, 30, 31, 32, 33, 34, 35, 36, 37, 38, 39, 40, 41, 42, 43, 44, 45, 46, 47, 48, 49, 50, 51, 52, 53, 54, 55, 56, 57, 58, 59, 60, 61, 62, 63, 64, 65, 66, 67, 68, 69, 70, 71, 72, 73, 74, 75, 76] (((fun x => [(11, .int .i64 (x.1 : Nat))]) : (Nat × Po × List HdV) → List (Nat × Go.Value)) x.1) x.2) (fun x => ((fun x => [PoolS xx1.1 x.2.1, recsO 62 3 hdK xx1.2.1 xx1.2.2 x.2.2, starL HdS x.2.2, A]) : (Nat × Po × List HdV) → List Go.Sl.HP) x.1) (((0, σ0, H0)), fun j9 => ([Value.slice a xs.length c, iv quota, iv many, tu, tu, tu, Value.bool false, iv (↑q : Int), pv xx1.fst 0, Value.slice xx1.snd.fst (4 : Nat) xx1.snd.snd, Value.bool true, iv 0, tu, tu, tu, tu, iv quota, iv (↑q : Int), Value.tuple #[pv xx1.fst 0, Value.slice xx1.snd.fst (4 : Nat) xx1.snd.snd, Value.bool true], iv many, iv (↑(pickN many (6 : Nat)) : Int), iv ((1 : Int) + (↑(pickN many (6 : Nat)) : Int)), iv (↑q : Int), Value.tuple #[pv xx1.fst 0, Value.slice xx1.snd.fst (4 : Nat) xx1.snd.snd, Value.bool true], pv xx1.fst 0, Value.slice xx1.snd.fst (4 : Nat) xx1.snd.snd, Value.bool true, Value.bool true, Value.bool false, tu, tu, tu, tu, tu, tu, tu, tu, tu, tu, tu, tu, tu, tu, tu, tu, tu, tu, tu, tu, tu, tu, tu, tu, tu, tu, tu, tu, tu, tu, tu, tu, tu, tu, tu, tu, tu, tu, tu, tu, tu, tu, tu, tu, tu, tu, tu, tu] : List Value).getD j9 undef) (by kernel_rfl) (by kernel_rfl) ?_ ?_)
  · exact ⟨Nat.zero_le _, Nat.zero_le _, h0⟩
  rintro ⟨⟨i, σ, H⟩, J⟩ hi ih
  obtain ⟨hi, hi8, hH⟩ := hi
  dsimp only at hi hi8 hH
  (focus
    refine Xg.At.same (T' := [Value.slice a xs.length c, iv quota, iv many, tu, tu, tu, J 6, iv (↑q : Int), pv xx1.fst 0, Value.slice xx1.snd.fst (4 : Nat) xx1.snd.snd, J 10, iv (↑i : Int), J 12, J 13, J 14, J 15, iv quota, iv (↑q : Int), Value.tuple #[pv xx1.fst 0, Value.slice xx1.snd.fst (4 : Nat) xx1.snd.snd, Value.bool true], iv many, iv (↑(pickN many (6 : Nat)) : Int), iv ((1 : Int) + (↑(pickN many (6 : Nat)) : Int)), iv (↑q : Int), Value.tuple #[pv xx1.fst 0, Value.slice xx1.snd.fst (4 : Nat) xx1.snd.snd, Value.bool true], pv xx1.fst 0, Value.slice xx1.snd.fst (4 : Nat) xx1.snd.snd, Value.bool true, Value.bool true, Value.bool false, J 29, J 30, J 31, J 32, J 33, J 34, J 35, J 36, J 37, J 38, J 39, J 40, J 41, J 42, J 43, J 44, J 45, J 46, J 47, J 48, J 49, J 50, J 51, J 52, J 53, J 54, J 55, J 56, J 57, J 58, J 59, J 60, J 61, J 62, J 63, J 64, J 65, J 66, J 67, J 68, J 69, J 70, J 71, J 72, J 73, J 74, J 75, J 76]) (L' := [PoolS xx1.fst ((i, σ, H), J).fst.snd.fst, recsO (62 : Nat) (3 : Nat) hdK xx1.snd.fst xx1.snd.snd ((i, σ, H), J).fst.snd.snd, starL HdS ((i, σ, H), J).fst.snd.snd, A]) (by kernel_rfl) rfl ?_)
  have hl4 := hH.len
  by_cases hlt : i < xs.length ∧ i < 80
  · obtain ⟨hlt, hlt8⟩ := hlt
    have ha := hB.2 i hlt
    have hpw := pick_r (xs.getD i default).wh 4 ha.2.1 (by decide)
    have hw := pickN_lt (xs.getD i default).wh 4 (by decide)
    obtain ⟨w, hwd⟩ : ∃ w, pickN (xs.getD i default).wh 4 = w := ⟨_, rfl⟩
    rw [hwd] at hpw hw
    have hac := acts_d hH.p2 hw (hH.all w hw) (xs.getD i default) ha xx1.1
    have hwl : w < H.length := by omega
    refine at_pick [2, 0, 1, 3] rfl (at_L_take default (i := w) hwl ?_)
    refine at_reslot 9 (.slice xx1.2.1 H.length xx1.2.2) (.slice xx1.2.1 4 xx1.2.2) (by kernel_rfl) (by rw [hl4]) ?_
    (focus
      refine Xg.at_seq ?_
      refine Xg.at_seq ?_
      refine Xg.at_region ?_
      refine Xg.ops_op (by kernel_rfl) (Xg.opx_pure ((iv (↑i : Int))) rfl (fun _ => by kernel_rfl) ?_)
      refine Xg.ops_op (by kernel_rfl) (Xg.opx_pure ((Value.slice a xs.length c)) rfl (fun _ => by kernel_rfl) ?_)
      refine Xg.ops_op (by kernel_rfl) (Xg.opx_pure ((iv (↑xs.length : Int))) rfl (fun _ => by kernel_rfl) ?_)
      refine Xg.ops_op (by kernel_rfl) (Xg.opx_pure (.bool (decide ((((↑i : Int)) : Int) < ((↑xs.length : Int))))) rfl (fun _ => by kernel_rfl) ?_)
      refine Xg.ops_op (by kernel_rfl) (Xg.opx_pure ((Value.bool (decide ((↑i : Int) < (↑xs.length : Int))))) rfl (fun _ => by kernel_rfl) ?_)
      refine Xg.ops_flag (j := 33) (c := (decide ((↑i : Int) < (↑xs.length : Int)))) (by kernel_rfl) (fun _ => ?_) (fun xh2 => absurd (of_decide_eq_false xh2) (by omega))
      refine Xg.ops_op (by kernel_rfl) (Xg.opx_pure ((iv (↑i : Int))) rfl (fun _ => by kernel_rfl) ?_)
      refine Xg.ops_op (by kernel_rfl) (Xg.opx_pure (.bool (decide ((((↑i : Int)) : Int) < ((80 : Int))))) rfl (fun _ => by kernel_rfl) ?_)
      refine Xg.ops_flag (j := 35) (c := (decide ((↑i : Int) < (80 : Int)))) (by kernel_rfl) (fun _ => ?_) (fun xh2 => absurd (of_decide_eq_false xh2) (by omega))
      refine Xg.ops_op (by kernel_rfl) (Xg.opx_pure ((Value.bool true)) rfl (fun _ => by kernel_rfl) ?_)
      refine Xg.ops_nil ?_
      refine Xg.at_true (t := true) (by kernel_rfl) rfl ?_
      refine Xg.at_skip ?_
      refine Xg.at_seq ?_
      refine Xg.at_block ?_
      refine Xg.at_seq ?_
      refine Xg.at_region ?_
      refine Xg.ops_op (by kernel_rfl) (Xg.opx_pure ((Value.slice a xs.length c)) rfl (fun _ => by kernel_rfl) ?_)
      refine Xg.ops_op (by kernel_rfl) (Xg.opx_pure ((iv (↑i : Int))) rfl (fun _ => by kernel_rfl) ?_)
      refine Xg.ops_op (by kernel_rfl) (Xg.opx_rd 4 (.pointer (some (Addr.mk (Xg.blk a) (offA a + i * (6 : Nat)) none))) rfl hR (by kernel_rfl) (Xg.run_ix_rd (elem := 59) (kd := .i64) (e := ((↑i : Int))) 6 i (offA a + i * (6 : Nat)) (by kernel_rfl) (by kernel_rfl) (by kernel_rfl) (by kernel_rfl) rfl (by omega) (by rw [Xg.recs_len (wd := 6) (fun _ => rfl)]; omega) (by omega)) ?_)
      refine Xg.ops_op (by kernel_rfl) (Xg.opx_pure ((Value.pointer (some (Addr.mk (blk a) (offA a + i * (6 : Nat) + (1 : Nat)) none)))) rfl (fun _ => by kernel_rfl) ?_)
      refine Xg.ops_op (by kernel_rfl) (Xg.opx_rd 4 (iv (xs.getD i default).wh) rfl hR (by kernel_rfl) (Xg.run_load_rd (off0 := (offA a + i * (6 : Nat) + (1 : Nat))) (i * (6 : Nat) + (1 : Nat)) (by kernel_rfl) (by omega) (Xg.get_recs' (wd := 6) (fun _ => rfl) default i 1 (by omega) (by decide) (by omega) (by kernel_rfl)) (by kernel_rfl)) ?_)
      refine Xg.ops_op (by kernel_rfl) (Xg.opx_call1' [] [HdS (H.getD w default), starL HdS (H.eraseIdx w), PoolS xx1.fst σ, recsO (62 : Nat) (3 : Nat) hdK xx1.snd.fst xx1.snd.snd H, A] (fun _ => by kernel_rfl) (@hpw ) (by kernel_rfl) (by kernel_rfl) (by kernel_rfl) ?_)
      refine Xg.ops_op (by kernel_rfl) (Xg.opx_pure ((iv (↑w : Int))) rfl (fun _ => by kernel_rfl) ?_)
      refine Xg.ops_nil ?_
      refine Xg.at_seq ?_)
    (focus
      refine Xg.at_cut (α := (HdV × Nat) × (Nat → Value)) (fun x9 => ((fun y => Hv (actσ σ w (xs.getD i default) (q : Nat)) w y.1) : (HdV × Nat) → Prop) x9.1) (fun x9 => Xg.headT [Value.slice a xs.length c, iv quota, iv many, tu, tu, tu, J 6, iv (↑q : Int), pv xx1.fst 0, Value.slice xx1.snd.fst H.length xx1.snd.snd, J 10, iv (↑i : Int), iv (↑w : Int), J 13, J 14, J 15, iv quota, iv (↑q : Int), Value.tuple #[pv xx1.fst 0, Value.slice xx1.snd.fst (4 : Nat) xx1.snd.snd, Value.bool true], iv many, iv (↑(pickN many (6 : Nat)) : Int), iv ((1 : Int) + (↑(pickN many (6 : Nat)) : Int)), iv (↑q : Int), Value.tuple #[pv xx1.fst 0, Value.slice xx1.snd.fst (4 : Nat) xx1.snd.snd, Value.bool true], pv xx1.fst 0, Value.slice xx1.snd.fst (4 : Nat) xx1.snd.snd, Value.bool true, Value.bool true, Value.bool false, iv (↑i : Int), Value.slice a xs.length c, iv (↑xs.length : Int), Value.bool (decide ((↑i : Int) < (↑xs.length : Int))), Value.bool true, iv (↑i : Int), Value.bool true, Value.bool true, J 37, J 38, Value.slice a xs.length c, iv (↑i : Int), Value.pointer (some (Addr.mk (blk a) (offA a + i * (6 : Nat)) none)), Value.pointer (some (Addr.mk (blk a) (offA a + i * (6 : Nat) + (1 : Nat)) none)), iv (xs.getD i default).wh, iv (↑w : Int), J 45, J 46, J 47, J 48, J 49, J 50, J 51, J 52, J 53, J 54, J 55, J 56, J 57, J 58, J 59, J 60, J 61, J 62, J 63, J 64, J 65, J 66, J 67, J 68, J 69, J 70, J 71, J 72, J 73, J 74, J 75, J 76] [45, 46, 47, 48, 49, 50, 51, 52, 53, 54, 55, 56, 57, 58] (((fun y => [(13, .pointer (some ⟨y.2, 0, none⟩)), (14, .bool true)]) : (HdV × Nat) → List (Nat × Go.Value)) x9.1) x9.2) (fun x9 => ((fun y => [HdS y.1, starL HdS (H.eraseIdx w), PoolS xx1.1 (actσ σ w (xs.getD i default) (q : Nat)), recsO 62 3 hdK xx1.2.1 xx1.2.2 H, A, row y.2 62 (hdK y.1)]) : (HdV × Nat) → List Go.Sl.HP) x9.1) (fun kk hk => ?_) ?_)
    · (focus
        refine Xg.at_draw [10, 14, 15] [(3, [0, 1, 2, 3, 5, 6, 7, 8, 9, 14], (RdIs (3 : Nat) (Value.slice xx1.snd.fst H.length xx1.snd.snd) H.length (recs hdK H))), (4, [0, 1, 2, 3, 4, 5, 6, 7, 8, 9, 14], (RdIs (3 : Nat) (Value.slice xx1.snd.fst H.length xx1.snd.snd) H.length (recs hdK H))), (7, [0, 1, 2, 3, 4, 5, 6, 7, 9, 14], (RdIs (6 : Nat) (Value.slice a xs.length c) xs.length (recs acC xs))), (8, [0, 1, 2, 3, 4, 5, 6, 7, 8, 9, 14], (RdIs (6 : Nat) (Value.slice a xs.length c) xs.length (recs acC xs)))] (by kernel_rfl) ?_
        refine Xg.any_pure ((pv xx1.fst 0)) 0 (by kernel_rfl) rfl (by kernel_rfl) (by kernel_rfl) (by kernel_rfl) (by kernel_rfl) rfl (fun _ => by kernel_rfl) ?_
        refine Xg.any_pure ((Value.slice xx1.snd.fst H.length xx1.snd.snd)) 1 (by kernel_rfl) rfl (by kernel_rfl) (by kernel_rfl) (by kernel_rfl) (by kernel_rfl) rfl (fun _ => by kernel_rfl) ?_
        refine Xg.any_pure ((iv (↑w : Int))) 2 (by kernel_rfl) rfl (by kernel_rfl) (by kernel_rfl) (by kernel_rfl) (by kernel_rfl) rfl (fun _ => by kernel_rfl) ?_
        refine Xg.any_reads (.pointer (some (Addr.mk (Xg.blk xx1.snd.fst) (offA xx1.snd.fst + w * (3 : Nat)) none))) 3 0 (by kernel_rfl) rfl (by kernel_rfl) (by kernel_rfl) (by kernel_rfl) (by kernel_rfl) rfl rfl (by kernel_rfl) (Xg.rd_now 3 (Xg.reads_own (E := ((62 : Nat))) (sz := ((3 : Nat))) (n := H.length) (c := xx1.snd.snd) (a := xx1.snd.fst) (vs := (recs hdK H))) (by kernel_rfl)) (Xg.run_ix_rd (elem := 62) (kd := .i64) (e := ((↑w : Int))) 3 w (offA xx1.snd.fst + w * (3 : Nat)) (by kernel_rfl) (by kernel_rfl) (by kernel_rfl) (by kernel_rfl) rfl (by omega) (by rw [Xg.recs_len (wd := 3) (fun _ => rfl)]; omega) (by omega)) ?_
        refine Xg.any_reads (.agg (List.toArray [iv (↑(H.getD w default).id : Int), Value.slice (H.getD w default).la (H.getD w default).les.length (H.getD w default).lc, Value.slice (H.getD w default).ba (H.getD w default).Z.length (H.getD w default).bc])) 4 1 (by kernel_rfl) rfl (by kernel_rfl) (by kernel_rfl) (by kernel_rfl) (by kernel_rfl) rfl rfl (by kernel_rfl) (Xg.rd_now 3 (Xg.reads_own (E := ((62 : Nat))) (sz := ((3 : Nat))) (n := H.length) (c := xx1.snd.snd) (a := xx1.snd.fst) (vs := (recs hdK H))) (by kernel_rfl)) (Xg.run_loadn_rd (off0 := (offA xx1.snd.fst + w * (3 : Nat))) 3 (w * (3 : Nat)) [iv (↑(H.getD w default).id : Int), Value.slice (H.getD w default).la (H.getD w default).les.length (H.getD w default).lc, Value.slice (H.getD w default).ba (H.getD w default).Z.length (H.getD w default).bc] (by kernel_rfl) (by kernel_rfl) (by omega) rfl (Xg.recs_at' (wd := 3) (fun _ => rfl) default w (by omega) (by omega) (by kernel_rfl)) (by kernel_rfl)) ?_
        refine Xg.any_pure ((Value.slice a xs.length c)) 5 (by kernel_rfl) rfl (by kernel_rfl) (by kernel_rfl) (by kernel_rfl) (by kernel_rfl) rfl (fun _ => by kernel_rfl) ?_
        refine Xg.any_pure ((iv (↑i : Int))) 6 (by kernel_rfl) rfl (by kernel_rfl) (by kernel_rfl) (by kernel_rfl) (by kernel_rfl) rfl (fun _ => by kernel_rfl) ?_
        refine Xg.any_reads (.pointer (some (Addr.mk (Xg.blk a) (offA a + i * (6 : Nat)) none))) 7 2 (by kernel_rfl) rfl (by kernel_rfl) (by kernel_rfl) (by kernel_rfl) (by kernel_rfl) rfl rfl (by kernel_rfl) (Xg.rd_now 4 hR (by kernel_rfl)) (Xg.run_ix_rd (elem := 59) (kd := .i64) (e := ((↑i : Int))) 6 i (offA a + i * (6 : Nat)) (by kernel_rfl) (by kernel_rfl) (by kernel_rfl) (by kernel_rfl) rfl (by omega) (by rw [Xg.recs_len (wd := 6) (fun _ => rfl)]; omega) (by omega)) ?_
        refine Xg.any_reads (.agg (List.toArray [iv (xs.getD i default).kd, iv (xs.getD i default).wh, iv (xs.getD i default).sz, iv (xs.getD i default).pk, iv (xs.getD i default).ap, iv (xs.getD i default).bt])) 8 3 (by kernel_rfl) rfl (by kernel_rfl) (by kernel_rfl) (by kernel_rfl) (by kernel_rfl) rfl rfl (by kernel_rfl) (Xg.rd_now 4 hR (by kernel_rfl)) (Xg.run_loadn_rd (off0 := (offA a + i * (6 : Nat))) 6 (i * (6 : Nat)) [iv (xs.getD i default).kd, iv (xs.getD i default).wh, iv (xs.getD i default).sz, iv (xs.getD i default).pk, iv (xs.getD i default).ap, iv (xs.getD i default).bt] (by kernel_rfl) (by kernel_rfl) (by omega) rfl (Xg.recs_at' (wd := 6) (fun _ => rfl) default i (by omega) (by omega) (by kernel_rfl)) (by kernel_rfl)) ?_
        refine Xg.any_pure ((iv (↑q : Int))) 9 (by kernel_rfl) rfl (by kernel_rfl) (by kernel_rfl) (by kernel_rfl) (by kernel_rfl) rfl (fun _ => by kernel_rfl) ?_
        refine Xg.any_each [10, 14] (by kernel_rfl) rfl ⟨?_, ?_, trivial⟩
        refine Xg.comes_act rfl (by kernel_rfl) (by kernel_rfl) (Xg.opx_callE' [2, 0] (fun xx2 => [PoolS xx1.fst (actσ σ w (xs.getD i default) (↑q : Int)), HdS xx2, starL HdS (H.eraseIdx w), recsO (62 : Nat) (3 : Nat) hdK xx1.snd.fst xx1.snd.snd H, A]) (fun _ => by kernel_rfl) (@hac ) (by kernel_rfl) (by kernel_rfl) (by kernel_rfl) fun xx2 xh2 => ?_)
        try dsimp only at xh2
        refine Xg.acts (Xg.owes_skip (by kernel_rfl) (Xg.owes_skip (by kernel_rfl) (Xg.owes_skip (by kernel_rfl) (Xg.owes_skip (by kernel_rfl) Xg.owes_nil)))) ?_
        rotate_left
        refine Xg.comes_act rfl (by kernel_rfl) (by kernel_rfl) (Xg.opx_new 3 [iv 0, Value.slice none (0 : Nat) (0 : Nat), Value.slice none (0 : Nat) (0 : Nat)] (by kernel_rfl) (by kernel_rfl) fun xb1 => ?_)
        refine Xg.acts (Xg.owes_rd 4 (Xg.reads_own (E := ((62 : Nat))) (sz := ((3 : Nat))) (n := H.length) (c := xx1.snd.snd) (a := xx1.snd.fst) (vs := (recs hdK H))) (by kernel_rfl) (Xg.owes_rd 4 (Xg.reads_own (E := ((62 : Nat))) (sz := ((3 : Nat))) (n := H.length) (c := xx1.snd.snd) (a := xx1.snd.fst) (vs := (recs hdK H))) (by kernel_rfl) (Xg.owes_rd 5 hR (by kernel_rfl) (Xg.owes_rd 5 hR (by kernel_rfl) Xg.owes_nil)))) ?_
        rotate_left
        refine Xg.any_pure ((Value.tuple #[Value.agg #[iv (↑xx2.id : Int), Value.slice xx2.la xx2.les.length xx2.lc, Value.slice xx2.ba xx2.Z.length xx2.bc], Value.bool true])) 11 (by kernel_rfl) rfl (by kernel_rfl) (by kernel_rfl) (by kernel_rfl) (by kernel_rfl) rfl (fun _ => by kernel_rfl) ?_
        refine Xg.any_pure ((Value.agg #[iv (↑xx2.id : Int), Value.slice xx2.la xx2.les.length xx2.lc, Value.slice xx2.ba xx2.Z.length xx2.bc])) 12 (by kernel_rfl) rfl (by kernel_rfl) (by kernel_rfl) (by kernel_rfl) (by kernel_rfl) rfl (fun _ => by kernel_rfl) ?_
        refine Xg.any_pure ((Value.bool true)) 13 (by kernel_rfl) rfl (by kernel_rfl) (by kernel_rfl) (by kernel_rfl) (by kernel_rfl) rfl (fun _ => by kernel_rfl) ?_
        refine Xg.any_each [14] (by kernel_rfl) rfl ⟨?_, trivial⟩
        refine Xg.comes_act rfl (by kernel_rfl) (by kernel_rfl) (Xg.opx_new 3 [iv 0, Value.slice none (0 : Nat) (0 : Nat), Value.slice none (0 : Nat) (0 : Nat)] (by kernel_rfl) (by kernel_rfl) fun xb1 => ?_)
        refine Xg.acts (Xg.owes_rd 4 (Xg.reads_own (E := ((62 : Nat))) (sz := ((3 : Nat))) (n := H.length) (c := xx1.snd.snd) (a := xx1.snd.fst) (vs := (recs hdK H))) (by kernel_rfl) (Xg.owes_rd 4 (Xg.reads_own (E := ((62 : Nat))) (sz := ((3 : Nat))) (n := H.length) (c := xx1.snd.snd) (a := xx1.snd.fst) (vs := (recs hdK H))) (by kernel_rfl) (Xg.owes_rd 5 hR (by kernel_rfl) (Xg.owes_rd 5 hR (by kernel_rfl) Xg.owes_nil)))) ?_
        refine Xg.any_each [15] (by kernel_rfl) rfl ⟨?_, trivial⟩
        refine Xg.comes_act rfl (by kernel_rfl) (by kernel_rfl) (Xg.opx_storen 3 (off := 0) 0 [iv (↑xx2.id : Int), Value.slice xx2.la xx2.les.length xx2.lc, Value.slice xx2.ba xx2.Z.length xx2.bc] (by kernel_rfl) rfl (by kernel_rfl) (by kernel_rfl) rfl (by kernel_rfl) (Nat.le_of_ble_eq_true (by kernel_rfl)) ?_)
        refine Xg.acts (Xg.owes_skip (by kernel_rfl) (Xg.owes_skip (by kernel_rfl) (Xg.owes_skip (by kernel_rfl) (Xg.owes_skip (by kernel_rfl) Xg.owes_nil)))) ?_
        refine Xg.any_pure ((Value.bool true)) 16 (by kernel_rfl) rfl (by kernel_rfl) (by kernel_rfl) (by kernel_rfl) (by kernel_rfl) rfl (fun _ => by kernel_rfl) ?_
        refine Xg.any_nil (by kernel_rfl) ?_
        rotate_left
        refine Xg.any_each [10] (by kernel_rfl) rfl ⟨?_, trivial⟩
        refine Xg.comes_act rfl (by kernel_rfl) (by kernel_rfl) (Xg.opx_callE' [3, 1] (fun xx2 => [PoolS xx1.fst (actσ σ w (xs.getD i default) (↑q : Int)), HdS xx2, row xb1 (62 : Nat) [iv 0, Value.slice none (0 : Nat) (0 : Nat), Value.slice none (0 : Nat) (0 : Nat)], starL HdS (H.eraseIdx w), recsO (62 : Nat) (3 : Nat) hdK xx1.snd.fst xx1.snd.snd H, A]) (fun _ => by kernel_rfl) (@hac ) (by kernel_rfl) (by kernel_rfl) (by kernel_rfl) fun xx2 xh2 => ?_)
        try dsimp only at xh2
        refine Xg.acts (Xg.owes_skip (by kernel_rfl) (Xg.owes_skip (by kernel_rfl) (Xg.owes_skip (by kernel_rfl) (Xg.owes_skip (by kernel_rfl) Xg.owes_nil)))) ?_
        refine Xg.any_pure ((Value.tuple #[Value.agg #[iv (↑xx2.id : Int), Value.slice xx2.la xx2.les.length xx2.lc, Value.slice xx2.ba xx2.Z.length xx2.bc], Value.bool true])) 11 (by kernel_rfl) rfl (by kernel_rfl) (by kernel_rfl) (by kernel_rfl) (by kernel_rfl) rfl (fun _ => by kernel_rfl) ?_
        refine Xg.any_pure ((Value.agg #[iv (↑xx2.id : Int), Value.slice xx2.la xx2.les.length xx2.lc, Value.slice xx2.ba xx2.Z.length xx2.bc])) 12 (by kernel_rfl) rfl (by kernel_rfl) (by kernel_rfl) (by kernel_rfl) (by kernel_rfl) rfl (fun _ => by kernel_rfl) ?_
        refine Xg.any_pure ((Value.bool true)) 13 (by kernel_rfl) rfl (by kernel_rfl) (by kernel_rfl) (by kernel_rfl) (by kernel_rfl) rfl (fun _ => by kernel_rfl) ?_
        refine Xg.any_each [15] (by kernel_rfl) rfl ⟨?_, trivial⟩
        refine Xg.comes_act rfl (by kernel_rfl) (by kernel_rfl) (Xg.opx_storen 3 (off := 0) 2 [iv (↑xx2.id : Int), Value.slice xx2.la xx2.les.length xx2.lc, Value.slice xx2.ba xx2.Z.length xx2.bc] (by kernel_rfl) rfl (by kernel_rfl) (by kernel_rfl) rfl (by kernel_rfl) (Nat.le_of_ble_eq_true (by kernel_rfl)) ?_)
        refine Xg.acts (Xg.owes_skip (by kernel_rfl) (Xg.owes_skip (by kernel_rfl) (Xg.owes_skip (by kernel_rfl) (Xg.owes_skip (by kernel_rfl) Xg.owes_nil)))) ?_
        refine Xg.any_pure ((Value.bool true)) 16 (by kernel_rfl) rfl (by kernel_rfl) (by kernel_rfl) (by kernel_rfl) (by kernel_rfl) rfl (fun _ => by kernel_rfl) ?_
        refine Xg.any_nil (by kernel_rfl) ?_)
      · (focus
          refine Xg.at_keep [1, 3, 0, 4, 5, 2] (by kernel_rfl) ?_
          refine Xg.At.same (by kernel_rfl) ?_ (hk (((xx2, xb1)), fun j9 => ([Value.slice a xs.length c, iv quota, iv many, tu, tu, tu, J 6, iv (↑q : Int), pv xx1.fst 0, Value.slice xx1.snd.fst H.length xx1.snd.snd, J 10, iv (↑i : Int), iv (↑w : Int), pv xb1 0, Value.bool true, J 15, iv quota, iv (↑q : Int), Value.tuple #[pv xx1.fst 0, Value.slice xx1.snd.fst (4 : Nat) xx1.snd.snd, Value.bool true], iv many, iv (↑(pickN many (6 : Nat)) : Int), iv ((1 : Int) + (↑(pickN many (6 : Nat)) : Int)), iv (↑q : Int), Value.tuple #[pv xx1.fst 0, Value.slice xx1.snd.fst (4 : Nat) xx1.snd.snd, Value.bool true], pv xx1.fst 0, Value.slice xx1.snd.fst (4 : Nat) xx1.snd.snd, Value.bool true, Value.bool true, Value.bool false, iv (↑i : Int), Value.slice a xs.length c, iv (↑xs.length : Int), Value.bool (decide ((↑i : Int) < (↑xs.length : Int))), Value.bool true, iv (↑i : Int), Value.bool true, Value.bool true, J 37, J 38, Value.slice a xs.length c, iv (↑i : Int), Value.pointer (some (Addr.mk (blk a) (offA a + i * (6 : Nat)) none)), Value.pointer (some (Addr.mk (blk a) (offA a + i * (6 : Nat) + (1 : Nat)) none)), iv (xs.getD i default).wh, iv (↑w : Int), Value.tuple #[Value.agg #[iv (↑xx2.id : Int), Value.slice xx2.la xx2.les.length xx2.lc, Value.slice xx2.ba xx2.Z.length xx2.bc], Value.bool true], pv xx1.fst 0, Value.slice xx1.snd.fst H.length xx1.snd.snd, iv (↑w : Int), Value.pointer (some (Addr.mk (blk xx1.snd.fst) (offA xx1.snd.fst + w * (3 : Nat)) none)), Value.agg #[iv (↑(H.getD w default).id : Int), Value.slice (H.getD w default).la (H.getD w default).les.length (H.getD w default).lc, Value.slice (H.getD w default).ba (H.getD w default).Z.length (H.getD w default).bc], Value.slice a xs.length c, iv (↑i : Int), Value.pointer (some (Addr.mk (blk a) (offA a + i * (6 : Nat)) none)), Value.agg #[iv (xs.getD i default).kd, iv (xs.getD i default).wh, iv (xs.getD i default).sz, iv (xs.getD i default).pk, iv (xs.getD i default).ap, iv (xs.getD i default).bt], iv (↑q : Int), Value.tuple #[Value.agg #[iv (↑xx2.id : Int), Value.slice xx2.la xx2.les.length xx2.lc, Value.slice xx2.ba xx2.Z.length xx2.bc], Value.bool true], Value.agg #[iv (↑xx2.id : Int), Value.slice xx2.la xx2.les.length xx2.lc, Value.slice xx2.ba xx2.Z.length xx2.bc], Value.bool true, J 59, J 60, J 61, J 62, J 63, J 64, J 65, J 66, J 67, J 68, J 69, J 70, J 71, J 72, J 73, J 74, J 75, J 76] : List Value).getD j9 undef) ?_))
        · rfl
        · assumption
      · (focus
          refine Xg.at_keep [2, 3, 1, 4, 5, 0] (by kernel_rfl) ?_
          refine Xg.At.same (by kernel_rfl) ?_ (hk (((xx2, xb1)), fun j9 => ([Value.slice a xs.length c, iv quota, iv many, tu, tu, tu, J 6, iv (↑q : Int), pv xx1.fst 0, Value.slice xx1.snd.fst H.length xx1.snd.snd, J 10, iv (↑i : Int), iv (↑w : Int), pv xb1 0, Value.bool true, J 15, iv quota, iv (↑q : Int), Value.tuple #[pv xx1.fst 0, Value.slice xx1.snd.fst (4 : Nat) xx1.snd.snd, Value.bool true], iv many, iv (↑(pickN many (6 : Nat)) : Int), iv ((1 : Int) + (↑(pickN many (6 : Nat)) : Int)), iv (↑q : Int), Value.tuple #[pv xx1.fst 0, Value.slice xx1.snd.fst (4 : Nat) xx1.snd.snd, Value.bool true], pv xx1.fst 0, Value.slice xx1.snd.fst (4 : Nat) xx1.snd.snd, Value.bool true, Value.bool true, Value.bool false, iv (↑i : Int), Value.slice a xs.length c, iv (↑xs.length : Int), Value.bool (decide ((↑i : Int) < (↑xs.length : Int))), Value.bool true, iv (↑i : Int), Value.bool true, Value.bool true, J 37, J 38, Value.slice a xs.length c, iv (↑i : Int), Value.pointer (some (Addr.mk (blk a) (offA a + i * (6 : Nat)) none)), Value.pointer (some (Addr.mk (blk a) (offA a + i * (6 : Nat) + (1 : Nat)) none)), iv (xs.getD i default).wh, iv (↑w : Int), Value.tuple #[Value.agg #[iv (↑xx2.id : Int), Value.slice xx2.la xx2.les.length xx2.lc, Value.slice xx2.ba xx2.Z.length xx2.bc], Value.bool true], pv xx1.fst 0, Value.slice xx1.snd.fst H.length xx1.snd.snd, iv (↑w : Int), Value.pointer (some (Addr.mk (blk xx1.snd.fst) (offA xx1.snd.fst + w * (3 : Nat)) none)), Value.agg #[iv (↑(H.getD w default).id : Int), Value.slice (H.getD w default).la (H.getD w default).les.length (H.getD w default).lc, Value.slice (H.getD w default).ba (H.getD w default).Z.length (H.getD w default).bc], Value.slice a xs.length c, iv (↑i : Int), Value.pointer (some (Addr.mk (blk a) (offA a + i * (6 : Nat)) none)), Value.agg #[iv (xs.getD i default).kd, iv (xs.getD i default).wh, iv (xs.getD i default).sz, iv (xs.getD i default).pk, iv (xs.getD i default).ap, iv (xs.getD i default).bt], iv (↑q : Int), Value.tuple #[Value.agg #[iv (↑xx2.id : Int), Value.slice xx2.la xx2.les.length xx2.lc, Value.slice xx2.ba xx2.Z.length xx2.bc], Value.bool true], Value.agg #[iv (↑xx2.id : Int), Value.slice xx2.la xx2.les.length xx2.lc, Value.slice xx2.ba xx2.Z.length xx2.bc], Value.bool true, J 59, J 60, J 61, J 62, J 63, J 64, J 65, J 66, J 67, J 68, J 69, J 70, J 71, J 72, J 73, J 74, J 75, J 76] : List Value).getD j9 undef) ?_))
        · rfl
        · assumption
    rintro ⟨⟨y, yb⟩, J4⟩ hy
    dsimp only at hy
    (focus
      refine Xg.At.same (T' := [Value.slice a xs.length c, iv quota, iv many, tu, tu, tu, J 6, iv (↑q : Int), pv xx1.fst 0, Value.slice xx1.snd.fst H.length xx1.snd.snd, J 10, iv (↑i : Int), iv (↑w : Int), pv yb 0, Value.bool true, J 15, iv quota, iv (↑q : Int), Value.tuple #[pv xx1.fst 0, Value.slice xx1.snd.fst (4 : Nat) xx1.snd.snd, Value.bool true], iv many, iv (↑(pickN many (6 : Nat)) : Int), iv ((1 : Int) + (↑(pickN many (6 : Nat)) : Int)), iv (↑q : Int), Value.tuple #[pv xx1.fst 0, Value.slice xx1.snd.fst (4 : Nat) xx1.snd.snd, Value.bool true], pv xx1.fst 0, Value.slice xx1.snd.fst (4 : Nat) xx1.snd.snd, Value.bool true, Value.bool true, Value.bool false, iv (↑i : Int), Value.slice a xs.length c, iv (↑xs.length : Int), Value.bool (decide ((↑i : Int) < (↑xs.length : Int))), Value.bool true, iv (↑i : Int), Value.bool true, Value.bool true, J 37, J 38, Value.slice a xs.length c, iv (↑i : Int), Value.pointer (some (Addr.mk (blk a) (offA a + i * (6 : Nat)) none)), Value.pointer (some (Addr.mk (blk a) (offA a + i * (6 : Nat) + (1 : Nat)) none)), iv (xs.getD i default).wh, iv (↑w : Int), J4 45, J4 46, J4 47, J4 48, J4 49, J4 50, J4 51, J4 52, J4 53, J4 54, J4 55, J4 56, J4 57, J4 58, J 59, J 60, J 61, J 62, J 63, J 64, J 65, J 66, J 67, J 68, J 69, J 70, J 71, J 72, J 73, J 74, J 75, J 76]) (L' := [HdS ((y, yb), J4).fst.fst, starL HdS (H.eraseIdx w), PoolS xx1.fst (actσ σ w (xs.getD i default) (↑q : Int)), recsO (62 : Nat) (3 : Nat) hdK xx1.snd.fst xx1.snd.snd H, A, row ((y, yb), J4).fst.snd (62 : TypeId) (hdK ((y, yb), J4).fst.fst)]) (by kernel_rfl) rfl ?_)
    (focus
      refine Xg.at_seq ?_
      refine Xg.at_seq ?_
      refine Xg.at_region ?_
      refine Xg.ops_op (by kernel_rfl) (Xg.opx_pure ((Value.bool true)) rfl (fun _ => by kernel_rfl) ?_)
      refine Xg.ops_op (by kernel_rfl) (Xg.opx_pure (.bool false) rfl (fun _ => by kernel_rfl) ?_)
      refine Xg.ops_nil ?_
      refine Xg.at_false (t := false) (by kernel_rfl) rfl ?_
      refine Xg.at_skip ?_
      refine Xg.at_seq ?_
      refine Xg.at_region ?_
      refine Xg.ops_op (by kernel_rfl) (Xg.opx_pure ((Value.slice xx1.snd.fst H.length xx1.snd.snd)) rfl (fun _ => by kernel_rfl) ?_)
      refine Xg.ops_op (by kernel_rfl) (Xg.opx_pure ((iv (↑w : Int))) rfl (fun _ => by kernel_rfl) ?_)
      refine Xg.ops_op (by kernel_rfl) (Xg.opx_loadn (off := 0) 3 5 [iv (↑y.id : Int), Value.slice ((y, yb), J4).fst.fst.la y.les.length y.lc, Value.slice ((y, yb), J4).fst.fst.ba y.Z.length y.bc] (by kernel_rfl) rfl (by kernel_rfl) rfl (Xg.cells_at (by kernel_rfl)) (by kernel_rfl) ?_)
      refine Xg.ops_op (by kernel_rfl) (Xg.opx_ix_own (elem := 62) (kd := .i64) (e := ((↑w : Int))) 3 3 w (w * (3 : Nat)) rfl (by kernel_rfl) (by kernel_rfl) (by kernel_rfl) (by kernel_rfl) rfl (by omega) (by omega) ?_)
      refine Xg.ops_op (by kernel_rfl) (Xg.opx_storen_recs (a := xx1.snd.fst) (off := (w * (3 : Nat))) (l := H) 3 3 w y (fun _ => rfl) (by kernel_rfl) rfl (by kernel_rfl) (by kernel_rfl) (by kernel_rfl) (by first | omega | (simp; omega)) (by first | exact .inl (by omega) | exact .inr (by omega)) ?_)
      refine Xg.ops_nil ?_
      refine Xg.at_seq ?_)
    have hH2 := hH.act hw (xs.getD i default) hy
    refine at_pick [0, 1, 2, 3, 4] rfl (at_L_put hwl ?_)
    obtain ⟨σ', hσ'⟩ : ∃ s, actσ σ w (xs.getD i default) (q : Nat) = s := ⟨_, rfl⟩
    obtain ⟨H', hH'⟩ : ∃ s, H.set w y = s := ⟨_, rfl⟩
    rw [hσ', hH'] at hH2
    rw [hσ', hH']
    clear hac hH
    have hl4' := hH2.len
    (focus
      refine Xg.at_region ?_
      refine Xg.ops_op (by kernel_rfl) (Xg.opx_pure ((iv 0)) rfl (fun _ => by kernel_rfl) ?_)
      refine Xg.ops_nil ?_
      refine Xg.at_block ?_)
    refine at_reslot 9 (.slice xx1.2.1 H'.length xx1.2.2) (.slice xx1.2.1 H.length xx1.2.2) (by kernel_rfl) (by rw [hl4, hl4']) ?_
    (focus
      refine Xg.at_rounds_inv (α := (Nat) × (Nat → Value)) (fun x => ((fun k => k ≤ 4) : (Nat) → Prop) x.1) (fun x => ((fun k => 4 - k) : (Nat) → Nat) x.1) (fun x => Xg.headT [Value.slice a xs.length c, iv quota, iv many, tu, tu, tu, J 6, iv (↑q : Int), pv xx1.fst 0, Value.slice xx1.snd.fst H'.length xx1.snd.snd, J 10, iv (↑i : Int), iv (↑w : Int), pv yb 0, Value.bool true, iv 0, iv quota, iv (↑q : Int), Value.tuple #[pv xx1.fst 0, Value.slice xx1.snd.fst (4 : Nat) xx1.snd.snd, Value.bool true], iv many, iv (↑(pickN many (6 : Nat)) : Int), iv ((1 : Int) + (↑(pickN many (6 : Nat)) : Int)), iv (↑q : Int), Value.tuple #[pv xx1.fst 0, Value.slice xx1.snd.fst (4 : Nat) xx1.snd.snd, Value.bool true], pv xx1.fst 0, Value.slice xx1.snd.fst (4 : Nat) xx1.snd.snd, Value.bool true, Value.bool true, Value.bool false, iv (↑i : Int), Value.slice a xs.length c, iv (↑xs.length : Int), Value.bool (decide ((↑i : Int) < (↑xs.length : Int))), Value.bool true, iv (↑i : Int), Value.bool true, Value.bool true, J 37, J 38, Value.slice a xs.length c, iv (↑i : Int), Value.pointer (some (Addr.mk (blk a) (offA a + i * (6 : Nat)) none)), Value.pointer (some (Addr.mk (blk a) (offA a + i * (6 : Nat) + (1 : Nat)) none)), iv (xs.getD i default).wh, iv (↑w : Int), J4 45, J4 46, J4 47, J4 48, J4 49, J4 50, J4 51, J4 52, J4 53, J4 54, J4 55, J4 56, J4 57, J4 58, Value.bool true, Value.bool false, Value.slice xx1.snd.fst H.length xx1.snd.snd, iv (↑w : Int), Value.agg #[iv (↑y.id : Int), Value.slice ((y, yb), J4).fst.fst.la y.les.length y.lc, Value.slice ((y, yb), J4).fst.fst.ba y.Z.length y.bc], Value.pointer (some (Addr.mk (blk xx1.snd.fst) (w * (3 : Nat)) none)), J 65, J 66, J 67, J 68, J 69, J 70, J 71, J 72, J 73, J 74, J 75, J 76] [6, 10, 65, 66, 67, 68, 69, 70, 71, 72, 73, 74, 75, 76] (((fun k => [(15, .int .i64 (k : Nat))]) : (Nat) → List (Nat × Go.Value)) x.1) x.2) (fun x => ((fun k => [starL HdS H', PoolS xx1.1 σ', recsO 62 3 hdK xx1.2.1 xx1.2.2 H', A]) : (Nat) → List Go.Sl.HP) x.1) ((0), fun j9 => ([Value.slice a xs.length c, iv quota, iv many, tu, tu, tu, J 6, iv (↑q : Int), pv xx1.fst 0, Value.slice xx1.snd.fst H'.length xx1.snd.snd, J 10, iv (↑i : Int), iv (↑w : Int), pv yb 0, Value.bool true, iv 0, iv quota, iv (↑q : Int), Value.tuple #[pv xx1.fst 0, Value.slice xx1.snd.fst (4 : Nat) xx1.snd.snd, Value.bool true], iv many, iv (↑(pickN many (6 : Nat)) : Int), iv ((1 : Int) + (↑(pickN many (6 : Nat)) : Int)), iv (↑q : Int), Value.tuple #[pv xx1.fst 0, Value.slice xx1.snd.fst (4 : Nat) xx1.snd.snd, Value.bool true], pv xx1.fst 0, Value.slice xx1.snd.fst (4 : Nat) xx1.snd.snd, Value.bool true, Value.bool true, Value.bool false, iv (↑i : Int), Value.slice a xs.length c, iv (↑xs.length : Int), Value.bool (decide ((↑i : Int) < (↑xs.length : Int))), Value.bool true, iv (↑i : Int), Value.bool true, Value.bool true, J 37, J 38, Value.slice a xs.length c, iv (↑i : Int), Value.pointer (some (Addr.mk (blk a) (offA a + i * (6 : Nat)) none)), Value.pointer (some (Addr.mk (blk a) (offA a + i * (6 : Nat) + (1 : Nat)) none)), iv (xs.getD i default).wh, iv (↑w : Int), J4 45, J4 46, J4 47, J4 48, J4 49, J4 50, J4 51, J4 52, J4 53, J4 54, J4 55, J4 56, J4 57, J4 58, Value.bool true, Value.bool false, Value.slice xx1.snd.fst H.length xx1.snd.snd, iv (↑w : Int), Value.agg #[iv (↑y.id : Int), Value.slice ((y, yb), J4).fst.fst.la y.les.length y.lc, Value.slice ((y, yb), J4).fst.fst.ba y.Z.length y.bc], Value.pointer (some (Addr.mk (blk xx1.snd.fst) (w * (3 : Nat)) none)), J 65, J 66, J 67, J 68, J 69, J 70, J 71, J 72, J 73, J 74, J 75, J 76] : List Value).getD j9 undef) (by kernel_rfl) (by kernel_rfl) ?_ ?_)
    · exact Nat.zero_le _
    rintro ⟨k, J3⟩ hk ih3
    dsimp only at hk
    (focus
      refine Xg.At.same (T' := [Value.slice a xs.length c, iv quota, iv many, tu, tu, tu, J3 6, iv (↑q : Int), pv xx1.fst 0, Value.slice xx1.snd.fst H'.length xx1.snd.snd, J3 10, iv (↑i : Int), iv (↑w : Int), pv yb 0, Value.bool true, iv (↑k : Int), iv quota, iv (↑q : Int), Value.tuple #[pv xx1.fst 0, Value.slice xx1.snd.fst (4 : Nat) xx1.snd.snd, Value.bool true], iv many, iv (↑(pickN many (6 : Nat)) : Int), iv ((1 : Int) + (↑(pickN many (6 : Nat)) : Int)), iv (↑q : Int), Value.tuple #[pv xx1.fst 0, Value.slice xx1.snd.fst (4 : Nat) xx1.snd.snd, Value.bool true], pv xx1.fst 0, Value.slice xx1.snd.fst (4 : Nat) xx1.snd.snd, Value.bool true, Value.bool true, Value.bool false, iv (↑i : Int), Value.slice a xs.length c, iv (↑xs.length : Int), Value.bool (decide ((↑i : Int) < (↑xs.length : Int))), Value.bool true, iv (↑i : Int), Value.bool true, Value.bool true, J 37, J 38, Value.slice a xs.length c, iv (↑i : Int), Value.pointer (some (Addr.mk (blk a) (offA a + i * (6 : Nat)) none)), Value.pointer (some (Addr.mk (blk a) (offA a + i * (6 : Nat) + (1 : Nat)) none)), iv (xs.getD i default).wh, iv (↑w : Int), J4 45, J4 46, J4 47, J4 48, J4 49, J4 50, J4 51, J4 52, J4 53, J4 54, J4 55, J4 56, J4 57, J4 58, Value.bool true, Value.bool false, Value.slice xx1.snd.fst H.length xx1.snd.snd, iv (↑w : Int), Value.agg #[iv (↑y.id : Int), Value.slice ((y, yb), J4).fst.fst.la y.les.length y.lc, Value.slice ((y, yb), J4).fst.fst.ba y.Z.length y.bc], Value.pointer (some (Addr.mk (blk xx1.snd.fst) (w * (3 : Nat)) none)), J3 65, J3 66, J3 67, J3 68, J3 69, J3 70, J3 71, J3 72, J3 73, J3 74, J3 75, J3 76]) (L' := [starL HdS H', PoolS xx1.fst σ', recsO (62 : Nat) (3 : Nat) hdK xx1.snd.fst xx1.snd.snd H', A]) (by kernel_rfl) rfl ?_)
    by_cases hk4 : k < 4
    · have hkl : k < H'.length := by omega
      have hho := holds_d hH2.p2 hk4 (hH2.all k hk4) xx1.1
      refine at_L_take default (i := k) hkl ?_
      (focus
        refine Xg.at_seq ?_
        refine Xg.at_seq ?_
        refine Xg.at_region ?_
        refine Xg.ops_op (by kernel_rfl) (Xg.opx_pure ((iv (↑k : Int))) rfl (fun _ => by kernel_rfl) ?_)
        refine Xg.ops_op (by kernel_rfl) (Xg.opx_pure (.bool (decide ((((↑k : Int)) : Int) < ((4 : Int))))) rfl (fun _ => by kernel_rfl) ?_)
        refine Xg.ops_nil ?_
        refine Xg.at_true (t := decide (((↑k : Int) < (4 : Int)))) (by kernel_rfl) (decide_eq_true (by omega)) ?_
        refine Xg.at_skip ?_
        refine Xg.at_seq ?_
        refine Xg.at_block ?_
        refine Xg.at_seq ?_
        refine Xg.at_region ?_
        refine Xg.ops_op (by kernel_rfl) (Xg.opx_pure ((pv xx1.fst 0)) rfl (fun _ => by kernel_rfl) ?_)
        refine Xg.ops_op (by kernel_rfl) (Xg.opx_pure ((Value.slice xx1.snd.fst H'.length xx1.snd.snd)) rfl (fun _ => by kernel_rfl) ?_)
        refine Xg.ops_op (by kernel_rfl) (Xg.opx_pure ((iv (↑k : Int))) rfl (fun _ => by kernel_rfl) ?_)
        refine Xg.ops_op (by kernel_rfl) (Xg.opx_ix_own (elem := 62) (kd := .i64) (e := ((↑k : Int))) 3 3 k (k * (3 : Nat)) rfl (by kernel_rfl) (by kernel_rfl) (by kernel_rfl) (by kernel_rfl) rfl (by omega) (by omega) ?_)
        refine Xg.ops_op (by kernel_rfl) (Xg.opx_loadn_own (a := xx1.snd.fst) (off := (k * (3 : Nat))) 3 3 [iv (↑(H'.getD k default).id : Int), Value.slice (H'.getD k default).la (H'.getD k default).les.length (H'.getD k default).lc, Value.slice (H'.getD k default).ba (H'.getD k default).Z.length (H'.getD k default).bc] (by kernel_rfl) rfl (by kernel_rfl) rfl (Xg.recs_at' (wd := 3) (fun _ => rfl) default k (by omega) (by omega) (by kernel_rfl)) (by kernel_rfl) ?_)
        refine Xg.ops_op (by kernel_rfl) (Xg.opx_call1' [2, 0] [PoolS xx1.fst σ', HdS (H'.getD k default), starL HdS (H'.eraseIdx k), recsO (62 : Nat) (3 : Nat) hdK xx1.snd.fst xx1.snd.snd H', A] (fun _ => by kernel_rfl) (@hho ) (by kernel_rfl) (by kernel_rfl) (by kernel_rfl) ?_)
        refine Xg.ops_op (by kernel_rfl) (Xg.opx_pure ((Value.bool true)) rfl (fun _ => by kernel_rfl) ?_)
        refine Xg.ops_nil ?_
        refine Xg.at_seq ?_
        refine Xg.at_region ?_
        refine Xg.ops_op (by kernel_rfl) (Xg.opx_pure ((Value.bool true)) rfl (fun _ => by kernel_rfl) ?_)
        refine Xg.ops_op (by kernel_rfl) (Xg.opx_pure (.bool false) rfl (fun _ => by kernel_rfl) ?_)
        refine Xg.ops_nil ?_
        refine Xg.at_false (t := false) (by kernel_rfl) rfl ?_
        refine Xg.at_skip ?_
        refine Xg.at_inBlock ?_
        refine Xg.at_region ?_
        refine Xg.ops_op (by kernel_rfl) (Xg.opx_pure ((iv (↑k : Int))) rfl (fun _ => by kernel_rfl) ?_)
        refine Xg.ops_op (by kernel_rfl) (Xg.opx_int .i64 (IntKind.wrap .i64 (((↑k : Int) + (1 : Int)))) rfl (fun _ => by kernel_rfl) (Xg.wrap_i64_in (by omega)) ?_)
        refine Xg.ops_op (by kernel_rfl) (Xg.opx_pure ((iv ((↑k : Int) + (1 : Int)))) rfl (fun _ => by kernel_rfl) ?_)
        refine Xg.ops_nil ?_
        refine Xg.at_inLoop ?_)
      refine at_pick [1, 2, 0, 3, 4] rfl (at_L_back default hkl ?_)
      (focus
        refine Xg.at_keep [0, 1, 2, 3] (by kernel_rfl) ?_
        refine Xs.same ?_ (fun J9 => ih3 (((k + 1)), J9) ?_ ?_) (by kernel_rfl))
      · rfl
      · exact hk4
      · dsimp only; omega
    · clear ih3
      refine at_reslot 9 (.slice xx1.2.1 4 xx1.2.2) (.slice xx1.2.1 H'.length xx1.2.2) (by kernel_rfl) (by rw [hl4']) ?_
      (focus
        refine Xg.at_seq ?_
        refine Xg.at_seq ?_
        refine Xg.at_region ?_
        refine Xg.ops_op (by kernel_rfl) (Xg.opx_pure ((iv (↑k : Int))) rfl (fun _ => by kernel_rfl) ?_)
        refine Xg.ops_op (by kernel_rfl) (Xg.opx_pure (.bool (decide ((((↑k : Int)) : Int) < ((4 : Int))))) rfl (fun _ => by kernel_rfl) ?_)
        refine Xg.ops_nil ?_
        refine Xg.at_false (t := decide (((↑k : Int) < (4 : Int)))) (by kernel_rfl) (decide_eq_false (by omega)) ?_
        refine Xg.at_exit rfl ?_
        refine Xg.at_inBlock ?_
        refine Xg.at_region ?_
        refine Xg.ops_op (by kernel_rfl) (Xg.opx_pure ((iv (↑i : Int))) rfl (fun _ => by kernel_rfl) ?_)
        refine Xg.ops_op (by kernel_rfl) (Xg.opx_int .i64 (IntKind.wrap .i64 (((↑i : Int) + (1 : Int)))) rfl (fun _ => by kernel_rfl) (Xg.wrap_i64_in (by omega)) ?_)
        refine Xg.ops_op (by kernel_rfl) (Xg.opx_pure ((iv ((↑i : Int) + (1 : Int)))) rfl (fun _ => by kernel_rfl) ?_)
        refine Xg.ops_nil ?_
        refine Xg.at_inLoop ?_)
      (focus
        refine Xg.at_keep [1, 2, 0, 3] (by kernel_rfl) ?_
        refine Xs.same ?_ (fun J9 => ih (((i + 1, σ', H')), J9) ?_ ?_) (by kernel_rfl))
      · rfl
      · exact ⟨hlt, hlt8, hH2⟩
      · dsimp only; omega
  · clear ih
    by_cases h8 : i < xs.length
    · obtain rfl : i = 80 := by omega
      (focus
        refine Xg.at_seq ?_
        refine Xg.at_seq ?_
        refine Xg.at_region ?_
        refine Xg.ops_op (by kernel_rfl) (Xg.opx_pure ((iv 80)) rfl (fun _ => by kernel_rfl) ?_)
        refine Xg.ops_op (by kernel_rfl) (Xg.opx_pure ((Value.slice a xs.length c)) rfl (fun _ => by kernel_rfl) ?_)
        refine Xg.ops_op (by kernel_rfl) (Xg.opx_pure ((iv (↑xs.length : Int))) rfl (fun _ => by kernel_rfl) ?_)
        refine Xg.ops_op (by kernel_rfl) (Xg.opx_pure (.bool (decide ((((80 : Int)) : Int) < ((↑xs.length : Int))))) rfl (fun _ => by kernel_rfl) ?_)
        refine Xg.ops_op (by kernel_rfl) (Xg.opx_pure ((Value.bool (decide ((80 : Int) < (↑xs.length : Int))))) rfl (fun _ => by kernel_rfl) ?_)
        refine Xg.ops_flag (j := 33) (c := (decide ((80 : Int) < (↑xs.length : Int)))) (by kernel_rfl) (fun _ => ?_) (fun xh2 => absurd (of_decide_eq_false xh2) (by omega))
        refine Xg.ops_op (by kernel_rfl) (Xg.opx_pure ((iv 80)) rfl (fun _ => by kernel_rfl) ?_)
        refine Xg.ops_op (by kernel_rfl) (Xg.opx_pure ((Value.bool false)) rfl (fun _ => by kernel_rfl) ?_)
        refine Xg.ops_op (by kernel_rfl) (Xg.opx_pure ((Value.bool false)) rfl (fun _ => by kernel_rfl) ?_)
        refine Xg.ops_nil ?_
        refine Xg.at_false (t := false) (by kernel_rfl) rfl ?_
        refine Xg.at_exit rfl ?_
        refine Xg.at_seq ?_
        refine Xg.at_region ?_
        refine Xg.ops_op (by kernel_rfl) (Xg.opx_pure ((Value.bool true)) rfl (fun _ => by kernel_rfl) ?_)
        refine Xg.ops_nil ?_
        refine Xg.at_ret_ps (v := (Value.bool true)) [3] [A] Go.Proofs.Try.func11 (fun _ => by kernel_rfl) (by kernel_rfl) (by kernel_rfl) ?_
        exact ⟨by kernel_rfl, by kernel_rfl⟩)
    · obtain rfl : i = xs.length := by omega
      (focus
        refine Xg.at_seq ?_
        refine Xg.at_seq ?_
        refine Xg.at_region ?_
        refine Xg.ops_op (by kernel_rfl) (Xg.opx_pure ((iv (↑xs.length : Int))) rfl (fun _ => by kernel_rfl) ?_)
        refine Xg.ops_op (by kernel_rfl) (Xg.opx_pure ((Value.slice a xs.length c)) rfl (fun _ => by kernel_rfl) ?_)
        refine Xg.ops_op (by kernel_rfl) (Xg.opx_pure ((iv (↑xs.length : Int))) rfl (fun _ => by kernel_rfl) ?_)
        refine Xg.ops_op (by kernel_rfl) (Xg.opx_pure (.bool (decide ((((↑xs.length : Int)) : Int) < ((↑xs.length : Int))))) rfl (fun _ => by kernel_rfl) ?_)
        refine Xg.ops_op (by kernel_rfl) (Xg.opx_pure ((Value.bool (decide ((↑xs.length : Int) < (↑xs.length : Int))))) rfl (fun _ => by kernel_rfl) ?_)
        refine Xg.ops_flag (j := 33) (c := (decide ((↑xs.length : Int) < (↑xs.length : Int)))) (by kernel_rfl) (fun xh2 => absurd (of_decide_eq_true xh2) (by omega)) (fun _ => ?_)
        refine Xg.ops_skip (by kernel_rfl) ?_
        refine Xg.ops_skip (by kernel_rfl) ?_
        refine Xg.ops_op (by kernel_rfl) (Xg.opx_pure ((Value.bool false)) rfl (fun _ => by kernel_rfl) ?_)
        refine Xg.ops_nil ?_
        refine Xg.at_false (t := false) (by kernel_rfl) rfl ?_
        refine Xg.at_exit rfl ?_
        refine Xg.at_seq ?_
        refine Xg.at_region ?_
        refine Xg.ops_op (by kernel_rfl) (Xg.opx_pure ((Value.bool true)) rfl (fun _ => by kernel_rfl) ?_)
        refine Xg.ops_nil ?_
        refine Xg.at_ret_ps (v := (Value.bool true)) [3] [A] Go.Proofs.Try.func11 (fun _ => by kernel_rfl) (by kernel_rfl) (by kernel_rfl) ?_
        exact ⟨by kernel_rfl, by kernel_rfl⟩)
end Go.Proofs.Ytmplimmcjdkhlaa
