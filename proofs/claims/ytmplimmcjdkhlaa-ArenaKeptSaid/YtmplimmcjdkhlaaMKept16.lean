import Derived.Test.YtmplimmcjdkhlaaMKept15
/- The arena law: ArenaKept. -/
namespace Go.Proofs.Ytmplimmcjdkhlaa
open Go.Sl Go.Xg
set_option linter.unusedVariables false
set_option linter.unusedSimpArgs false
set_option linter.unusedSectionVars false
set_option linter.unnecessarySimpa false
set_option maxHeartbeats 4000000
set_option maxRecDepth 100000

set_option maxHeartbeats 0 in
theorem pkept_d (A : HP) (a : Option Addr) (n c : Nat) (xs : List Ac) (hx : xs.length = n) (hmx : n ≤ maxLen) (hR : Reads A 6 (.slice a n c) n (recs acC xs)) (hB : n ≤ c ∧ ∀ i, i < n → Acok (xs.getD i default)) (quota : Int) (hqu : i64ok quota) (many : Int) (hmn : i64ok many) :
    Does Try.prog 8 [.slice a n c, .int .i64 quota, .int .i64 many] [A] (Ret (.bool true) [A]) := by
  have hn2 : n ≤ 9223372036854775807 := by unfold maxLen at hmx; omega
  have hp90 := pick_r quota 200 hqu (by decide)
  have hp6 := pick_r many 6 hmn (by decide)
  have l90 := pickN_lt quota 200 (by decide)
  have l6 := pickN_lt many 6 (by decide)
  obtain ⟨q, hq⟩ : ∃ q, pickN quota 200 = q := ⟨_, rfl⟩
  obtain ⟨m, hm⟩ : ∃ m, 1 + pickN many 6 = m := ⟨_, rfl⟩
  have hh := house_h m q (by omega) (by omega) (by omega)
  rw [hq] at hp90
  have h0 := hs_start m q (by omega) (by omega) (by omega)
  obtain ⟨σ0, hσ0⟩ : ∃ σ, opsσ m q 4 = σ := ⟨_, rfl⟩
  rw [hσ0] at hh h0
  obtain ⟨H0, hH0⟩ : ∃ H, H0s = H := ⟨_, rfl⟩
  rw [hH0] at hh h0
  subst hx
  (focus
    refine Xg.spec_of Go.Proofs.Try.func8 rfl Go.Proofs.Try.ntmps8 fun g F => ?_)
  (focus
    refine Xg.at_seq ?_
    refine Xg.at_region ?_
    refine Xg.ops_op (by kernel_rfl) (Xg.opx_pure ((Value.bool false)) rfl (fun _ => by kernel_rfl) ?_)
    refine Xg.ops_nil ?_
    refine Xg.at_seq ?_
    refine Xg.at_region ?_
    refine Xg.ops_op (by kernel_rfl) (Xg.opx_pure ((iv quota)) rfl (fun _ => by kernel_rfl) ?_)
    refine Xg.ops_op (by kernel_rfl) (Xg.opx_call1' [] [A] (fun _ => by kernel_rfl) (@hp90 ) (by kernel_rfl) (by kernel_rfl) (by kernel_rfl) ?_)
    refine Xg.ops_op (by kernel_rfl) (Xg.opx_pure ((iv (↑q : Int))) rfl (fun _ => by kernel_rfl) ?_)
    refine Xg.ops_nil ?_
    refine Xg.at_seq ?_
    refine Xg.at_region ?_
    refine Xg.ops_op (by kernel_rfl) (Xg.opx_pure ((iv many)) rfl (fun _ => by kernel_rfl) ?_)
    refine Xg.ops_op (by kernel_rfl) (Xg.opx_call1' [] [A] (fun _ => by kernel_rfl) (@hp6 ) (by kernel_rfl) (by kernel_rfl) (by kernel_rfl) ?_)
    refine Xg.ops_op (by kernel_rfl) (Xg.opx_int .i64 (IntKind.wrap .i64 (((1 : Int) + (↑(pickN many (6 : Nat)) : Int)))) rfl (fun _ => by kernel_rfl) (Xg.wrap_i64_in (by omega)) ?_)
    refine Xg.ops_op (by kernel_rfl) (Xg.opx_pure ((iv ((1 : Int) + (↑(pickN many (6 : Nat)) : Int)))) rfl (fun _ => by kernel_rfl) ?_)
    refine Xg.ops_nil ?_
    refine Xg.at_seq ?_)
  rw [show (1 : Int) + (pickN many 6 : Nat) = ((m : Nat) : Int) from by omega]
  (focus
    refine Xg.at_region ?_
    refine Xg.ops_op (by kernel_rfl) (Xg.opx_pure ((iv (↑m : Int))) rfl (fun _ => by kernel_rfl) ?_)
    refine Xg.ops_op (by kernel_rfl) (Xg.opx_pure ((iv (↑q : Int))) rfl (fun _ => by kernel_rfl) ?_)
    refine Xg.ops_op (by kernel_rfl) (Xg.opx_callE' [] (fun xx1 => [PoolS xx1.fst σ0, recsO (62 : Nat) (3 : Nat) hdK xx1.snd.fst xx1.snd.snd H0, starL HdS H0, A]) (fun _ => by kernel_rfl) (@hh ) (by kernel_rfl) (by kernel_rfl) (by kernel_rfl) fun xx1 xh1 => ?_)
    try dsimp only at xh1
    refine Xg.ops_op (by kernel_rfl) (Xg.opx_pure ((Value.tuple #[pv xx1.fst 0, Value.slice xx1.snd.fst (4 : Nat) xx1.snd.snd, Value.bool true])) rfl (fun _ => by kernel_rfl) ?_)
    refine Xg.ops_op (by kernel_rfl) (Xg.opx_pure ((pv xx1.fst 0)) rfl (fun _ => by kernel_rfl) ?_)
    refine Xg.ops_op (by kernel_rfl) (Xg.opx_pure ((Value.slice xx1.snd.fst (4 : Nat) xx1.snd.snd)) rfl (fun _ => by kernel_rfl) ?_)
    refine Xg.ops_op (by kernel_rfl) (Xg.opx_pure ((Value.bool true)) rfl (fun _ => by kernel_rfl) ?_)
    refine Xg.ops_op (by kernel_rfl) (Xg.opx_pure ((pv xx1.fst 0)) rfl (fun _ => by kernel_rfl) ?_)
    refine Xg.ops_op (by kernel_rfl) (Xg.opx_pure ((Value.slice xx1.snd.fst (4 : Nat) xx1.snd.snd)) rfl (fun _ => by kernel_rfl) ?_)
    refine Xg.ops_op (by kernel_rfl) (Xg.opx_pure ((Value.bool true)) rfl (fun _ => by kernel_rfl) ?_)
    refine Xg.ops_nil ?_
    refine Xg.at_seq ?_
    refine Xg.at_seq ?_
    refine Xg.at_region ?_
    refine Xg.ops_op (by kernel_rfl) (Xg.opx_pure ((Value.bool true)) rfl (fun _ => by kernel_rfl) ?_)
    refine Xg.ops_op (by kernel_rfl) (Xg.opx_pure (.bool false) rfl (fun _ => by kernel_rfl) ?_)
    refine Xg.ops_nil ?_
    refine Xg.at_false (t := false) (by kernel_rfl) rfl ?_
    refine Xg.at_skip ?_
    refine Xg.at_seq ?_
    refine Xg.at_seq ?_
    refine Xg.at_region ?_
    refine Xg.ops_op (by kernel_rfl) (Xg.opx_pure ((iv 0)) rfl (fun _ => by kernel_rfl) ?_)
    refine Xg.ops_nil ?_
    refine Xg.at_block ?_)
  clear hp90 hp6 hh
  (focus
    refine Xg.at_rounds_inv (α := (Nat × Po × List HdV) × (Nat → Value)) (fun x => ((fun x => x.1 ≤ xs.length ∧ x.1 ≤ 120 ∧ Hs4 q m x.2.1 x.2.2) : (Nat × Po × List HdV) → Prop) x.1) (fun x => ((fun x => xs.length - x.1) : (Nat × Po × List HdV) → Nat) x.1) (fun x => Xg.headT [Value.slice a xs.length c, iv quota, iv many, tu, tu, tu, Value.bool false, iv (↑q : Int), iv (↑m : Int), pv xx1.fst 0, Value.slice xx1.snd.fst (4 : Nat) xx1.snd.snd, Value.bool true, iv 0, tu, tu, tu, tu, tu, tu, tu, tu, tu, tu, tu, tu, tu, tu, tu, tu, tu, tu, iv quota, iv (↑q : Int), iv many, iv (↑(pickN many (6 : Nat)) : Int), iv (↑m : Int), Value.tuple #[pv xx1.fst 0, Value.slice xx1.snd.fst (4 : Nat) xx1.snd.snd, Value.bool true], iv (↑m : Int), iv (↑q : Int), Value.tuple #[pv xx1.fst 0, Value.slice xx1.snd.fst (4 : Nat) xx1.snd.snd, Value.bool true], pv xx1.fst 0, Value.slice xx1.snd.fst (4 : Nat) xx1.snd.snd, Value.bool true, Value.bool true, Value.bool false, tu, tu, tu, tu, tu, tu, tu, tu, tu, tu, tu, tu, tu, tu, tu, tu, tu, tu, tu, tu, tu, tu, tu, tu, tu, tu, tu, tu, tu, tu, tu, tu, tu, tu, tu, tu, tu, tu, tu, tu, tu, tu, tu, tu, tu, tu, tu, tu, tu, tu, tu, tu, tu, tu, tu, tu, tu, tu, tu, tu, tu, tu, tu, tu, tu, tu, tu, tu, tu, tu, tu, tu, tu, tu, tu, tu, tu, tu, tu, tu, tu, tu, tu, tu, tu, tu, tu, tu, tu, tu, tu, tu, tu, tu, tu, tu, tu, tu, tu, tu, tu, tu, tu, tu, tu, tu, tu, tu, tu, tu, tu, tu, tu, tu, tu, tu, tu, tu, tu, tu, tu, tu, tu, tu, tu, tu, tu, tu, tu, tu, tu, tu, tu, tu, tu, tu, tu, tu, tu, tu, tu, tu, tu, tu, tu, tu, tu, tu, tu, tu, tu, tu, tu, tu, tu, tu, tu, tu, tu, tu, tu, tu, tu, tu, tu, tu, tu, tu, tu, tu, tu, tu, tu, tu, tu, tu, tu, tu, tu, tu, tu, tu] [6, 13, 14, 15, 16, 17, 18, 19, 20, 21, 22, 23, 24, 45, 46, 47, 48, 49, 50, 51, 52, 53, 54, 55, 56, 57, 58, 59, 60, 61, 62, 63, 64, 65, 66, 67, 68, 69, 70, 71, 72, 73, 74, 75, 76, 77, 78, 79, 80, 81, 82, 83, 84, 85, 86, 87, 88, 89, 90, 91, 92, 93, 94, 95, 96, 97, 98, 99, 100, 101, 102, 103, 104, 105, 106, 107, 108, 109, 110, 111, 112, 113, 114, 115, 116, 117, 118, 119, 120, 121, 122, 123, 124, 125, 126, 127, 128, 129, 130, 131, 132, 133, 134, 135, 136, 137, 138, 139, 140, 141, 142, 143, 144, 145, 146, 147, 148, 149, 150, 151, 152, 153, 154, 155, 156, 157, 158, 159, 160, 161, 162, 163, 164, 165, 166, 167, 168, 169, 170, 171, 172, 173] (((fun x => [(12, .int .i64 (x.1 : Nat))]) : (Nat × Po × List HdV) → List (Nat × Go.Value)) x.1) x.2) (fun x => ((fun x => [PoolS xx1.1 x.2.1, recsO 62 3 hdK xx1.2.1 xx1.2.2 x.2.2, starL HdS x.2.2, A]) : (Nat × Po × List HdV) → List Go.Sl.HP) x.1) (((0, σ0, H0)), fun j9 => ([Value.slice a xs.length c, iv quota, iv many, tu, tu, tu, Value.bool false, iv (↑q : Int), iv (↑m : Int), pv xx1.fst 0, Value.slice xx1.snd.fst (4 : Nat) xx1.snd.snd, Value.bool true, iv 0, tu, tu, tu, tu, tu, tu, tu, tu, tu, tu, tu, tu, tu, tu, tu, tu, tu, tu, iv quota, iv (↑q : Int), iv many, iv (↑(pickN many (6 : Nat)) : Int), iv (↑m : Int), Value.tuple #[pv xx1.fst 0, Value.slice xx1.snd.fst (4 : Nat) xx1.snd.snd, Value.bool true], iv (↑m : Int), iv (↑q : Int), Value.tuple #[pv xx1.fst 0, Value.slice xx1.snd.fst (4 : Nat) xx1.snd.snd, Value.bool true], pv xx1.fst 0, Value.slice xx1.snd.fst (4 : Nat) xx1.snd.snd, Value.bool true, Value.bool true, Value.bool false, tu, tu, tu, tu, tu, tu, tu, tu, tu, tu, tu, tu, tu, tu, tu, tu, tu, tu, tu, tu, tu, tu, tu, tu, tu, tu, tu, tu, tu, tu, tu, tu, tu, tu, tu, tu, tu, tu, tu, tu, tu, tu, tu, tu, tu, tu, tu, tu, tu, tu, tu, tu, tu, tu, tu, tu, tu, tu, tu, tu, tu, tu, tu, tu, tu, tu, tu, tu, tu, tu, tu, tu, tu, tu, tu, tu, tu, tu, tu, tu, tu, tu, tu, tu, tu, tu, tu, tu, tu, tu, tu, tu, tu, tu, tu, tu, tu, tu, tu, tu, tu, tu, tu, tu, tu, tu, tu, tu, tu, tu, tu, tu, tu, tu, tu, tu, tu, tu, tu, tu, tu, tu, tu, tu, tu, tu, tu, tu, tu, tu, tu, tu, tu, tu, tu, tu, tu, tu, tu, tu, tu, tu, tu, tu, tu, tu, tu, tu, tu, tu, tu, tu, tu, tu, tu, tu, tu, tu, tu, tu, tu, tu, tu, tu, tu, tu, tu, tu, tu, tu, tu, tu, tu, tu, tu, tu, tu, tu, tu, tu, tu, tu] : List Value).getD j9 undef) (by kernel_rfl) (by kernel_rfl) ?_ ?_)
  · exact ⟨Nat.zero_le _, Nat.zero_le _, h0⟩
  rintro ⟨⟨i, σ, H⟩, J⟩ hi ih
  obtain ⟨hi, hi8, hH⟩ := hi
  dsimp only at hi hi8 hH
  (focus
    refine Xg.At.same (T' := [Value.slice a xs.length c, iv quota, iv many, tu, tu, tu, J 6, iv (↑q : Int), iv (↑m : Int), pv xx1.fst 0, Value.slice xx1.snd.fst (4 : Nat) xx1.snd.snd, Value.bool true, iv (↑i : Int), J 13, J 14, J 15, J 16, J 17, J 18, J 19, J 20, J 21, J 22, J 23, J 24, tu, tu, tu, tu, tu, tu, iv quota, iv (↑q : Int), iv many, iv (↑(pickN many (6 : Nat)) : Int), iv (↑m : Int), Value.tuple #[pv xx1.fst 0, Value.slice xx1.snd.fst (4 : Nat) xx1.snd.snd, Value.bool true], iv (↑m : Int), iv (↑q : Int), Value.tuple #[pv xx1.fst 0, Value.slice xx1.snd.fst (4 : Nat) xx1.snd.snd, Value.bool true], pv xx1.fst 0, Value.slice xx1.snd.fst (4 : Nat) xx1.snd.snd, Value.bool true, Value.bool true, Value.bool false, J 45, J 46, J 47, J 48, J 49, J 50, J 51, J 52, J 53, J 54, J 55, J 56, J 57, J 58, J 59, J 60, J 61, J 62, J 63, J 64, J 65, J 66, J 67, J 68, J 69, J 70, J 71, J 72, J 73, J 74, J 75, J 76, J 77, J 78, J 79, J 80, J 81, J 82, J 83, J 84, J 85, J 86, J 87, J 88, J 89, J 90, J 91, J 92, J 93, J 94, J 95, J 96, J 97, J 98, J 99, J 100, J 101, J 102, J 103, J 104, J 105, J 106, J 107, J 108, J 109, J 110, J 111, J 112, J 113, J 114, J 115, J 116, J 117, J 118, J 119, J 120, J 121, J 122, J 123, J 124, J 125, J 126, J 127, J 128, J 129, J 130, J 131, J 132, J 133, J 134, J 135, J 136, J 137, J 138, J 139, J 140, J 141, J 142, J 143, J 144, J 145, J 146, J 147, J 148, J 149, J 150, J 151, J 152, J 153, J 154, J 155, J 156, J 157, J 158, J 159, J 160, J 161, J 162, J 163, J 164, J 165, J 166, J 167, J 168, J 169, J 170, J 171, J 172, J 173, tu, tu, tu, tu, tu, tu, tu, tu, tu, tu, tu, tu, tu, tu, tu, tu, tu, tu, tu, tu, tu, tu, tu, tu, tu, tu, tu, tu, tu, tu, tu, tu, tu, tu, tu, tu, tu, tu, tu, tu, tu, tu, tu, tu, tu, tu, tu, tu, tu, tu, tu, tu, tu]) (L' := [PoolS xx1.fst ((i, σ, H), J).fst.snd.fst, recsO (62 : Nat) (3 : Nat) hdK xx1.snd.fst xx1.snd.snd ((i, σ, H), J).fst.snd.snd, starL HdS ((i, σ, H), J).fst.snd.snd, A]) (by kernel_rfl) rfl ?_)
  have hl4 := hH.len
  by_cases hlt : i < xs.length ∧ i < 120
  · obtain ⟨hlt, hlt8⟩ := hlt
    have ha := hB.2 i hlt
    have hpw := pick_r (xs.getD i default).wh 4 ha.2.1 (by decide)
    have hw := pickN_lt (xs.getD i default).wh 4 (by decide)
    obtain ⟨w, hwd⟩ : ∃ w, pickN (xs.getD i default).wh 4 = w := ⟨_, rfl⟩
    rw [hwd] at hpw hw
    have hac := acts_d hH.p2 hw (hH.all w hw) (xs.getD i default) ha xx1.1
    have hwl : w < H.length := by omega
    refine at_pick [2, 0, 1, 3] rfl (at_L_take default (i := w) hwl ?_)
    refine at_reslot 10 (.slice xx1.2.1 H.length xx1.2.2) (.slice xx1.2.1 4 xx1.2.2) (by kernel_rfl) (by rw [hl4]) ?_
    (focus
      refine Xg.at_seq ?_
      refine Xg.at_seq ?_
      refine Xg.at_region ?_
      refine Xg.ops_op (by kernel_rfl) (Xg.opx_pure ((iv (↑i : Int))) rfl (fun _ => by kernel_rfl) ?_)
      refine Xg.ops_op (by kernel_rfl) (Xg.opx_pure ((Value.slice a xs.length c)) rfl (fun _ => by kernel_rfl) ?_)
      refine Xg.ops_op (by kernel_rfl) (Xg.opx_pure ((iv (↑xs.length : Int))) rfl (fun _ => by kernel_rfl) ?_)
      refine Xg.ops_op (by kernel_rfl) (Xg.opx_pure (.bool (decide ((((↑i : Int)) : Int) < ((↑xs.length : Int))))) rfl (fun _ => by kernel_rfl) ?_)
      refine Xg.ops_op (by kernel_rfl) (Xg.opx_pure ((Value.bool (decide ((↑i : Int) < (↑xs.length : Int))))) rfl (fun _ => by kernel_rfl) ?_)
      refine Xg.ops_flag (j := 49) (c := (decide ((↑i : Int) < (↑xs.length : Int)))) (by kernel_rfl) (fun _ => ?_) (fun xh2 => absurd (of_decide_eq_false xh2) (by omega))
      refine Xg.ops_op (by kernel_rfl) (Xg.opx_pure ((iv (↑i : Int))) rfl (fun _ => by kernel_rfl) ?_)
      refine Xg.ops_op (by kernel_rfl) (Xg.opx_pure (.bool (decide ((((↑i : Int)) : Int) < ((120 : Int))))) rfl (fun _ => by kernel_rfl) ?_)
      refine Xg.ops_flag (j := 51) (c := (decide ((↑i : Int) < (120 : Int)))) (by kernel_rfl) (fun _ => ?_) (fun xh2 => absurd (of_decide_eq_false xh2) (by omega))
      refine Xg.ops_op (by kernel_rfl) (Xg.opx_pure ((Value.bool true)) rfl (fun _ => by kernel_rfl) ?_)
      refine Xg.ops_nil ?_
      refine Xg.at_true (t := true) (by kernel_rfl) rfl ?_
      refine Xg.at_skip ?_
      refine Xg.at_seq ?_
      refine Xg.at_block ?_
      refine Xg.at_seq ?_
      refine Xg.at_region ?_
      refine Xg.ops_op (by kernel_rfl) (Xg.opx_pure ((Value.slice a xs.length c)) rfl (fun _ => by kernel_rfl) ?_)
      refine Xg.ops_op (by kernel_rfl) (Xg.opx_pure ((iv (↑i : Int))) rfl (fun _ => by kernel_rfl) ?_)
      refine Xg.ops_op (by kernel_rfl) (Xg.opx_rd 4 (.pointer (some (Addr.mk (Xg.blk a) (offA a + i * (6 : Nat)) none))) rfl hR (by kernel_rfl) (Xg.run_ix_rd (elem := 59) (kd := .i64) (e := ((↑i : Int))) 6 i (offA a + i * (6 : Nat)) (by kernel_rfl) (by kernel_rfl) (by kernel_rfl) (by kernel_rfl) rfl (by omega) (by rw [Xg.recs_len (wd := 6) (fun _ => rfl)]; omega) (by omega)) ?_)
      refine Xg.ops_op (by kernel_rfl) (Xg.opx_pure ((Value.pointer (some (Addr.mk (blk a) (offA a + i * (6 : Nat) + (1 : Nat)) none)))) rfl (fun _ => by kernel_rfl) ?_)
      refine Xg.ops_op (by kernel_rfl) (Xg.opx_rd 4 (iv (xs.getD i default).wh) rfl hR (by kernel_rfl) (Xg.run_load_rd (off0 := (offA a + i * (6 : Nat) + (1 : Nat))) (i * (6 : Nat) + (1 : Nat)) (by kernel_rfl) (by omega) (Xg.get_recs' (wd := 6) (fun _ => rfl) default i 1 (by omega) (by decide) (by omega) (by kernel_rfl)) (by kernel_rfl)) ?_)
      refine Xg.ops_op (by kernel_rfl) (Xg.opx_call1' [] [HdS (H.getD w default), starL HdS (H.eraseIdx w), PoolS xx1.fst σ, recsO (62 : Nat) (3 : Nat) hdK xx1.snd.fst xx1.snd.snd H, A] (fun _ => by kernel_rfl) (@hpw ) (by kernel_rfl) (by kernel_rfl) (by kernel_rfl) ?_)
      refine Xg.ops_op (by kernel_rfl) (Xg.opx_pure ((iv (↑w : Int))) rfl (fun _ => by kernel_rfl) ?_)
      refine Xg.ops_nil ?_
      refine Xg.at_seq ?_)
    (focus
      refine Xg.at_cut (α := (HdV × Nat) × (Nat → Value)) (fun x9 => ((fun y => Hv (actσ σ w (xs.getD i default) (q : Nat)) w y.1) : (HdV × Nat) → Prop) x9.1) (fun x9 => Xg.headT [Value.slice a xs.length c, iv quota, iv many, tu, tu, tu, J 6, iv (↑q : Int), iv (↑m : Int), pv xx1.fst 0, Value.slice xx1.snd.fst H.length xx1.snd.snd, Value.bool true, iv (↑i : Int), iv (↑w : Int), J 14, J 15, J 16, J 17, J 18, J 19, J 20, J 21, J 22, J 23, J 24, tu, tu, tu, tu, tu, tu, iv quota, iv (↑q : Int), iv many, iv (↑(pickN many (6 : Nat)) : Int), iv (↑m : Int), Value.tuple #[pv xx1.fst 0, Value.slice xx1.snd.fst (4 : Nat) xx1.snd.snd, Value.bool true], iv (↑m : Int), iv (↑q : Int), Value.tuple #[pv xx1.fst 0, Value.slice xx1.snd.fst (4 : Nat) xx1.snd.snd, Value.bool true], pv xx1.fst 0, Value.slice xx1.snd.fst (4 : Nat) xx1.snd.snd, Value.bool true, Value.bool true, Value.bool false, iv (↑i : Int), Value.slice a xs.length c, iv (↑xs.length : Int), Value.bool (decide ((↑i : Int) < (↑xs.length : Int))), Value.bool true, iv (↑i : Int), Value.bool true, Value.bool true, J 53, J 54, Value.slice a xs.length c, iv (↑i : Int), Value.pointer (some (Addr.mk (blk a) (offA a + i * (6 : Nat)) none)), Value.pointer (some (Addr.mk (blk a) (offA a + i * (6 : Nat) + (1 : Nat)) none)), iv (xs.getD i default).wh, iv (↑w : Int), J 61, J 62, J 63, J 64, J 65, J 66, J 67, J 68, J 69, J 70, J 71, J 72, J 73, J 74, J 75, J 76, J 77, J 78, J 79, J 80, J 81, J 82, J 83, J 84, J 85, J 86, J 87, J 88, J 89, J 90, J 91, J 92, J 93, J 94, J 95, J 96, J 97, J 98, J 99, J 100, J 101, J 102, J 103, J 104, J 105, J 106, J 107, J 108, J 109, J 110, J 111, J 112, J 113, J 114, J 115, J 116, J 117, J 118, J 119, J 120, J 121, J 122, J 123, J 124, J 125, J 126, J 127, J 128, J 129, J 130, J 131, J 132, J 133, J 134, J 135, J 136, J 137, J 138, J 139, J 140, J 141, J 142, J 143, J 144, J 145, J 146, J 147, J 148, J 149, J 150, J 151, J 152, J 153, J 154, J 155, J 156, J 157, J 158, J 159, J 160, J 161, J 162, J 163, J 164, J 165, J 166, J 167, J 168, J 169, J 170, J 171, J 172, J 173, tu, tu, tu, tu, tu, tu, tu, tu, tu, tu, tu, tu, tu, tu, tu, tu, tu, tu, tu, tu, tu, tu, tu, tu, tu, tu, tu, tu, tu, tu, tu, tu, tu, tu, tu, tu, tu, tu, tu, tu, tu, tu, tu, tu, tu, tu, tu, tu, tu, tu, tu, tu, tu] [61, 62, 63, 64, 65, 66, 67, 68, 69, 70, 71, 72, 73, 74] (((fun y => [(14, .pointer (some ⟨y.2, 0, none⟩)), (15, .bool true)]) : (HdV × Nat) → List (Nat × Go.Value)) x9.1) x9.2) (fun x9 => ((fun y => [HdS y.1, starL HdS (H.eraseIdx w), PoolS xx1.1 (actσ σ w (xs.getD i default) (q : Nat)), recsO 62 3 hdK xx1.2.1 xx1.2.2 H, A, row y.2 62 (hdK y.1)]) : (HdV × Nat) → List Go.Sl.HP) x9.1) (fun kk hk => ?_) ?_)
    · (focus
        refine Xg.at_draw [10, 14, 15] [(3, [0, 1, 2, 3, 5, 6, 7, 8, 9, 14], (RdIs (3 : Nat) (Value.slice xx1.snd.fst H.length xx1.snd.snd) H.length (recs hdK H))), (4, [0, 1, 2, 3, 4, 5, 6, 7, 8, 9, 14], (RdIs (3 : Nat) (Value.slice xx1.snd.fst H.length xx1.snd.snd) H.length (recs hdK H))), (7, [0, 1, 2, 3, 4, 5, 6, 7, 9, 14], (RdIs (6 : Nat) (Value.slice a xs.length c) xs.length (recs acC xs))), (8, [0, 1, 2, 3, 4, 5, 6, 7, 8, 9, 14], (RdIs (6 : Nat) (Value.slice a xs.length c) xs.length (recs acC xs)))] (by kernel_rfl) ?_
        refine Xg.any_pure ((pv xx1.fst 0)) 0 (by kernel_rfl) rfl (by kernel_rfl) (by kernel_rfl) (by kernel_rfl) (by kernel_rfl) rfl (fun _ => by kernel_rfl) ?_
        refine Xg.any_pure ((Value.slice xx1.snd.fst H.length xx1.snd.snd)) 1 (by kernel_rfl) rfl (by kernel_rfl) (by kernel_rfl) (by kernel_rfl) (by kernel_rfl) rfl (fun _ => by kernel_rfl) ?_
        refine Xg.any_pure ((iv (↑w : Int))) 2 (by kernel_rfl) rfl (by kernel_rfl) (by kernel_rfl) (by kernel_rfl) (by kernel_rfl) rfl (fun _ => by kernel_rfl) ?_
        refine Xg.any_reads (.pointer (some (Addr.mk (Xg.blk xx1.snd.fst) (offA xx1.snd.fst + w * (3 : Nat)) none))) 3 0 (by kernel_rfl) rfl (by kernel_rfl) (by kernel_rfl) (by kernel_rfl) (by kernel_rfl) rfl rfl (by kernel_rfl) (Xg.rd_now 3 (Xg.reads_own (E := ((62 : Nat))) (sz := ((3 : Nat))) (n := H.length) (c := xx1.snd.snd) (a := xx1.snd.fst) (vs := (recs hdK H))) (by kernel_rfl)) (Xg.run_ix_rd (elem := 62) (kd := .i64) (e := ((↑w : Int))) 3 w (offA xx1.snd.fst + w * (3 : Nat)) (by kernel_rfl) (by kernel_rfl) (by kernel_rfl) (by kernel_rfl) rfl (by omega) (by rw [Xg.recs_len (wd := 3) (fun _ => rfl)]; omega) (by omega)) ?_
        refine Xg.any_reads (.agg (List.toArray [iv (↑(H.getD w default).id : Int), Value.slice (H.getD w default).la (H.getD w default).les.length (H.getD w default).lc, Value.slice (H.getD w default).ba (H.getD w default).Z.length (H.getD w default).bc])) 4 1 (by kernel_rfl) rfl (by kernel_rfl) (by kernel_rfl) (by kernel_rfl) (by kernel_rfl) rfl rfl (by kernel_rfl) (Xg.rd_now 3 (Xg.reads_own (E := ((62 : Nat))) (sz := ((3 : Nat))) (n := H.length) (c := xx1.snd.snd) (a := xx1.snd.fst) (vs := (recs hdK H))) (by kernel_rfl)) (Xg.run_loadn_rd (off0 := (offA xx1.snd.fst + w * (3 : Nat))) 3 (w * (3 : Nat)) [iv (↑(H.getD w default).id : Int), Value.slice (H.getD w default).la (H.getD w default).les.length (H.getD w default).lc, Value.slice (H.getD w default).ba (H.getD w default).Z.length (H.getD w default).bc] (by kernel_rfl) (by kernel_rfl) (by omega) rfl (Xg.recs_at' (wd := 3) (fun _ => rfl) default w (by omega) (by omega) (by kernel_rfl)) (by kernel_rfl)) ?_
        refine Xg.any_pure ((Value.slice a xs.length c)) 5 (by kernel_rfl) rfl (by kernel_rfl) (by kernel_rfl) (by kernel_rfl) (by kernel_rfl) rfl (fun _ => by kernel_rfl) ?_
        refine Xg.any_pure ((iv (↑i : Int))) 6 (by kernel_rfl) rfl (by kernel_rfl) (by kernel_rfl) (by kernel_rfl) (by kernel_rfl) rfl (fun _ => by kernel_rfl) ?_
        refine Xg.any_reads (.pointer (some (Addr.mk (Xg.blk a) (offA a + i * (6 : Nat)) none))) 7 2 (by kernel_rfl) rfl (by kernel_rfl) (by kernel_rfl) (by kernel_rfl) (by kernel_rfl) rfl rfl (by kernel_rfl) (Xg.rd_now 4 hR (by kernel_rfl)) (Xg.run_ix_rd (elem := 59) (kd := .i64) (e := ((↑i : Int))) 6 i (offA a + i * (6 : Nat)) (by kernel_rfl) (by kernel_rfl) (by kernel_rfl) (by kernel_rfl) rfl (by omega) (by rw [Xg.recs_len (wd := 6) (fun _ => rfl)]; omega) (by omega)) ?_
        refine Xg.any_reads (.agg (List.toArray [iv (xs.getD i default).kd, iv (xs.getD i default).wh, iv (xs.getD i default).sz, iv (xs.getD i default).pk, iv (xs.getD i default).ap, iv (xs.getD i default).bt])) 8 3 (by kernel_rfl) rfl (by kernel_rfl) (by kernel_rfl) (by kernel_rfl) (by kernel_rfl) rfl rfl (by kernel_rfl) (Xg.rd_now 4 hR (by kernel_rfl)) (Xg.run_loadn_rd (off0 := (offA a + i * (6 : Nat))) 6 (i * (6 : Nat)) [iv (xs.getD i default).kd, iv (xs.getD i default).wh, iv (xs.getD i default).sz, iv (xs.getD i default).pk, iv (xs.getD i default).ap, iv (xs.getD i default).bt] (by kernel_rfl) (by kernel_rfl) (by omega) rfl (Xg.recs_at' (wd := 6) (fun _ => rfl) default i (by omega) (by omega) (by kernel_rfl)) (by kernel_rfl)) ?_
        refine Xg.any_pure ((iv (↑q : Int))) 9 (by kernel_rfl) rfl (by kernel_rfl) (by kernel_rfl) (by kernel_rfl) (by kernel_rfl) rfl (fun _ => by kernel_rfl) ?_
        refine Xg.any_each [10, 14] (by kernel_rfl) rfl ⟨?_, ?_, trivial⟩
        refine Xg.comes_act rfl (by kernel_rfl) (by kernel_rfl) (Xg.opx_callE' [2, 0] (fun xx2 => [PoolS xx1.fst (actσ σ w (xs.getD i default) (↑q : Int)), HdS xx2, starL HdS (H.eraseIdx w), recsO (62 : Nat) (3 : Nat) hdK xx1.snd.fst xx1.snd.snd H, A]) (fun _ => by kernel_rfl) (@hac ) (by kernel_rfl) (by kernel_rfl) (by kernel_rfl) fun xx2 xh2 => ?_)
        try dsimp only at xh2
        refine Xg.acts (Xg.owes_skip (by kernel_rfl) (Xg.owes_skip (by kernel_rfl) (Xg.owes_skip (by kernel_rfl) (Xg.owes_skip (by kernel_rfl) Xg.owes_nil)))) ?_
        rotate_left
        refine Xg.comes_act rfl (by kernel_rfl) (by kernel_rfl) (Xg.opx_new 3 [iv 0, Value.slice none (0 : Nat) (0 : Nat), Value.slice none (0 : Nat) (0 : Nat)] (by kernel_rfl) (by kernel_rfl) fun xb1 => ?_)
        refine Xg.acts (Xg.owes_rd 4 (Xg.reads_own (E := ((62 : Nat))) (sz := ((3 : Nat))) (n := H.length) (c := xx1.snd.snd) (a := xx1.snd.fst) (vs := (recs hdK H))) (by kernel_rfl) (Xg.owes_rd 4 (Xg.reads_own (E := ((62 : Nat))) (sz := ((3 : Nat))) (n := H.length) (c := xx1.snd.snd) (a := xx1.snd.fst) (vs := (recs hdK H))) (by kernel_rfl) (Xg.owes_rd 5 hR (by kernel_rfl) (Xg.owes_rd 5 hR (by kernel_rfl) Xg.owes_nil)))) ?_
        rotate_left
        refine Xg.any_pure ((Value.tuple #[Value.agg #[iv (↑xx2.id : Int), Value.slice xx2.la xx2.les.length xx2.lc, Value.slice xx2.ba xx2.Z.length xx2.bc], Value.bool true])) 11 (by kernel_rfl) rfl (by kernel_rfl) (by kernel_rfl) (by kernel_rfl) (by kernel_rfl) rfl (fun _ => by kernel_rfl) ?_
        refine Xg.any_pure ((Value.agg #[iv (↑xx2.id : Int), Value.slice xx2.la xx2.les.length xx2.lc, Value.slice xx2.ba xx2.Z.length xx2.bc])) 12 (by kernel_rfl) rfl (by kernel_rfl) (by kernel_rfl) (by kernel_rfl) (by kernel_rfl) rfl (fun _ => by kernel_rfl) ?_
        refine Xg.any_pure ((Value.bool true)) 13 (by kernel_rfl) rfl (by kernel_rfl) (by kernel_rfl) (by kernel_rfl) (by kernel_rfl) rfl (fun _ => by kernel_rfl) ?_
        refine Xg.any_each [14] (by kernel_rfl) rfl ⟨?_, trivial⟩
        refine Xg.comes_act rfl (by kernel_rfl) (by kernel_rfl) (Xg.opx_new 3 [iv 0, Value.slice none (0 : Nat) (0 : Nat), Value.slice none (0 : Nat) (0 : Nat)] (by kernel_rfl) (by kernel_rfl) fun xb1 => ?_)
        refine Xg.acts (Xg.owes_rd 4 (Xg.reads_own (E := ((62 : Nat))) (sz := ((3 : Nat))) (n := H.length) (c := xx1.snd.snd) (a := xx1.snd.fst) (vs := (recs hdK H))) (by kernel_rfl) (Xg.owes_rd 4 (Xg.reads_own (E := ((62 : Nat))) (sz := ((3 : Nat))) (n := H.length) (c := xx1.snd.snd) (a := xx1.snd.fst) (vs := (recs hdK H))) (by kernel_rfl) (Xg.owes_rd 5 hR (by kernel_rfl) (Xg.owes_rd 5 hR (by kernel_rfl) Xg.owes_nil)))) ?_
        refine Xg.any_each [15] (by kernel_rfl) rfl ⟨?_, trivial⟩
        refine Xg.comes_act rfl (by kernel_rfl) (by kernel_rfl) (Xg.opx_storen 3 (off := 0) 0 [iv (↑xx2.id : Int), Value.slice xx2.la xx2.les.length xx2.lc, Value.slice xx2.ba xx2.Z.length xx2.bc] (by kernel_rfl) rfl (by kernel_rfl) (by kernel_rfl) rfl (by kernel_rfl) (Nat.le_of_ble_eq_true (by kernel_rfl)) ?_)
        refine Xg.acts (Xg.owes_skip (by kernel_rfl) (Xg.owes_skip (by kernel_rfl) (Xg.owes_skip (by kernel_rfl) (Xg.owes_skip (by kernel_rfl) Xg.owes_nil)))) ?_
        refine Xg.any_pure ((Value.bool true)) 16 (by kernel_rfl) rfl (by kernel_rfl) (by kernel_rfl) (by kernel_rfl) (by kernel_rfl) rfl (fun _ => by kernel_rfl) ?_
        refine Xg.any_nil (by kernel_rfl) ?_
        rotate_left
        refine Xg.any_each [10] (by kernel_rfl) rfl ⟨?_, trivial⟩
        refine Xg.comes_act rfl (by kernel_rfl) (by kernel_rfl) (Xg.opx_callE' [3, 1] (fun xx2 => [PoolS xx1.fst (actσ σ w (xs.getD i default) (↑q : Int)), HdS xx2, row xb1 (62 : Nat) [iv 0, Value.slice none (0 : Nat) (0 : Nat), Value.slice none (0 : Nat) (0 : Nat)], starL HdS (H.eraseIdx w), recsO (62 : Nat) (3 : Nat) hdK xx1.snd.fst xx1.snd.snd H, A]) (fun _ => by kernel_rfl) (@hac ) (by kernel_rfl) (by kernel_rfl) (by kernel_rfl) fun xx2 xh2 => ?_)
        try dsimp only at xh2
        refine Xg.acts (Xg.owes_skip (by kernel_rfl) (Xg.owes_skip (by kernel_rfl) (Xg.owes_skip (by kernel_rfl) (Xg.owes_skip (by kernel_rfl) Xg.owes_nil)))) ?_
        refine Xg.any_pure ((Value.tuple #[Value.agg #[iv (↑xx2.id : Int), Value.slice xx2.la xx2.les.length xx2.lc, Value.slice xx2.ba xx2.Z.length xx2.bc], Value.bool true])) 11 (by kernel_rfl) rfl (by kernel_rfl) (by kernel_rfl) (by kernel_rfl) (by kernel_rfl) rfl (fun _ => by kernel_rfl) ?_
        refine Xg.any_pure ((Value.agg #[iv (↑xx2.id : Int), Value.slice xx2.la xx2.les.length xx2.lc, Value.slice xx2.ba xx2.Z.length xx2.bc])) 12 (by kernel_rfl) rfl (by kernel_rfl) (by kernel_rfl) (by kernel_rfl) (by kernel_rfl) rfl (fun _ => by kernel_rfl) ?_
        refine Xg.any_pure ((Value.bool true)) 13 (by kernel_rfl) rfl (by kernel_rfl) (by kernel_rfl) (by kernel_rfl) (by kernel_rfl) rfl (fun _ => by kernel_rfl) ?_
        refine Xg.any_each [15] (by kernel_rfl) rfl ⟨?_, trivial⟩
        refine Xg.comes_act rfl (by kernel_rfl) (by kernel_rfl) (Xg.opx_storen 3 (off := 0) 2 [iv (↑xx2.id : Int), Value.slice xx2.la xx2.les.length xx2.lc, Value.slice xx2.ba xx2.Z.length xx2.bc] (by kernel_rfl) rfl (by kernel_rfl) (by kernel_rfl) rfl (by kernel_rfl) (Nat.le_of_ble_eq_true (by kernel_rfl)) ?_)
        refine Xg.acts (Xg.owes_skip (by kernel_rfl) (Xg.owes_skip (by kernel_rfl) (Xg.owes_skip (by kernel_rfl) (Xg.owes_skip (by kernel_rfl) Xg.owes_nil)))) ?_
        refine Xg.any_pure ((Value.bool true)) 16 (by kernel_rfl) rfl (by kernel_rfl) (by kernel_rfl) (by kernel_rfl) (by kernel_rfl) rfl (fun _ => by kernel_rfl) ?_
        refine Xg.any_nil (by kernel_rfl) ?_)
      · (focus
          refine Xg.at_keep [1, 3, 0, 4, 5, 2] (by kernel_rfl) ?_
          refine Xg.At.same (by kernel_rfl) ?_ (hk (((xx2, xb1)), fun j9 => ([Value.slice a xs.length c, iv quota, iv many, tu, tu, tu, J 6, iv (↑q : Int), iv (↑m : Int), pv xx1.fst 0, Value.slice xx1.snd.fst H.length xx1.snd.snd, Value.bool true, iv (↑i : Int), iv (↑w : Int), pv xb1 0, Value.bool true, J 16, J 17, J 18, J 19, J 20, J 21, J 22, J 23, J 24, tu, tu, tu, tu, tu, tu, iv quota, iv (↑q : Int), iv many, iv (↑(pickN many (6 : Nat)) : Int), iv (↑m : Int), Value.tuple #[pv xx1.fst 0, Value.slice xx1.snd.fst (4 : Nat) xx1.snd.snd, Value.bool true], iv (↑m : Int), iv (↑q : Int), Value.tuple #[pv xx1.fst 0, Value.slice xx1.snd.fst (4 : Nat) xx1.snd.snd, Value.bool true], pv xx1.fst 0, Value.slice xx1.snd.fst (4 : Nat) xx1.snd.snd, Value.bool true, Value.bool true, Value.bool false, iv (↑i : Int), Value.slice a xs.length c, iv (↑xs.length : Int), Value.bool (decide ((↑i : Int) < (↑xs.length : Int))), Value.bool true, iv (↑i : Int), Value.bool true, Value.bool true, J 53, J 54, Value.slice a xs.length c, iv (↑i : Int), Value.pointer (some (Addr.mk (blk a) (offA a + i * (6 : Nat)) none)), Value.pointer (some (Addr.mk (blk a) (offA a + i * (6 : Nat) + (1 : Nat)) none)), iv (xs.getD i default).wh, iv (↑w : Int), Value.tuple #[Value.agg #[iv (↑xx2.id : Int), Value.slice xx2.la xx2.les.length xx2.lc, Value.slice xx2.ba xx2.Z.length xx2.bc], Value.bool true], pv xx1.fst 0, Value.slice xx1.snd.fst H.length xx1.snd.snd, iv (↑w : Int), Value.pointer (some (Addr.mk (blk xx1.snd.fst) (offA xx1.snd.fst + w * (3 : Nat)) none)), Value.agg #[iv (↑(H.getD w default).id : Int), Value.slice (H.getD w default).la (H.getD w default).les.length (H.getD w default).lc, Value.slice (H.getD w default).ba (H.getD w default).Z.length (H.getD w default).bc], Value.slice a xs.length c, iv (↑i : Int), Value.pointer (some (Addr.mk (blk a) (offA a + i * (6 : Nat)) none)), Value.agg #[iv (xs.getD i default).kd, iv (xs.getD i default).wh, iv (xs.getD i default).sz, iv (xs.getD i default).pk, iv (xs.getD i default).ap, iv (xs.getD i default).bt], iv (↑q : Int), Value.tuple #[Value.agg #[iv (↑xx2.id : Int), Value.slice xx2.la xx2.les.length xx2.lc, Value.slice xx2.ba xx2.Z.length xx2.bc], Value.bool true], Value.agg #[iv (↑xx2.id : Int), Value.slice xx2.la xx2.les.length xx2.lc, Value.slice xx2.ba xx2.Z.length xx2.bc], Value.bool true, J 75, J 76, J 77, J 78, J 79, J 80, J 81, J 82, J 83, J 84, J 85, J 86, J 87, J 88, J 89, J 90, J 91, J 92, J 93, J 94, J 95, J 96, J 97, J 98, J 99, J 100, J 101, J 102, J 103, J 104, J 105, J 106, J 107, J 108, J 109, J 110, J 111, J 112, J 113, J 114, J 115, J 116, J 117, J 118, J 119, J 120, J 121, J 122, J 123, J 124, J 125, J 126, J 127, J 128, J 129, J 130, J 131, J 132, J 133, J 134, J 135, J 136, J 137, J 138, J 139, J 140, J 141, J 142, J 143, J 144, J 145, J 146, J 147, J 148, J 149, J 150, J 151, J 152, J 153, J 154, J 155, J 156, J 157, J 158, J 159, J 160, J 161, J 162, J 163, J 164, J 165, J 166, J 167, J 168, J 169, J 170, J 171, J 172, J 173, tu, tu, tu, tu, tu, tu, tu, tu, tu, tu, tu, tu, tu, tu, tu, tu, tu, tu, tu, tu, tu, tu, tu, tu, tu, tu, tu, tu, tu, tu, tu, tu, tu, tu, tu, tu, tu, tu, tu, tu, tu, tu, tu, tu, tu, tu, tu, tu, tu, tu, tu, tu, tu] : List Value).getD j9 undef) ?_))
        · rfl
        · assumption
      · (focus
          refine Xg.at_keep [2, 3, 1, 4, 5, 0] (by kernel_rfl) ?_
          refine Xg.At.same (by kernel_rfl) ?_ (hk (((xx2, xb1)), fun j9 => ([Value.slice a xs.length c, iv quota, iv many, tu, tu, tu, J 6, iv (↑q : Int), iv (↑m : Int), pv xx1.fst 0, Value.slice xx1.snd.fst H.length xx1.snd.snd, Value.bool true, iv (↑i : Int), iv (↑w : Int), pv xb1 0, Value.bool true, J 16, J 17, J 18, J 19, J 20, J 21, J 22, J 23, J 24, tu, tu, tu, tu, tu, tu, iv quota, iv (↑q : Int), iv many, iv (↑(pickN many (6 : Nat)) : Int), iv (↑m : Int), Value.tuple #[pv xx1.fst 0, Value.slice xx1.snd.fst (4 : Nat) xx1.snd.snd, Value.bool true], iv (↑m : Int), iv (↑q : Int), Value.tuple #[pv xx1.fst 0, Value.slice xx1.snd.fst (4 : Nat) xx1.snd.snd, Value.bool true], pv xx1.fst 0, Value.slice xx1.snd.fst (4 : Nat) xx1.snd.snd, Value.bool true, Value.bool true, Value.bool false, iv (↑i : Int), Value.slice a xs.length c, iv (↑xs.length : Int), Value.bool (decide ((↑i : Int) < (↑xs.length : Int))), Value.bool true, iv (↑i : Int), Value.bool true, Value.bool true, J 53, J 54, Value.slice a xs.length c, iv (↑i : Int), Value.pointer (some (Addr.mk (blk a) (offA a + i * (6 : Nat)) none)), Value.pointer (some (Addr.mk (blk a) (offA a + i * (6 : Nat) + (1 : Nat)) none)), iv (xs.getD i default).wh, iv (↑w : Int), Value.tuple #[Value.agg #[iv (↑xx2.id : Int), Value.slice xx2.la xx2.les.length xx2.lc, Value.slice xx2.ba xx2.Z.length xx2.bc], Value.bool true], pv xx1.fst 0, Value.slice xx1.snd.fst H.length xx1.snd.snd, iv (↑w : Int), Value.pointer (some (Addr.mk (blk xx1.snd.fst) (offA xx1.snd.fst + w * (3 : Nat)) none)), Value.agg #[iv (↑(H.getD w default).id : Int), Value.slice (H.getD w default).la (H.getD w default).les.length (H.getD w default).lc, Value.slice (H.getD w default).ba (H.getD w default).Z.length (H.getD w default).bc], Value.slice a xs.length c, iv (↑i : Int), Value.pointer (some (Addr.mk (blk a) (offA a + i * (6 : Nat)) none)), Value.agg #[iv (xs.getD i default).kd, iv (xs.getD i default).wh, iv (xs.getD i default).sz, iv (xs.getD i default).pk, iv (xs.getD i default).ap, iv (xs.getD i default).bt], iv (↑q : Int), Value.tuple #[Value.agg #[iv (↑xx2.id : Int), Value.slice xx2.la xx2.les.length xx2.lc, Value.slice xx2.ba xx2.Z.length xx2.bc], Value.bool true], Value.agg #[iv (↑xx2.id : Int), Value.slice xx2.la xx2.les.length xx2.lc, Value.slice xx2.ba xx2.Z.length xx2.bc], Value.bool true, J 75, J 76, J 77, J 78, J 79, J 80, J 81, J 82, J 83, J 84, J 85, J 86, J 87, J 88, J 89, J 90, J 91, J 92, J 93, J 94, J 95, J 96, J 97, J 98, J 99, J 100, J 101, J 102, J 103, J 104, J 105, J 106, J 107, J 108, J 109, J 110, J 111, J 112, J 113, J 114, J 115, J 116, J 117, J 118, J 119, J 120, J 121, J 122, J 123, J 124, J 125, J 126, J 127, J 128, J 129, J 130, J 131, J 132, J 133, J 134, J 135, J 136, J 137, J 138, J 139, J 140, J 141, J 142, J 143, J 144, J 145, J 146, J 147, J 148, J 149, J 150, J 151, J 152, J 153, J 154, J 155, J 156, J 157, J 158, J 159, J 160, J 161, J 162, J 163, J 164, J 165, J 166, J 167, J 168, J 169, J 170, J 171, J 172, J 173, tu, tu, tu, tu, tu, tu, tu, tu, tu, tu, tu, tu, tu, tu, tu, tu, tu, tu, tu, tu, tu, tu, tu, tu, tu, tu, tu, tu, tu, tu, tu, tu, tu, tu, tu, tu, tu, tu, tu, tu, tu, tu, tu, tu, tu, tu, tu, tu, tu, tu, tu, tu, tu] : List Value).getD j9 undef) ?_))
        · rfl
        · assumption
    rintro ⟨⟨y, yb⟩, J4⟩ hy
    dsimp only at hy
    (focus
      refine Xg.At.same (T' := [Value.slice a xs.length c, iv quota, iv many, tu, tu, tu, J 6, iv (↑q : Int), iv (↑m : Int), pv xx1.fst 0, Value.slice xx1.snd.fst H.length xx1.snd.snd, Value.bool true, iv (↑i : Int), iv (↑w : Int), pv yb 0, Value.bool true, J 16, J 17, J 18, J 19, J 20, J 21, J 22, J 23, J 24, tu, tu, tu, tu, tu, tu, iv quota, iv (↑q : Int), iv many, iv (↑(pickN many (6 : Nat)) : Int), iv (↑m : Int), Value.tuple #[pv xx1.fst 0, Value.slice xx1.snd.fst (4 : Nat) xx1.snd.snd, Value.bool true], iv (↑m : Int), iv (↑q : Int), Value.tuple #[pv xx1.fst 0, Value.slice xx1.snd.fst (4 : Nat) xx1.snd.snd, Value.bool true], pv xx1.fst 0, Value.slice xx1.snd.fst (4 : Nat) xx1.snd.snd, Value.bool true, Value.bool true, Value.bool false, iv (↑i : Int), Value.slice a xs.length c, iv (↑xs.length : Int), Value.bool (decide ((↑i : Int) < (↑xs.length : Int))), Value.bool true, iv (↑i : Int), Value.bool true, Value.bool true, J 53, J 54, Value.slice a xs.length c, iv (↑i : Int), Value.pointer (some (Addr.mk (blk a) (offA a + i * (6 : Nat)) none)), Value.pointer (some (Addr.mk (blk a) (offA a + i * (6 : Nat) + (1 : Nat)) none)), iv (xs.getD i default).wh, iv (↑w : Int), J4 61, J4 62, J4 63, J4 64, J4 65, J4 66, J4 67, J4 68, J4 69, J4 70, J4 71, J4 72, J4 73, J4 74, J 75, J 76, J 77, J 78, J 79, J 80, J 81, J 82, J 83, J 84, J 85, J 86, J 87, J 88, J 89, J 90, J 91, J 92, J 93, J 94, J 95, J 96, J 97, J 98, J 99, J 100, J 101, J 102, J 103, J 104, J 105, J 106, J 107, J 108, J 109, J 110, J 111, J 112, J 113, J 114, J 115, J 116, J 117, J 118, J 119, J 120, J 121, J 122, J 123, J 124, J 125, J 126, J 127, J 128, J 129, J 130, J 131, J 132, J 133, J 134, J 135, J 136, J 137, J 138, J 139, J 140, J 141, J 142, J 143, J 144, J 145, J 146, J 147, J 148, J 149, J 150, J 151, J 152, J 153, J 154, J 155, J 156, J 157, J 158, J 159, J 160, J 161, J 162, J 163, J 164, J 165, J 166, J 167, J 168, J 169, J 170, J 171, J 172, J 173, tu, tu, tu, tu, tu, tu, tu, tu, tu, tu, tu, tu, tu, tu, tu, tu, tu, tu, tu, tu, tu, tu, tu, tu, tu, tu, tu, tu, tu, tu, tu, tu, tu, tu, tu, tu, tu, tu, tu, tu, tu, tu, tu, tu, tu, tu, tu, tu, tu, tu, tu, tu, tu]) (L' := [HdS ((y, yb), J4).fst.fst, starL HdS (H.eraseIdx w), PoolS xx1.fst (actσ σ w (xs.getD i default) (↑q : Int)), recsO (62 : Nat) (3 : Nat) hdK xx1.snd.fst xx1.snd.snd H, A, row ((y, yb), J4).fst.snd (62 : TypeId) (hdK ((y, yb), J4).fst.fst)]) (by kernel_rfl) rfl ?_)
    (focus
      refine Xg.at_seq ?_
      refine Xg.at_seq ?_
      refine Xg.at_region ?_
      refine Xg.ops_op (by kernel_rfl) (Xg.opx_pure ((Value.bool true)) rfl (fun _ => by kernel_rfl) ?_)
      refine Xg.ops_op (by kernel_rfl) (Xg.opx_pure (.bool false) rfl (fun _ => by kernel_rfl) ?_)
      refine Xg.ops_nil ?_
      refine Xg.at_false (t := false) (by kernel_rfl) rfl ?_
      refine Xg.at_skip ?_
      refine Xg.at_seq ?_
      refine Xg.at_region ?_
      refine Xg.ops_op (by kernel_rfl) (Xg.opx_pure ((Value.slice xx1.snd.fst H.length xx1.snd.snd)) rfl (fun _ => by kernel_rfl) ?_)
      refine Xg.ops_op (by kernel_rfl) (Xg.opx_pure ((iv (↑w : Int))) rfl (fun _ => by kernel_rfl) ?_)
      refine Xg.ops_op (by kernel_rfl) (Xg.opx_loadn (off := 0) 3 5 [iv (↑y.id : Int), Value.slice ((y, yb), J4).fst.fst.la y.les.length y.lc, Value.slice ((y, yb), J4).fst.fst.ba y.Z.length y.bc] (by kernel_rfl) rfl (by kernel_rfl) rfl (Xg.cells_at (by kernel_rfl)) (by kernel_rfl) ?_)
      refine Xg.ops_op (by kernel_rfl) (Xg.opx_ix_own (elem := 62) (kd := .i64) (e := ((↑w : Int))) 3 3 w (w * (3 : Nat)) rfl (by kernel_rfl) (by kernel_rfl) (by kernel_rfl) (by kernel_rfl) rfl (by omega) (by omega) ?_)
      refine Xg.ops_op (by kernel_rfl) (Xg.opx_storen_recs (a := xx1.snd.fst) (off := (w * (3 : Nat))) (l := H) 3 3 w y (fun _ => rfl) (by kernel_rfl) rfl (by kernel_rfl) (by kernel_rfl) (by kernel_rfl) (by first | omega | (simp; omega)) (by first | exact .inl (by omega) | exact .inr (by omega)) ?_)
      refine Xg.ops_nil ?_
      refine Xg.at_seq ?_)
    have hH2 := hH.act hw (xs.getD i default) hy
    refine at_pick [0, 1, 2, 3, 4] rfl (at_L_put hwl ?_)
    obtain ⟨σ', hσ'⟩ : ∃ s, actσ σ w (xs.getD i default) (q : Nat) = s := ⟨_, rfl⟩
    obtain ⟨H', hH'⟩ : ∃ s, H.set w y = s := ⟨_, rfl⟩
    rw [hσ', hH'] at hH2
    rw [hσ', hH']
    clear hac hH
    have hl4' := hH2.len
    have hP := hH2.p2
    have hf0 := free_p hP.pi xx1.1 0 (by rw [hP.nc]; decide) (by rw [hP.na]; decide)
    have hf1 := free_p hP.pi xx1.1 1 (by rw [hP.nc]; decide) (by rw [hP.na]; decide)
    have hfl0 := hP.pi.fr_len 0 (by rw [hP.na]; decide)
    have hfl1 := hP.pi.fr_len 1 (by rw [hP.na]; decide)
    have hnb := hP.pi.nb
    refine Xg.at_nil_ints 3 .i64 ?_
    (focus
      refine Xg.at_region ?_
      refine Xg.ops_op (by kernel_rfl) (Xg.opx_pure ((Value.slice none (0 : Nat) (0 : Nat))) rfl (fun _ => by kernel_rfl) ?_)
      refine Xg.ops_nil ?_
      refine Xg.at_seq ?_
      refine Xg.at_region ?_
      refine Xg.ops_op (by kernel_rfl) (Xg.opx_pure ((Value.slice none (0 : Nat) (0 : Nat))) rfl (fun _ => by kernel_rfl) ?_)
      refine Xg.ops_op (by kernel_rfl) (Xg.opx_pure ((pv xx1.fst 0)) rfl (fun _ => by kernel_rfl) ?_)
      refine Xg.ops_op (by kernel_rfl) (Xg.opx_callE' [2] (fun xx2 => [PoolS xx1.fst σ', I2 xx2.fst xx2.snd (σ'.fr (0 : Nat)), ints (3 : TypeId) IntKind.i64 none (0 : Nat) [], starL HdS H', recsO (62 : Nat) (3 : Nat) hdK xx1.snd.fst xx1.snd.snd H', A]) (fun _ => by kernel_rfl) (@hf0 ) (by kernel_rfl) (by kernel_rfl) (by kernel_rfl) fun xx2 xh2 => ?_)
      try dsimp only at xh2
      refine Xg.ops_op (by kernel_rfl) (Xg.opx_append_ints (kd := .i64) (yv := (Value.slice xx2.fst (σ'.fr (0 : Nat)).length xx2.snd)) (m := ((σ'.fr (0 : Nat)).length)) (xs := []) (elem := 3) 2 8 (σ'.fr (0 : Nat)) rfl (by kernel_rfl) (by kernel_rfl) (by kernel_rfl) (by kernel_rfl) (by first | rfl | assumption | omega | (simp; done) | (simp; omega)) (fun _ hS => Xg.own_rd hS 1 rfl) (by first | omega | (simp only [List.length_nil, List.length_cons]; omega) | (simp; omega)) (by first | omega | (simp only [List.length_nil, List.length_cons]; omega) | (simp; omega)) fun xa1 xc1 => ?_)
      have xl1 : ([] ++ (σ'.fr (0 : Nat)) : List Int).length = ([] : List Int).length + ((σ'.fr (0 : Nat)).length) := by first | (simp; done) | (simp; omega)
      refine Xg.ops_op (by kernel_rfl) (Xg.opx_pure ((Value.slice xa1 ([] ++ σ'.fr (0 : Nat)).length xc1)) rfl (fun _ => by kernel_rfl) ?_)
      refine Xg.ops_nil ?_
      refine Xg.at_seq ?_
      refine Xg.at_region ?_
      refine Xg.ops_op (by kernel_rfl) (Xg.opx_pure ((Value.slice xa1 ([] ++ σ'.fr (0 : Nat)).length xc1)) rfl (fun _ => by kernel_rfl) ?_)
      refine Xg.ops_op (by kernel_rfl) (Xg.opx_pure ((pv xx1.fst 0)) rfl (fun _ => by kernel_rfl) ?_)
      refine Xg.ops_op (by kernel_rfl) (Xg.opx_callE' [0] (fun xx3 => [PoolS xx1.fst σ', I2 xx3.fst xx3.snd (σ'.fr (1 : Nat)), I2 xx2.fst xx2.snd (σ'.fr (0 : Nat)), ints (3 : TypeId) IntKind.i64 xa1 xc1 ([] ++ σ'.fr (0 : Nat)), starL HdS H', recsO (62 : Nat) (3 : Nat) hdK xx1.snd.fst xx1.snd.snd H', A]) (fun _ => by kernel_rfl) (@hf1 ) (by kernel_rfl) (by kernel_rfl) (by kernel_rfl) fun xx3 xh3 => ?_)
      try dsimp only at xh3
      refine Xg.ops_op (by kernel_rfl) (Xg.opx_append_ints (kd := .i64) (yv := (Value.slice xx3.fst (σ'.fr (1 : Nat)).length xx3.snd)) (m := ((σ'.fr (1 : Nat)).length)) (xs := ([] ++ σ'.fr (0 : Nat))) (elem := 3) 3 8 (σ'.fr (1 : Nat)) rfl (by kernel_rfl) (by kernel_rfl) (by kernel_rfl) (by kernel_rfl) (by first | rfl | assumption | omega | (simp; done) | (simp; omega)) (fun _ hS => Xg.own_rd hS 1 rfl) (by first | omega | (simp only [List.length_nil, List.length_cons]; omega) | (simp; omega)) (by first | omega | (simp only [List.length_nil, List.length_cons]; omega) | (simp; omega)) fun xa2 xc2 => ?_)
      have xl2 : (([] ++ σ'.fr (0 : Nat)) ++ (σ'.fr (1 : Nat)) : List Int).length = (([] ++ σ'.fr (0 : Nat)) : List Int).length + ((σ'.fr (1 : Nat)).length) := by first | (simp; done) | (simp; omega)
      refine Xg.ops_op (by kernel_rfl) (Xg.opx_pure ((Value.slice xa2 ([] ++ σ'.fr (0 : Nat) ++ σ'.fr (1 : Nat)).length xc2)) rfl (fun _ => by kernel_rfl) ?_)
      refine Xg.ops_nil ?_
      refine Xg.at_seq ?_
      refine Xg.at_seq ?_
      refine Xg.at_region ?_
      refine Xg.ops_op (by kernel_rfl) (Xg.opx_pure ((iv 0)) rfl (fun _ => by kernel_rfl) ?_)
      refine Xg.ops_nil ?_
      refine Xg.at_block ?_)
    clear hf0 hf1
    refine at_reslot 10 (.slice xx1.2.1 H'.length xx1.2.2) (.slice xx1.2.1 H.length xx1.2.2) (by kernel_rfl) (by rw [hl4, hl4']) ?_
    (focus
      refine Xg.at_keep [3, 0, 5, 4, 6] (by kernel_rfl) ?_
      refine Xg.at_rounds_inv (α := (Nat × Option Addr × Nat × List Int) × (Nat → Value)) (fun x => ((fun x => x.1 ≤ 4 ∧ x.2.2.2 = allK σ' x.1) : (Nat × Option Addr × Nat × List Int) → Prop) x.1) (fun x => ((fun x => 4 - x.1) : (Nat × Option Addr × Nat × List Int) → Nat) x.1) (fun x => Xg.headT [Value.slice a xs.length c, iv quota, iv many, tu, tu, tu, J 6, iv (↑q : Int), iv (↑m : Int), pv xx1.fst 0, Value.slice xx1.snd.fst H'.length xx1.snd.snd, Value.bool true, iv (↑i : Int), iv (↑w : Int), pv yb 0, Value.bool true, Value.slice xa2 ([] ++ σ'.fr (0 : Nat) ++ σ'.fr (1 : Nat)).length xc2, iv 0, J 18, J 19, J 20, J 21, J 22, J 23, J 24, tu, tu, tu, tu, tu, tu, iv quota, iv (↑q : Int), iv many, iv (↑(pickN many (6 : Nat)) : Int), iv (↑m : Int), Value.tuple #[pv xx1.fst 0, Value.slice xx1.snd.fst (4 : Nat) xx1.snd.snd, Value.bool true], iv (↑m : Int), iv (↑q : Int), Value.tuple #[pv xx1.fst 0, Value.slice xx1.snd.fst (4 : Nat) xx1.snd.snd, Value.bool true], pv xx1.fst 0, Value.slice xx1.snd.fst (4 : Nat) xx1.snd.snd, Value.bool true, Value.bool true, Value.bool false, iv (↑i : Int), Value.slice a xs.length c, iv (↑xs.length : Int), Value.bool (decide ((↑i : Int) < (↑xs.length : Int))), Value.bool true, iv (↑i : Int), Value.bool true, Value.bool true, J 53, J 54, Value.slice a xs.length c, iv (↑i : Int), Value.pointer (some (Addr.mk (blk a) (offA a + i * (6 : Nat)) none)), Value.pointer (some (Addr.mk (blk a) (offA a + i * (6 : Nat) + (1 : Nat)) none)), iv (xs.getD i default).wh, iv (↑w : Int), J4 61, J4 62, J4 63, J4 64, J4 65, J4 66, J4 67, J4 68, J4 69, J4 70, J4 71, J4 72, J4 73, J4 74, Value.bool true, Value.bool false, Value.slice xx1.snd.fst H.length xx1.snd.snd, iv (↑w : Int), Value.agg #[iv (↑y.id : Int), Value.slice ((y, yb), J4).fst.fst.la y.les.length y.lc, Value.slice ((y, yb), J4).fst.fst.ba y.Z.length y.bc], Value.pointer (some (Addr.mk (blk xx1.snd.fst) (w * (3 : Nat)) none)), Value.slice none (0 : Nat) (0 : Nat), pv xx1.fst 0, Value.slice xx2.fst (σ'.fr (0 : Nat)).length xx2.snd, Value.slice xa1 ([] ++ σ'.fr (0 : Nat)).length xc1, Value.slice xa1 ([] ++ σ'.fr (0 : Nat)).length xc1, pv xx1.fst 0, Value.slice xx3.fst (σ'.fr (1 : Nat)).length xx3.snd, Value.slice xa2 ([] ++ σ'.fr (0 : Nat) ++ σ'.fr (1 : Nat)).length xc2, J 89, J 90, J 91, J 92, J 93, J 94, J 95, J 96, J 97, J 98, J 99, J 100, J 101, J 102, J 103, J 104, J 105, J 106, J 107, J 108, J 109, J 110, J 111, J 112, J 113, J 114, J 115, J 116, J 117, J 118, J 119, J 120, J 121, J 122, J 123, J 124, J 125, J 126, J 127, J 128, J 129, J 130, J 131, J 132, J 133, J 134, J 135, J 136, J 137, J 138, J 139, J 140, J 141, J 142, J 143, J 144, J 145, J 146, J 147, J 148, J 149, J 150, J 151, J 152, J 153, J 154, J 155, J 156, J 157, J 158, J 159, J 160, J 161, J 162, J 163, J 164, J 165, J 166, J 167, J 168, J 169, J 170, J 171, J 172, J 173, tu, tu, tu, tu, tu, tu, tu, tu, tu, tu, tu, tu, tu, tu, tu, tu, tu, tu, tu, tu, tu, tu, tu, tu, tu, tu, tu, tu, tu, tu, tu, tu, tu, tu, tu, tu, tu, tu, tu, tu, tu, tu, tu, tu, tu, tu, tu, tu, tu, tu, tu, tu, tu] [6, 18, 19, 20, 21, 89, 90, 91, 92, 93, 94, 95, 96, 97, 98, 99, 100, 101, 102, 103, 104, 105, 106, 107, 108, 109, 110, 111, 112, 113, 114, 115, 116, 117, 118, 119, 120, 121, 122, 123, 124, 125, 126, 127, 128, 129, 130] (((fun x => [(16, .slice x.2.1 x.2.2.2.length x.2.2.1), (17, .int .i64 (x.1 : Nat))]) : (Nat × Option Addr × Nat × List Int) → List (Nat × Go.Value)) x.1) x.2) (fun x => ((fun x => [I2 x.2.1 x.2.2.1 x.2.2.2, PoolS xx1.1 σ', recsO 62 3 hdK xx1.2.1 xx1.2.2 H', starL HdS H', A]) : (Nat × Option Addr × Nat × List Int) → List Go.Sl.HP) x.1) (((0, xa2, xc2, [] ++ σ'.fr 0 ++ σ'.fr 1)), fun j9 => ([Value.slice a xs.length c, iv quota, iv many, tu, tu, tu, J 6, iv (↑q : Int), iv (↑m : Int), pv xx1.fst 0, Value.slice xx1.snd.fst H'.length xx1.snd.snd, Value.bool true, iv (↑i : Int), iv (↑w : Int), pv yb 0, Value.bool true, Value.slice xa2 ([] ++ σ'.fr (0 : Nat) ++ σ'.fr (1 : Nat)).length xc2, iv 0, J 18, J 19, J 20, J 21, J 22, J 23, J 24, tu, tu, tu, tu, tu, tu, iv quota, iv (↑q : Int), iv many, iv (↑(pickN many (6 : Nat)) : Int), iv (↑m : Int), Value.tuple #[pv xx1.fst 0, Value.slice xx1.snd.fst (4 : Nat) xx1.snd.snd, Value.bool true], iv (↑m : Int), iv (↑q : Int), Value.tuple #[pv xx1.fst 0, Value.slice xx1.snd.fst (4 : Nat) xx1.snd.snd, Value.bool true], pv xx1.fst 0, Value.slice xx1.snd.fst (4 : Nat) xx1.snd.snd, Value.bool true, Value.bool true, Value.bool false, iv (↑i : Int), Value.slice a xs.length c, iv (↑xs.length : Int), Value.bool (decide ((↑i : Int) < (↑xs.length : Int))), Value.bool true, iv (↑i : Int), Value.bool true, Value.bool true, J 53, J 54, Value.slice a xs.length c, iv (↑i : Int), Value.pointer (some (Addr.mk (blk a) (offA a + i * (6 : Nat)) none)), Value.pointer (some (Addr.mk (blk a) (offA a + i * (6 : Nat) + (1 : Nat)) none)), iv (xs.getD i default).wh, iv (↑w : Int), J4 61, J4 62, J4 63, J4 64, J4 65, J4 66, J4 67, J4 68, J4 69, J4 70, J4 71, J4 72, J4 73, J4 74, Value.bool true, Value.bool false, Value.slice xx1.snd.fst H.length xx1.snd.snd, iv (↑w : Int), Value.agg #[iv (↑y.id : Int), Value.slice ((y, yb), J4).fst.fst.la y.les.length y.lc, Value.slice ((y, yb), J4).fst.fst.ba y.Z.length y.bc], Value.pointer (some (Addr.mk (blk xx1.snd.fst) (w * (3 : Nat)) none)), Value.slice none (0 : Nat) (0 : Nat), pv xx1.fst 0, Value.slice xx2.fst (σ'.fr (0 : Nat)).length xx2.snd, Value.slice xa1 ([] ++ σ'.fr (0 : Nat)).length xc1, Value.slice xa1 ([] ++ σ'.fr (0 : Nat)).length xc1, pv xx1.fst 0, Value.slice xx3.fst (σ'.fr (1 : Nat)).length xx3.snd, Value.slice xa2 ([] ++ σ'.fr (0 : Nat) ++ σ'.fr (1 : Nat)).length xc2, J 89, J 90, J 91, J 92, J 93, J 94, J 95, J 96, J 97, J 98, J 99, J 100, J 101, J 102, J 103, J 104, J 105, J 106, J 107, J 108, J 109, J 110, J 111, J 112, J 113, J 114, J 115, J 116, J 117, J 118, J 119, J 120, J 121, J 122, J 123, J 124, J 125, J 126, J 127, J 128, J 129, J 130, J 131, J 132, J 133, J 134, J 135, J 136, J 137, J 138, J 139, J 140, J 141, J 142, J 143, J 144, J 145, J 146, J 147, J 148, J 149, J 150, J 151, J 152, J 153, J 154, J 155, J 156, J 157, J 158, J 159, J 160, J 161, J 162, J 163, J 164, J 165, J 166, J 167, J 168, J 169, J 170, J 171, J 172, J 173, tu, tu, tu, tu, tu, tu, tu, tu, tu, tu, tu, tu, tu, tu, tu, tu, tu, tu, tu, tu, tu, tu, tu, tu, tu, tu, tu, tu, tu, tu, tu, tu, tu, tu, tu, tu, tu, tu, tu, tu, tu, tu, tu, tu, tu, tu, tu, tu, tu, tu, tu, tu, tu] : List Value).getD j9 undef) (by kernel_rfl) (by kernel_rfl) ?_ ?_)
    · refine ⟨Nat.zero_le _, ?_⟩
      show _ = σ'.fr 0 ++ σ'.fr 1 ++ []
      rw [List.append_nil, List.nil_append]
    rintro ⟨⟨k, aa, ac, AL⟩, J3⟩ hk ih3
    obtain ⟨hk, hAL⟩ := hk
    dsimp only at hk hAL
    (focus
      refine Xg.At.same (T' := [Value.slice a xs.length c, iv quota, iv many, tu, tu, tu, J3 6, iv (↑q : Int), iv (↑m : Int), pv xx1.fst 0, Value.slice xx1.snd.fst H'.length xx1.snd.snd, Value.bool true, iv (↑i : Int), iv (↑w : Int), pv yb 0, Value.bool true, Value.slice aa AL.length ac, iv (↑k : Int), J3 18, J3 19, J3 20, J3 21, J 22, J 23, J 24, tu, tu, tu, tu, tu, tu, iv quota, iv (↑q : Int), iv many, iv (↑(pickN many (6 : Nat)) : Int), iv (↑m : Int), Value.tuple #[pv xx1.fst 0, Value.slice xx1.snd.fst (4 : Nat) xx1.snd.snd, Value.bool true], iv (↑m : Int), iv (↑q : Int), Value.tuple #[pv xx1.fst 0, Value.slice xx1.snd.fst (4 : Nat) xx1.snd.snd, Value.bool true], pv xx1.fst 0, Value.slice xx1.snd.fst (4 : Nat) xx1.snd.snd, Value.bool true, Value.bool true, Value.bool false, iv (↑i : Int), Value.slice a xs.length c, iv (↑xs.length : Int), Value.bool (decide ((↑i : Int) < (↑xs.length : Int))), Value.bool true, iv (↑i : Int), Value.bool true, Value.bool true, J 53, J 54, Value.slice a xs.length c, iv (↑i : Int), Value.pointer (some (Addr.mk (blk a) (offA a + i * (6 : Nat)) none)), Value.pointer (some (Addr.mk (blk a) (offA a + i * (6 : Nat) + (1 : Nat)) none)), iv (xs.getD i default).wh, iv (↑w : Int), J4 61, J4 62, J4 63, J4 64, J4 65, J4 66, J4 67, J4 68, J4 69, J4 70, J4 71, J4 72, J4 73, J4 74, Value.bool true, Value.bool false, Value.slice xx1.snd.fst H.length xx1.snd.snd, iv (↑w : Int), Value.agg #[iv (↑y.id : Int), Value.slice ((y, yb), J4).fst.fst.la y.les.length y.lc, Value.slice ((y, yb), J4).fst.fst.ba y.Z.length y.bc], Value.pointer (some (Addr.mk (blk xx1.snd.fst) (w * (3 : Nat)) none)), Value.slice none (0 : Nat) (0 : Nat), pv xx1.fst 0, Value.slice xx2.fst (σ'.fr (0 : Nat)).length xx2.snd, Value.slice xa1 ([] ++ σ'.fr (0 : Nat)).length xc1, Value.slice xa1 ([] ++ σ'.fr (0 : Nat)).length xc1, pv xx1.fst 0, Value.slice xx3.fst (σ'.fr (1 : Nat)).length xx3.snd, Value.slice xa2 ([] ++ σ'.fr (0 : Nat) ++ σ'.fr (1 : Nat)).length xc2, J3 89, J3 90, J3 91, J3 92, J3 93, J3 94, J3 95, J3 96, J3 97, J3 98, J3 99, J3 100, J3 101, J3 102, J3 103, J3 104, J3 105, J3 106, J3 107, J3 108, J3 109, J3 110, J3 111, J3 112, J3 113, J3 114, J3 115, J3 116, J3 117, J3 118, J3 119, J3 120, J3 121, J3 122, J3 123, J3 124, J3 125, J3 126, J3 127, J3 128, J3 129, J3 130, J 131, J 132, J 133, J 134, J 135, J 136, J 137, J 138, J 139, J 140, J 141, J 142, J 143, J 144, J 145, J 146, J 147, J 148, J 149, J 150, J 151, J 152, J 153, J 154, J 155, J 156, J 157, J 158, J 159, J 160, J 161, J 162, J 163, J 164, J 165, J 166, J 167, J 168, J 169, J 170, J 171, J 172, J 173, tu, tu, tu, tu, tu, tu, tu, tu, tu, tu, tu, tu, tu, tu, tu, tu, tu, tu, tu, tu, tu, tu, tu, tu, tu, tu, tu, tu, tu, tu, tu, tu, tu, tu, tu, tu, tu, tu, tu, tu, tu, tu, tu, tu, tu, tu, tu, tu, tu, tu, tu, tu, tu]) (L' := [I2 ((k, aa, ac, AL), J3).fst.snd.fst ((k, aa, ac, AL), J3).fst.snd.snd.fst ((k, aa, ac, AL), J3).fst.snd.snd.snd, PoolS xx1.fst σ', recsO (62 : Nat) (3 : Nat) hdK xx1.snd.fst xx1.snd.snd H', starL HdS H', A]) (by kernel_rfl) rfl ?_)
    by_cases hk4 : k < 4
    · have hkl : k < H'.length := by omega
      have hr := hP.ar_ok hk4
      have hid := (hH2.all k hk4).id
      have hle := leases_p hP.pi hr xx1.1 (by rw [hP.nc]; decide)
      have hus := used_p hP.pi hr xx1.1
      have hub := hP.us_ok hk4
      have htl := hP.len hk4
      rw [← hid] at hle hus
      have hlen : (lesOf σ' (arD σ' (H'.getD k default).id).tk).length = (arD σ' k).tk.length := by rw [hid]; unfold lesOf; rw [List.length_map]
      have hlat : ∀ j, j < (arD σ' k).tk.length → ((lesOf σ' (arD σ' (H'.getD k default).id).tk).getD j default).1 = (arD σ' k).tk.getD j 0 := fun j hj => by rw [hid, les_at σ' _ j hj]; rfl
      have hus2 : (arD σ' (H'.getD k default).id).us = (arD σ' k).us := by rw [hid]
      rw [hus2] at hus
      obtain ⟨les, hlesd⟩ : ∃ l, lesOf σ' (arD σ' (H'.getD k default).id).tk = l := ⟨_, rfl⟩
      rw [hlesd] at hle hlen hlat
      have hALl : AL.length ≤ 30000 := by
        rw [hAL]
        unfold allK
        rw [List.length_append, List.length_append]
        have : ∀ k, k ≤ 4 → (catN k fun i => (arD σ' i).tk).length ≤ 5000 * k := fun k => by
          induction k with
          | zero => intro _; exact Nat.zero_le _
          | succ k ih =>
            intro h5
            rw [catN_one, List.length_append]
            have := ih (by omega)
            have := hP.len (w := k) (by omega)
            omega
        have := this k hk
        omega
      (focus
        refine Xg.at_seq ?_
        refine Xg.at_seq ?_
        refine Xg.at_region ?_
        refine Xg.ops_op (by kernel_rfl) (Xg.opx_pure ((iv (↑k : Int))) rfl (fun _ => by kernel_rfl) ?_)
        refine Xg.ops_op (by kernel_rfl) (Xg.opx_pure (.bool (decide ((((↑k : Int)) : Int) < ((4 : Int))))) rfl (fun _ => by kernel_rfl) ?_)
        refine Xg.ops_nil ?_
        refine Xg.at_true (t := decide (((↑k : Int) < (4 : Int)))) (by kernel_rfl) (decide_eq_true (by omega)) ?_
        refine Xg.at_skip ?_
        refine Xg.at_seq ?_
        refine Xg.at_block ?_
        refine Xg.at_seq ?_
        refine Xg.at_region ?_
        refine Xg.ops_op (by kernel_rfl) (Xg.opx_pure ((pv xx1.fst 0)) rfl (fun _ => by kernel_rfl) ?_)
        refine Xg.ops_op (by kernel_rfl) (Xg.opx_pure ((Value.slice xx1.snd.fst H'.length xx1.snd.snd)) rfl (fun _ => by kernel_rfl) ?_)
        refine Xg.ops_op (by kernel_rfl) (Xg.opx_pure ((iv (↑k : Int))) rfl (fun _ => by kernel_rfl) ?_)
        refine Xg.ops_op (by kernel_rfl) (Xg.opx_ix_own (elem := 62) (kd := .i64) (e := ((↑k : Int))) 2 3 k (k * (3 : Nat)) rfl (by kernel_rfl) (by kernel_rfl) (by kernel_rfl) (by kernel_rfl) rfl (by omega) (by omega) ?_)
        refine Xg.ops_op (by kernel_rfl) (Xg.opx_pure ((Value.pointer (some (Addr.mk (blk xx1.snd.fst) (k * (3 : Nat)) none)))) rfl (fun _ => by kernel_rfl) ?_)
        refine Xg.ops_op (by kernel_rfl) (Xg.opx_load_own (a := xx1.snd.fst) (off := (k * (3 : Nat))) 2 (iv (↑(H'.getD k default).id : Int)) rfl (by kernel_rfl) (Xg.get_recs' (wd := 3) (fun _ => rfl) default k 0 (by omega) (by decide) (by omega) (by kernel_rfl)) (by kernel_rfl) ?_)
        refine Xg.ops_op (by kernel_rfl) (Xg.opx_callE' [1] (fun xx4 => [PoolS xx1.fst σ', recsO (42 : Nat) (3 : Nat) leK xx4.fst xx4.snd les, I2 aa ac AL, recsO (62 : Nat) (3 : Nat) hdK xx1.snd.fst xx1.snd.snd H', starL HdS H', A]) (fun _ => by kernel_rfl) (@hle ) (by kernel_rfl) (by kernel_rfl) (by kernel_rfl) fun xx4 xh4 => ?_)
        try dsimp only at xh4
        refine Xg.ops_op (by kernel_rfl) (Xg.opx_pure ((Value.slice xx4.fst les.length xx4.snd)) rfl (fun _ => by kernel_rfl) ?_)
        refine Xg.ops_nil ?_
        refine Xg.at_seq ?_
        refine Xg.at_seq ?_
        refine Xg.at_region ?_
        refine Xg.ops_op (by kernel_rfl) (Xg.opx_pure ((iv 0)) rfl (fun _ => by kernel_rfl) ?_)
        refine Xg.ops_nil ?_
        refine Xg.at_block ?_)
      (focus
        refine Xg.at_keep [2, 1, 0, 3, 4, 5] (by kernel_rfl) ?_
        refine Xg.at_rounds_inv (α := (Nat × Option Addr × Nat × List Int) × (Nat → Value)) (fun x => ((fun x => x.1 ≤ les.length ∧ x.2.2.2 = AL ++ (arD σ' k).tk.take x.1) : (Nat × Option Addr × Nat × List Int) → Prop) x.1) (fun x => ((fun x => les.length - x.1) : (Nat × Option Addr × Nat × List Int) → Nat) x.1) (fun x => Xg.headT [Value.slice a xs.length c, iv quota, iv many, tu, tu, tu, J3 6, iv (↑q : Int), iv (↑m : Int), pv xx1.fst 0, Value.slice xx1.snd.fst H'.length xx1.snd.snd, Value.bool true, iv (↑i : Int), iv (↑w : Int), pv yb 0, Value.bool true, Value.slice aa AL.length ac, iv (↑k : Int), Value.slice xx4.fst les.length xx4.snd, iv 0, J3 20, J3 21, J 22, J 23, J 24, tu, tu, tu, tu, tu, tu, iv quota, iv (↑q : Int), iv many, iv (↑(pickN many (6 : Nat)) : Int), iv (↑m : Int), Value.tuple #[pv xx1.fst 0, Value.slice xx1.snd.fst (4 : Nat) xx1.snd.snd, Value.bool true], iv (↑m : Int), iv (↑q : Int), Value.tuple #[pv xx1.fst 0, Value.slice xx1.snd.fst (4 : Nat) xx1.snd.snd, Value.bool true], pv xx1.fst 0, Value.slice xx1.snd.fst (4 : Nat) xx1.snd.snd, Value.bool true, Value.bool true, Value.bool false, iv (↑i : Int), Value.slice a xs.length c, iv (↑xs.length : Int), Value.bool (decide ((↑i : Int) < (↑xs.length : Int))), Value.bool true, iv (↑i : Int), Value.bool true, Value.bool true, J 53, J 54, Value.slice a xs.length c, iv (↑i : Int), Value.pointer (some (Addr.mk (blk a) (offA a + i * (6 : Nat)) none)), Value.pointer (some (Addr.mk (blk a) (offA a + i * (6 : Nat) + (1 : Nat)) none)), iv (xs.getD i default).wh, iv (↑w : Int), J4 61, J4 62, J4 63, J4 64, J4 65, J4 66, J4 67, J4 68, J4 69, J4 70, J4 71, J4 72, J4 73, J4 74, Value.bool true, Value.bool false, Value.slice xx1.snd.fst H.length xx1.snd.snd, iv (↑w : Int), Value.agg #[iv (↑y.id : Int), Value.slice ((y, yb), J4).fst.fst.la y.les.length y.lc, Value.slice ((y, yb), J4).fst.fst.ba y.Z.length y.bc], Value.pointer (some (Addr.mk (blk xx1.snd.fst) (w * (3 : Nat)) none)), Value.slice none (0 : Nat) (0 : Nat), pv xx1.fst 0, Value.slice xx2.fst (σ'.fr (0 : Nat)).length xx2.snd, Value.slice xa1 ([] ++ σ'.fr (0 : Nat)).length xc1, Value.slice xa1 ([] ++ σ'.fr (0 : Nat)).length xc1, pv xx1.fst 0, Value.slice xx3.fst (σ'.fr (1 : Nat)).length xx3.snd, Value.slice xa2 ([] ++ σ'.fr (0 : Nat) ++ σ'.fr (1 : Nat)).length xc2, iv (↑k : Int), Value.bool (decide ((↑k : Int) < (4 : Int))), J3 91, J3 92, pv xx1.fst 0, Value.slice xx1.snd.fst H'.length xx1.snd.snd, iv (↑k : Int), Value.pointer (some (Addr.mk (blk xx1.snd.fst) (k * (3 : Nat)) none)), Value.pointer (some (Addr.mk (blk xx1.snd.fst) (k * (3 : Nat)) none)), iv (↑(H'.getD k default).id : Int), Value.slice xx4.fst les.length xx4.snd, J3 100, J3 101, J3 102, J3 103, J3 104, J3 105, J3 106, J3 107, J3 108, J3 109, J3 110, J3 111, J3 112, J3 113, J3 114, J3 115, J3 116, J3 117, J3 118, J3 119, J3 120, J3 121, J3 122, J3 123, J3 124, J3 125, J3 126, J3 127, J3 128, J3 129, J3 130, J 131, J 132, J 133, J 134, J 135, J 136, J 137, J 138, J 139, J 140, J 141, J 142, J 143, J 144, J 145, J 146, J 147, J 148, J 149, J 150, J 151, J 152, J 153, J 154, J 155, J 156, J 157, J 158, J 159, J 160, J 161, J 162, J 163, J 164, J 165, J 166, J 167, J 168, J 169, J 170, J 171, J 172, J 173, tu, tu, tu, tu, tu, tu, tu, tu, tu, tu, tu, tu, tu, tu, tu, tu, tu, tu, tu, tu, tu, tu, tu, tu, tu, tu, tu, tu, tu, tu, tu, tu, tu, tu, tu, tu, tu, tu, tu, tu, tu, tu, tu, tu, tu, tu, tu, tu, tu, tu, tu, tu, tu] [100, 101, 102, 103, 104, 105, 106, 107, 108, 109, 110, 111, 112, 113] (((fun x => [(16, .slice x.2.1 x.2.2.2.length x.2.2.1), (19, .int .i64 (x.1 : Nat))]) : (Nat × Option Addr × Nat × List Int) → List (Nat × Go.Value)) x.1) x.2) (fun x => ((fun x => [I2 x.2.1 x.2.2.1 x.2.2.2, recsO 42 3 leK xx4.1 xx4.2 les, PoolS xx1.1 σ', recsO 62 3 hdK xx1.2.1 xx1.2.2 H', starL HdS H', A]) : (Nat × Option Addr × Nat × List Int) → List Go.Sl.HP) x.1) (((0, aa, ac, AL)), fun j9 => ([Value.slice a xs.length c, iv quota, iv many, tu, tu, tu, J3 6, iv (↑q : Int), iv (↑m : Int), pv xx1.fst 0, Value.slice xx1.snd.fst H'.length xx1.snd.snd, Value.bool true, iv (↑i : Int), iv (↑w : Int), pv yb 0, Value.bool true, Value.slice aa AL.length ac, iv (↑k : Int), Value.slice xx4.fst les.length xx4.snd, iv 0, J3 20, J3 21, J 22, J 23, J 24, tu, tu, tu, tu, tu, tu, iv quota, iv (↑q : Int), iv many, iv (↑(pickN many (6 : Nat)) : Int), iv (↑m : Int), Value.tuple #[pv xx1.fst 0, Value.slice xx1.snd.fst (4 : Nat) xx1.snd.snd, Value.bool true], iv (↑m : Int), iv (↑q : Int), Value.tuple #[pv xx1.fst 0, Value.slice xx1.snd.fst (4 : Nat) xx1.snd.snd, Value.bool true], pv xx1.fst 0, Value.slice xx1.snd.fst (4 : Nat) xx1.snd.snd, Value.bool true, Value.bool true, Value.bool false, iv (↑i : Int), Value.slice a xs.length c, iv (↑xs.length : Int), Value.bool (decide ((↑i : Int) < (↑xs.length : Int))), Value.bool true, iv (↑i : Int), Value.bool true, Value.bool true, J 53, J 54, Value.slice a xs.length c, iv (↑i : Int), Value.pointer (some (Addr.mk (blk a) (offA a + i * (6 : Nat)) none)), Value.pointer (some (Addr.mk (blk a) (offA a + i * (6 : Nat) + (1 : Nat)) none)), iv (xs.getD i default).wh, iv (↑w : Int), J4 61, J4 62, J4 63, J4 64, J4 65, J4 66, J4 67, J4 68, J4 69, J4 70, J4 71, J4 72, J4 73, J4 74, Value.bool true, Value.bool false, Value.slice xx1.snd.fst H.length xx1.snd.snd, iv (↑w : Int), Value.agg #[iv (↑y.id : Int), Value.slice ((y, yb), J4).fst.fst.la y.les.length y.lc, Value.slice ((y, yb), J4).fst.fst.ba y.Z.length y.bc], Value.pointer (some (Addr.mk (blk xx1.snd.fst) (w * (3 : Nat)) none)), Value.slice none (0 : Nat) (0 : Nat), pv xx1.fst 0, Value.slice xx2.fst (σ'.fr (0 : Nat)).length xx2.snd, Value.slice xa1 ([] ++ σ'.fr (0 : Nat)).length xc1, Value.slice xa1 ([] ++ σ'.fr (0 : Nat)).length xc1, pv xx1.fst 0, Value.slice xx3.fst (σ'.fr (1 : Nat)).length xx3.snd, Value.slice xa2 ([] ++ σ'.fr (0 : Nat) ++ σ'.fr (1 : Nat)).length xc2, iv (↑k : Int), Value.bool (decide ((↑k : Int) < (4 : Int))), J3 91, J3 92, pv xx1.fst 0, Value.slice xx1.snd.fst H'.length xx1.snd.snd, iv (↑k : Int), Value.pointer (some (Addr.mk (blk xx1.snd.fst) (k * (3 : Nat)) none)), Value.pointer (some (Addr.mk (blk xx1.snd.fst) (k * (3 : Nat)) none)), iv (↑(H'.getD k default).id : Int), Value.slice xx4.fst les.length xx4.snd, J3 100, J3 101, J3 102, J3 103, J3 104, J3 105, J3 106, J3 107, J3 108, J3 109, J3 110, J3 111, J3 112, J3 113, J3 114, J3 115, J3 116, J3 117, J3 118, J3 119, J3 120, J3 121, J3 122, J3 123, J3 124, J3 125, J3 126, J3 127, J3 128, J3 129, J3 130, J 131, J 132, J 133, J 134, J 135, J 136, J 137, J 138, J 139, J 140, J 141, J 142, J 143, J 144, J 145, J 146, J 147, J 148, J 149, J 150, J 151, J 152, J 153, J 154, J 155, J 156, J 157, J 158, J 159, J 160, J 161, J 162, J 163, J 164, J 165, J 166, J 167, J 168, J 169, J 170, J 171, J 172, J 173, tu, tu, tu, tu, tu, tu, tu, tu, tu, tu, tu, tu, tu, tu, tu, tu, tu, tu, tu, tu, tu, tu, tu, tu, tu, tu, tu, tu, tu, tu, tu, tu, tu, tu, tu, tu, tu, tu, tu, tu, tu, tu, tu, tu, tu, tu, tu, tu, tu, tu, tu, tu, tu] : List Value).getD j9 undef) (by kernel_rfl) (by kernel_rfl) ?_ ?_)
      · refine ⟨Nat.zero_le _, ?_⟩
        show AL = AL ++ []
        rw [List.append_nil]
      rintro ⟨⟨j, ba, bc, BL⟩, J5⟩ hj ih5
      obtain ⟨hj, hBL⟩ := hj
      dsimp only at hj hBL
      (focus
        refine Xg.At.same (T' := [Value.slice a xs.length c, iv quota, iv many, tu, tu, tu, J3 6, iv (↑q : Int), iv (↑m : Int), pv xx1.fst 0, Value.slice xx1.snd.fst H'.length xx1.snd.snd, Value.bool true, iv (↑i : Int), iv (↑w : Int), pv yb 0, Value.bool true, Value.slice ba BL.length bc, iv (↑k : Int), Value.slice xx4.fst les.length xx4.snd, iv (↑j : Int), J3 20, J3 21, J 22, J 23, J 24, tu, tu, tu, tu, tu, tu, iv quota, iv (↑q : Int), iv many, iv (↑(pickN many (6 : Nat)) : Int), iv (↑m : Int), Value.tuple #[pv xx1.fst 0, Value.slice xx1.snd.fst (4 : Nat) xx1.snd.snd, Value.bool true], iv (↑m : Int), iv (↑q : Int), Value.tuple #[pv xx1.fst 0, Value.slice xx1.snd.fst (4 : Nat) xx1.snd.snd, Value.bool true], pv xx1.fst 0, Value.slice xx1.snd.fst (4 : Nat) xx1.snd.snd, Value.bool true, Value.bool true, Value.bool false, iv (↑i : Int), Value.slice a xs.length c, iv (↑xs.length : Int), Value.bool (decide ((↑i : Int) < (↑xs.length : Int))), Value.bool true, iv (↑i : Int), Value.bool true, Value.bool true, J 53, J 54, Value.slice a xs.length c, iv (↑i : Int), Value.pointer (some (Addr.mk (blk a) (offA a + i * (6 : Nat)) none)), Value.pointer (some (Addr.mk (blk a) (offA a + i * (6 : Nat) + (1 : Nat)) none)), iv (xs.getD i default).wh, iv (↑w : Int), J4 61, J4 62, J4 63, J4 64, J4 65, J4 66, J4 67, J4 68, J4 69, J4 70, J4 71, J4 72, J4 73, J4 74, Value.bool true, Value.bool false, Value.slice xx1.snd.fst H.length xx1.snd.snd, iv (↑w : Int), Value.agg #[iv (↑y.id : Int), Value.slice ((y, yb), J4).fst.fst.la y.les.length y.lc, Value.slice ((y, yb), J4).fst.fst.ba y.Z.length y.bc], Value.pointer (some (Addr.mk (blk xx1.snd.fst) (w * (3 : Nat)) none)), Value.slice none (0 : Nat) (0 : Nat), pv xx1.fst 0, Value.slice xx2.fst (σ'.fr (0 : Nat)).length xx2.snd, Value.slice xa1 ([] ++ σ'.fr (0 : Nat)).length xc1, Value.slice xa1 ([] ++ σ'.fr (0 : Nat)).length xc1, pv xx1.fst 0, Value.slice xx3.fst (σ'.fr (1 : Nat)).length xx3.snd, Value.slice xa2 ([] ++ σ'.fr (0 : Nat) ++ σ'.fr (1 : Nat)).length xc2, iv (↑k : Int), Value.bool (decide ((↑k : Int) < (4 : Int))), J3 91, J3 92, pv xx1.fst 0, Value.slice xx1.snd.fst H'.length xx1.snd.snd, iv (↑k : Int), Value.pointer (some (Addr.mk (blk xx1.snd.fst) (k * (3 : Nat)) none)), Value.pointer (some (Addr.mk (blk xx1.snd.fst) (k * (3 : Nat)) none)), iv (↑(H'.getD k default).id : Int), Value.slice xx4.fst les.length xx4.snd, J5 100, J5 101, J5 102, J5 103, J5 104, J5 105, J5 106, J5 107, J5 108, J5 109, J5 110, J5 111, J5 112, J5 113, J3 114, J3 115, J3 116, J3 117, J3 118, J3 119, J3 120, J3 121, J3 122, J3 123, J3 124, J3 125, J3 126, J3 127, J3 128, J3 129, J3 130, J 131, J 132, J 133, J 134, J 135, J 136, J 137, J 138, J 139, J 140, J 141, J 142, J 143, J 144, J 145, J 146, J 147, J 148, J 149, J 150, J 151, J 152, J 153, J 154, J 155, J 156, J 157, J 158, J 159, J 160, J 161, J 162, J 163, J 164, J 165, J 166, J 167, J 168, J 169, J 170, J 171, J 172, J 173, tu, tu, tu, tu, tu, tu, tu, tu, tu, tu, tu, tu, tu, tu, tu, tu, tu, tu, tu, tu, tu, tu, tu, tu, tu, tu, tu, tu, tu, tu, tu, tu, tu, tu, tu, tu, tu, tu, tu, tu, tu, tu, tu, tu, tu, tu, tu, tu, tu, tu, tu, tu, tu]) (L' := [I2 ((j, ba, bc, BL), J5).fst.snd.fst ((j, ba, bc, BL), J5).fst.snd.snd.fst ((j, ba, bc, BL), J5).fst.snd.snd.snd, recsO (42 : Nat) (3 : Nat) leK xx4.fst xx4.snd les, PoolS xx1.fst σ', recsO (62 : Nat) (3 : Nat) hdK xx1.snd.fst xx1.snd.snd H', starL HdS H', A]) (by kernel_rfl) rfl ?_)
      have hBl : BL.length ≤ 40000 := by
        rw [hBL, List.length_append, List.length_take]; omega
      by_cases hjl : j < les.length
      · have hjt : j < (arD σ' k).tk.length := by omega
        (focus
          refine Xg.at_seq ?_
          refine Xg.at_seq ?_
          refine Xg.at_region ?_
          refine Xg.ops_op (by kernel_rfl) (Xg.opx_pure ((iv (↑j : Int))) rfl (fun _ => by kernel_rfl) ?_)
          refine Xg.ops_op (by kernel_rfl) (Xg.opx_pure ((Value.slice xx4.fst les.length xx4.snd)) rfl (fun _ => by kernel_rfl) ?_)
          refine Xg.ops_op (by kernel_rfl) (Xg.opx_pure ((iv (↑les.length : Int))) rfl (fun _ => by kernel_rfl) ?_)
          refine Xg.ops_op (by kernel_rfl) (Xg.opx_pure (.bool (decide ((((↑j : Int)) : Int) < ((↑les.length : Int))))) rfl (fun _ => by kernel_rfl) ?_)
          refine Xg.ops_nil ?_
          refine Xg.at_true (t := decide (((↑j : Int) < (↑les.length : Int)))) (by kernel_rfl) (decide_eq_true (by omega)) ?_
          refine Xg.at_skip ?_
          refine Xg.at_seq ?_
          refine Xg.at_block ?_
          refine Xg.at_region ?_
          refine Xg.ops_op (by kernel_rfl) (Xg.opx_pure ((Value.slice ba BL.length bc)) rfl (fun _ => by kernel_rfl) ?_)
          refine Xg.ops_op (by kernel_rfl) (Xg.opx_pure ((Value.slice xx4.fst les.length xx4.snd)) rfl (fun _ => by kernel_rfl) ?_)
          refine Xg.ops_op (by kernel_rfl) (Xg.opx_pure ((iv (↑j : Int))) rfl (fun _ => by kernel_rfl) ?_)
          refine Xg.ops_op (by kernel_rfl) (Xg.opx_ix_own (elem := 42) (kd := .i64) (e := ((↑j : Int))) 1 3 j (j * (3 : Nat)) rfl (by kernel_rfl) (by kernel_rfl) (by kernel_rfl) (by kernel_rfl) rfl (by omega) (by omega) ?_)
          refine Xg.ops_op (by kernel_rfl) (Xg.opx_pure ((Value.pointer (some (Addr.mk (blk xx4.fst) (j * (3 : Nat)) none)))) rfl (fun _ => by kernel_rfl) ?_)
          refine Xg.ops_op (by kernel_rfl) (Xg.opx_load_own (a := xx4.fst) (off := (j * (3 : Nat))) 1 (iv (les.getD j default).fst) rfl (by kernel_rfl) (Xg.get_recs' (wd := 3) (fun _ => rfl) default j 0 (by omega) (by decide) (by omega) (by kernel_rfl)) (by kernel_rfl) ?_)
          refine Xg.ops_op (by kernel_rfl) (Xg.opx_bs (elem := 3) 1 [iv (les.getD j default).fst] [iv (les.getD j default).fst] (by kernel_rfl) (by kernel_rfl) (by decide) rfl (by kernel_rfl) (by kernel_rfl) (by kernel_rfl) (by kernel_rfl) fun xb1 => ?_)
          refine Xg.ops_op (by kernel_rfl) (Xg.opx_append_ints (kd := .i64) (yv := (Value.slice (some (Addr.mk xb1 (0 : Nat) none)) (1 : Nat) (1 : Nat))) (m := ((1 : Nat))) (xs := (((j, ba, bc, BL), J5).fst.snd.snd.snd)) (elem := 3) 1 8 [(les.getD j default).fst] rfl (by kernel_rfl) (by kernel_rfl) (by kernel_rfl) (by kernel_rfl) (by first | rfl | assumption | omega | (simp; done) | (simp; omega)) (fun _ hS => Xg.row_rd hS 0 rfl (by kernel_rfl)) (by first | omega | (simp only [List.length_nil, List.length_cons]; omega) | (simp; omega)) (by first | omega | (simp only [List.length_nil, List.length_cons]; omega) | (simp; omega)) fun xa3 xc3 => ?_)
          have xl3 : ((((j, ba, bc, BL), J5).fst.snd.snd.snd) ++ [(les.getD j default).fst] : List Int).length = ((((j, ba, bc, BL), J5).fst.snd.snd.snd) : List Int).length + ((1 : Nat)) := by first | (simp; done) | (simp; omega)
          refine Xg.ops_op (by kernel_rfl) (Xg.opx_pure ((Value.slice xa3 (BL ++ [(les.getD j default).fst]).length xc3)) rfl (fun _ => by kernel_rfl) ?_)
          refine Xg.ops_nil ?_
          refine Xg.at_inBlock ?_
          refine Xg.at_region ?_
          refine Xg.ops_op (by kernel_rfl) (Xg.opx_pure ((iv (↑j : Int))) rfl (fun _ => by kernel_rfl) ?_)
          refine Xg.ops_op (by kernel_rfl) (Xg.opx_int .i64 (IntKind.wrap .i64 (((↑j : Int) + (1 : Int)))) rfl (fun _ => by kernel_rfl) (Xg.wrap_i64_in (by omega)) ?_)
          refine Xg.ops_op (by kernel_rfl) (Xg.opx_pure ((iv ((↑j : Int) + (1 : Int)))) rfl (fun _ => by kernel_rfl) ?_)
          refine Xg.ops_nil ?_
          refine Xg.at_inLoop ?_)
        (focus
          refine Xg.at_keep [1, 2, 3, 4, 5, 6] (by kernel_rfl) ?_
          refine Xs.same ?_ (fun J9 => ih5 (((j + 1, xa3, xc3, BL ++ [(les.getD j default).1])), J9) ?_ ?_) (by kernel_rfl))
        · rfl
        · refine ⟨hjl, ?_⟩
          show BL ++ _ = AL ++ (arD σ' k).tk.take (j + 1)
          rw [hBL, hlat j hjt, take_one _ j hjt, List.append_assoc]
        · dsimp only; omega
      · obtain rfl : j = les.length := by omega
        clear ih5
        (focus
          refine Xg.at_seq ?_
          refine Xg.at_seq ?_
          refine Xg.at_region ?_
          refine Xg.ops_op (by kernel_rfl) (Xg.opx_pure ((iv (↑les.length : Int))) rfl (fun _ => by kernel_rfl) ?_)
          refine Xg.ops_op (by kernel_rfl) (Xg.opx_pure ((Value.slice xx4.fst les.length xx4.snd)) rfl (fun _ => by kernel_rfl) ?_)
          refine Xg.ops_op (by kernel_rfl) (Xg.opx_pure ((iv (↑les.length : Int))) rfl (fun _ => by kernel_rfl) ?_)
          refine Xg.ops_op (by kernel_rfl) (Xg.opx_pure (.bool (decide ((((↑les.length : Int)) : Int) < ((↑les.length : Int))))) rfl (fun _ => by kernel_rfl) ?_)
          refine Xg.ops_nil ?_
          refine Xg.at_false (t := decide (((↑les.length : Int) < (↑les.length : Int)))) (by kernel_rfl) (decide_eq_false (by omega)) ?_
          refine Xg.at_exit rfl ?_
          refine Xg.at_seq ?_
          refine Xg.at_region ?_
          refine Xg.ops_op (by kernel_rfl) (Xg.opx_pure ((pv xx1.fst 0)) rfl (fun _ => by kernel_rfl) ?_)
          refine Xg.ops_op (by kernel_rfl) (Xg.opx_pure ((Value.slice xx1.snd.fst H'.length xx1.snd.snd)) rfl (fun _ => by kernel_rfl) ?_)
          refine Xg.ops_op (by kernel_rfl) (Xg.opx_pure ((iv (↑k : Int))) rfl (fun _ => by kernel_rfl) ?_)
          refine Xg.ops_op (by kernel_rfl) (Xg.opx_ix_own (elem := 62) (kd := .i64) (e := ((↑k : Int))) 3 3 k (k * (3 : Nat)) rfl (by kernel_rfl) (by kernel_rfl) (by kernel_rfl) (by kernel_rfl) rfl (by omega) (by omega) ?_)
          refine Xg.ops_op (by kernel_rfl) (Xg.opx_pure ((Value.pointer (some (Addr.mk (blk xx1.snd.fst) (k * (3 : Nat)) none)))) rfl (fun _ => by kernel_rfl) ?_)
          refine Xg.ops_op (by kernel_rfl) (Xg.opx_load_own (a := xx1.snd.fst) (off := (k * (3 : Nat))) 3 (iv (↑(H'.getD k default).id : Int)) rfl (by kernel_rfl) (Xg.get_recs' (wd := 3) (fun _ => rfl) default k 0 (by omega) (by decide) (by omega) (by kernel_rfl)) (by kernel_rfl) ?_)
          refine Xg.ops_op (by kernel_rfl) (Xg.opx_call1' [2] [PoolS xx1.fst σ', I2 ba bc BL, recsO (42 : Nat) (3 : Nat) leK xx4.fst xx4.snd les, recsO (62 : Nat) (3 : Nat) hdK xx1.snd.fst xx1.snd.snd H', starL HdS H', A] (fun _ => by kernel_rfl) (@hus ) (by kernel_rfl) (by kernel_rfl) (by kernel_rfl) ?_)
          refine Xg.ops_op (by kernel_rfl) (Xg.opx_pure ((Value.tuple #[iv (arD σ' k).us, iv 0])) rfl (fun _ => by kernel_rfl) ?_)
          refine Xg.ops_op (by kernel_rfl) (Xg.opx_pure ((iv (arD σ' k).us)) rfl (fun _ => by kernel_rfl) ?_)
          refine Xg.ops_op (by kernel_rfl) (Xg.opx_pure ((iv 0)) rfl (fun _ => by kernel_rfl) ?_)
          refine Xg.ops_op (by kernel_rfl) (Xg.opx_pure ((iv (arD σ' k).us)) rfl (fun _ => by kernel_rfl) ?_)
          refine Xg.ops_op (by kernel_rfl) (Xg.opx_pure ((iv 0)) rfl (fun _ => by kernel_rfl) ?_)
          refine Xg.ops_nil ?_
          refine Xg.at_seq ?_
          refine Xg.at_region ?_
          refine Xg.ops_op (by kernel_rfl) (Xg.opx_pure ((iv 0)) rfl (fun _ => by kernel_rfl) ?_)
          refine Xg.ops_op (by kernel_rfl) (Xg.opx_pure ((Value.bool false)) rfl (fun _ => by kernel_rfl) ?_)
          refine Xg.ops_op (by kernel_rfl) (Xg.opx_pure ((Value.bool false)) rfl (fun _ => by kernel_rfl) ?_)
          refine Xg.ops_op (by kernel_rfl) (Xg.opx_pure ((iv (arD σ' k).us)) rfl (fun _ => by kernel_rfl) ?_)
          refine Xg.ops_op (by kernel_rfl) (Xg.opx_pure ((iv (↑q : Int))) rfl (fun _ => by kernel_rfl) ?_)
          refine Xg.ops_op (by kernel_rfl) (Xg.opx_pure (.bool (decide ((((arD σ' k).us) : Int) > ((↑q : Int))))) rfl (fun _ => by kernel_rfl) ?_)
          refine Xg.ops_flag (j := 129) (c := (decide ((arD σ' k).us > (↑q : Int)))) (by kernel_rfl) (fun xh5 => absurd (of_decide_eq_true xh5) (by omega)) (fun _ => ?_)
          refine Xg.ops_op (by kernel_rfl) (Xg.opx_pure ((Value.bool false)) rfl (fun _ => by kernel_rfl) ?_)
          refine Xg.ops_nil ?_
          refine Xg.at_false (t := false) (by kernel_rfl) rfl ?_
          refine Xg.at_skip ?_
          refine Xg.at_inBlock ?_
          refine Xg.at_region ?_
          refine Xg.ops_op (by kernel_rfl) (Xg.opx_pure ((iv (↑k : Int))) rfl (fun _ => by kernel_rfl) ?_)
          refine Xg.ops_op (by kernel_rfl) (Xg.opx_int .i64 (IntKind.wrap .i64 (((↑k : Int) + (1 : Int)))) rfl (fun _ => by kernel_rfl) (Xg.wrap_i64_in (by omega)) ?_)
          refine Xg.ops_op (by kernel_rfl) (Xg.opx_pure ((iv ((↑k : Int) + (1 : Int)))) rfl (fun _ => by kernel_rfl) ?_)
          refine Xg.ops_nil ?_
          refine Xg.at_inLoop ?_)
        (focus
          refine Xg.at_keep [1, 0, 3, 4, 5] (by kernel_rfl) ?_
          refine Xs.same ?_ (fun J9 => ih3 (((k + 1, ba, bc, BL)), J9) ?_ ?_) (by kernel_rfl))
        · rfl
        · refine ⟨hk4, ?_⟩
          show BL = allK σ' (k + 1)
          rw [hBL, allK_one, hAL, hlen, List.take_length]
        · dsimp only; omega
    · obtain rfl : k = 4 := by omega
      clear ih3
      have hrng := hP.all_rng
      have hcnt := hP.all_cnt
      have hall := hP.all_len
      rw [← hAL] at hrng hcnt hall
      clear hfl0 hfl1
      (focus
        refine Xg.at_seq ?_
        refine Xg.at_seq ?_
        refine Xg.at_region ?_
        refine Xg.ops_op (by kernel_rfl) (Xg.opx_pure ((iv 4)) rfl (fun _ => by kernel_rfl) ?_)
        refine Xg.ops_op (by kernel_rfl) (Xg.opx_pure ((Value.bool false)) rfl (fun _ => by kernel_rfl) ?_)
        refine Xg.ops_nil ?_
        refine Xg.at_false (t := false) (by kernel_rfl) rfl ?_
        refine Xg.at_exit rfl ?_
        refine Xg.at_seq ?_
        refine Xg.at_region ?_
        refine Xg.ops_op (by kernel_rfl) (Xg.opx_pure ((iv (↑m : Int))) rfl (fun _ => by kernel_rfl) ?_)
        refine Xg.ops_op (by kernel_rfl) (Xg.opx_int .i64 (IntKind.wrap .i64 (((2 : Int) * (↑m : Int)))) rfl (fun _ => by kernel_rfl) (Xg.wrap_i64_in (by omega)) ?_)
        refine Xg.ops_op (by kernel_rfl) (Xg.opx_make_hid (elem := 3) (kd := .i64) (by_ := 8) (k1 := .i64) (k2 := .i64) (n := ((2 : Int) * (↑m : Int))) (c := ((2 : Int) * (↑m : Int))) (((2 : Int) * (↑m : Int)).toNat) (((2 : Int) * (↑m : Int)).toNat) (by kernel_rfl) (by kernel_rfl) (by kernel_rfl) (by kernel_rfl) (by omega) (by omega) (by omega) (by omega) fun xa3 xs1 xh4 xl3 xz1 => ?_)
        refine Xg.ops_op (by kernel_rfl) (Xg.opx_pure ((Value.slice xa3 xs1.length ((2 : Int) * (↑m : Int)).toNat)) rfl (fun _ => by kernel_rfl) ?_)
        refine Xg.ops_nil ?_
        refine Xg.at_seq ?_
        refine Xg.at_seq ?_
        refine Xg.at_region ?_
        refine Xg.ops_op (by kernel_rfl) (Xg.opx_pure ((iv 0)) rfl (fun _ => by kernel_rfl) ?_)
        refine Xg.ops_nil ?_
        refine Xg.at_block ?_)
      have hxl : xs1.length = ((2 : Int) * (m : Nat)).toNat := by assumption
      have hxz : ∀ i : Nat, xs1.getD i 0 = 0 := by assumption
      have hxr : xs1 = List.replicate (2 * m) 0 := by
        apply List.ext_getElem (by rw [hxl, List.length_replicate]; omega)
        intro i g1 g2
        have := hxz i
        simpa [List.getD, g1] using this
      have hS0 := seen_nil m
      rw [← hxr] at hS0
      clear hxr hxz
      refine Xg.at_off 0 rfl (by omega) fun hoff => ?_
      (focus
        refine Xg.at_rounds_inv (α := (Nat × List Int) × (Nat → Value)) (fun x => ((fun x => x.1 ≤ AL.length ∧ Seen m (AL.take x.1) x.2) : (Nat × List Int) → Prop) x.1) (fun x => ((fun x => AL.length - x.1) : (Nat × List Int) → Nat) x.1) (fun x => Xg.headT [Value.slice a xs.length c, iv quota, iv many, tu, tu, tu, (((4 : Nat), aa, ac, AL), J3).snd (6 : Nat), iv (↑q : Int), iv (↑m : Int), pv xx1.fst 0, Value.slice xx1.snd.fst H'.length xx1.snd.snd, Value.bool true, iv (↑i : Int), iv (↑w : Int), pv yb 0, Value.bool true, Value.slice aa AL.length ac, iv 4, (((4 : Nat), aa, ac, AL), J3).snd (18 : Nat), (((4 : Nat), aa, ac, AL), J3).snd (19 : Nat), (((4 : Nat), aa, ac, AL), J3).snd (20 : Nat), (((4 : Nat), aa, ac, AL), J3).snd (21 : Nat), Value.slice xa3 xs1.length ((2 : Int) * (↑m : Int)).toNat, iv 0, J 24, tu, tu, tu, tu, tu, tu, iv quota, iv (↑q : Int), iv many, iv (↑(pickN many (6 : Nat)) : Int), iv (↑m : Int), Value.tuple #[pv xx1.fst 0, Value.slice xx1.snd.fst (4 : Nat) xx1.snd.snd, Value.bool true], iv (↑m : Int), iv (↑q : Int), Value.tuple #[pv xx1.fst 0, Value.slice xx1.snd.fst (4 : Nat) xx1.snd.snd, Value.bool true], pv xx1.fst 0, Value.slice xx1.snd.fst (4 : Nat) xx1.snd.snd, Value.bool true, Value.bool true, Value.bool false, iv (↑i : Int), Value.slice a xs.length c, iv (↑xs.length : Int), Value.bool (decide ((↑i : Int) < (↑xs.length : Int))), Value.bool true, iv (↑i : Int), Value.bool true, Value.bool true, J 53, J 54, Value.slice a xs.length c, iv (↑i : Int), Value.pointer (some (Addr.mk (blk a) (offA a + i * (6 : Nat)) none)), Value.pointer (some (Addr.mk (blk a) (offA a + i * (6 : Nat) + (1 : Nat)) none)), iv (xs.getD i default).wh, iv (↑w : Int), J4 61, J4 62, J4 63, J4 64, J4 65, J4 66, J4 67, J4 68, J4 69, J4 70, J4 71, J4 72, J4 73, J4 74, Value.bool true, Value.bool false, Value.slice xx1.snd.fst H.length xx1.snd.snd, iv (↑w : Int), Value.agg #[iv (↑y.id : Int), Value.slice ((y, yb), J4).fst.fst.la y.les.length y.lc, Value.slice ((y, yb), J4).fst.fst.ba y.Z.length y.bc], Value.pointer (some (Addr.mk (blk xx1.snd.fst) (w * (3 : Nat)) none)), Value.slice none (0 : Nat) (0 : Nat), pv xx1.fst 0, Value.slice xx2.fst (σ'.fr (0 : Nat)).length xx2.snd, Value.slice xa1 ([] ++ σ'.fr (0 : Nat)).length xc1, Value.slice xa1 ([] ++ σ'.fr (0 : Nat)).length xc1, pv xx1.fst 0, Value.slice xx3.fst (σ'.fr (1 : Nat)).length xx3.snd, Value.slice xa2 ([] ++ σ'.fr (0 : Nat) ++ σ'.fr (1 : Nat)).length xc2, iv 4, Value.bool false, (((4 : Nat), aa, ac, AL), J3).snd (91 : Nat), (((4 : Nat), aa, ac, AL), J3).snd (92 : Nat), (((4 : Nat), aa, ac, AL), J3).snd (93 : Nat), (((4 : Nat), aa, ac, AL), J3).snd (94 : Nat), (((4 : Nat), aa, ac, AL), J3).snd (95 : Nat), (((4 : Nat), aa, ac, AL), J3).snd (96 : Nat), (((4 : Nat), aa, ac, AL), J3).snd (97 : Nat), (((4 : Nat), aa, ac, AL), J3).snd (98 : Nat), (((4 : Nat), aa, ac, AL), J3).snd (99 : Nat), (((4 : Nat), aa, ac, AL), J3).snd (100 : Nat), (((4 : Nat), aa, ac, AL), J3).snd (101 : Nat), (((4 : Nat), aa, ac, AL), J3).snd (102 : Nat), (((4 : Nat), aa, ac, AL), J3).snd (103 : Nat), (((4 : Nat), aa, ac, AL), J3).snd (104 : Nat), (((4 : Nat), aa, ac, AL), J3).snd (105 : Nat), (((4 : Nat), aa, ac, AL), J3).snd (106 : Nat), (((4 : Nat), aa, ac, AL), J3).snd (107 : Nat), (((4 : Nat), aa, ac, AL), J3).snd (108 : Nat), (((4 : Nat), aa, ac, AL), J3).snd (109 : Nat), (((4 : Nat), aa, ac, AL), J3).snd (110 : Nat), (((4 : Nat), aa, ac, AL), J3).snd (111 : Nat), (((4 : Nat), aa, ac, AL), J3).snd (112 : Nat), (((4 : Nat), aa, ac, AL), J3).snd (113 : Nat), (((4 : Nat), aa, ac, AL), J3).snd (114 : Nat), (((4 : Nat), aa, ac, AL), J3).snd (115 : Nat), (((4 : Nat), aa, ac, AL), J3).snd (116 : Nat), (((4 : Nat), aa, ac, AL), J3).snd (117 : Nat), (((4 : Nat), aa, ac, AL), J3).snd (118 : Nat), (((4 : Nat), aa, ac, AL), J3).snd (119 : Nat), (((4 : Nat), aa, ac, AL), J3).snd (120 : Nat), (((4 : Nat), aa, ac, AL), J3).snd (121 : Nat), (((4 : Nat), aa, ac, AL), J3).snd (122 : Nat), (((4 : Nat), aa, ac, AL), J3).snd (123 : Nat), (((4 : Nat), aa, ac, AL), J3).snd (124 : Nat), (((4 : Nat), aa, ac, AL), J3).snd (125 : Nat), (((4 : Nat), aa, ac, AL), J3).snd (126 : Nat), (((4 : Nat), aa, ac, AL), J3).snd (127 : Nat), (((4 : Nat), aa, ac, AL), J3).snd (128 : Nat), (((4 : Nat), aa, ac, AL), J3).snd (129 : Nat), (((4 : Nat), aa, ac, AL), J3).snd (130 : Nat), iv (↑m : Int), iv ((2 : Int) * (↑m : Int)), Value.slice xa3 xs1.length ((2 : Int) * (↑m : Int)).toNat, J 134, J 135, J 136, J 137, J 138, J 139, J 140, J 141, J 142, J 143, J 144, J 145, J 146, J 147, J 148, J 149, J 150, J 151, J 152, J 153, J 154, J 155, J 156, J 157, J 158, J 159, J 160, J 161, J 162, J 163, J 164, J 165, J 166, J 167, J 168, J 169, J 170, J 171, J 172, J 173, tu, tu, tu, tu, tu, tu, tu, tu, tu, tu, tu, tu, tu, tu, tu, tu, tu, tu, tu, tu, tu, tu, tu, tu, tu, tu, tu, tu, tu, tu, tu, tu, tu, tu, tu, tu, tu, tu, tu, tu, tu, tu, tu, tu, tu, tu, tu, tu, tu, tu, tu, tu, tu] [6, 134, 135, 136, 137, 138, 139, 140, 141, 142, 143, 144, 145, 146, 147, 148, 149, 150, 151, 152, 153, 154, 155, 156, 157, 158, 159, 160, 161, 162] (((fun x => [(23, .int .i64 (x.1 : Nat))]) : (Nat × List Int) → List (Nat × Go.Value)) x.1) x.2) (fun x => ((fun x => [ownS 3 1 (.slice xa3 xs1.length ((2 : Int) * (m : Nat)).toNat) xs1.length (x.2.map (Value.int .i64)), I2 aa ac AL, PoolS xx1.1 σ', recsO 62 3 hdK xx1.2.1 xx1.2.2 H', starL HdS H', A]) : (Nat × List Int) → List Go.Sl.HP) x.1) (((0, xs1)), fun j9 => ([Value.slice a xs.length c, iv quota, iv many, tu, tu, tu, (((4 : Nat), aa, ac, AL), J3).snd (6 : Nat), iv (↑q : Int), iv (↑m : Int), pv xx1.fst 0, Value.slice xx1.snd.fst H'.length xx1.snd.snd, Value.bool true, iv (↑i : Int), iv (↑w : Int), pv yb 0, Value.bool true, Value.slice aa AL.length ac, iv 4, (((4 : Nat), aa, ac, AL), J3).snd (18 : Nat), (((4 : Nat), aa, ac, AL), J3).snd (19 : Nat), (((4 : Nat), aa, ac, AL), J3).snd (20 : Nat), (((4 : Nat), aa, ac, AL), J3).snd (21 : Nat), Value.slice xa3 xs1.length ((2 : Int) * (↑m : Int)).toNat, iv 0, J 24, tu, tu, tu, tu, tu, tu, iv quota, iv (↑q : Int), iv many, iv (↑(pickN many (6 : Nat)) : Int), iv (↑m : Int), Value.tuple #[pv xx1.fst 0, Value.slice xx1.snd.fst (4 : Nat) xx1.snd.snd, Value.bool true], iv (↑m : Int), iv (↑q : Int), Value.tuple #[pv xx1.fst 0, Value.slice xx1.snd.fst (4 : Nat) xx1.snd.snd, Value.bool true], pv xx1.fst 0, Value.slice xx1.snd.fst (4 : Nat) xx1.snd.snd, Value.bool true, Value.bool true, Value.bool false, iv (↑i : Int), Value.slice a xs.length c, iv (↑xs.length : Int), Value.bool (decide ((↑i : Int) < (↑xs.length : Int))), Value.bool true, iv (↑i : Int), Value.bool true, Value.bool true, J 53, J 54, Value.slice a xs.length c, iv (↑i : Int), Value.pointer (some (Addr.mk (blk a) (offA a + i * (6 : Nat)) none)), Value.pointer (some (Addr.mk (blk a) (offA a + i * (6 : Nat) + (1 : Nat)) none)), iv (xs.getD i default).wh, iv (↑w : Int), J4 61, J4 62, J4 63, J4 64, J4 65, J4 66, J4 67, J4 68, J4 69, J4 70, J4 71, J4 72, J4 73, J4 74, Value.bool true, Value.bool false, Value.slice xx1.snd.fst H.length xx1.snd.snd, iv (↑w : Int), Value.agg #[iv (↑y.id : Int), Value.slice ((y, yb), J4).fst.fst.la y.les.length y.lc, Value.slice ((y, yb), J4).fst.fst.ba y.Z.length y.bc], Value.pointer (some (Addr.mk (blk xx1.snd.fst) (w * (3 : Nat)) none)), Value.slice none (0 : Nat) (0 : Nat), pv xx1.fst 0, Value.slice xx2.fst (σ'.fr (0 : Nat)).length xx2.snd, Value.slice xa1 ([] ++ σ'.fr (0 : Nat)).length xc1, Value.slice xa1 ([] ++ σ'.fr (0 : Nat)).length xc1, pv xx1.fst 0, Value.slice xx3.fst (σ'.fr (1 : Nat)).length xx3.snd, Value.slice xa2 ([] ++ σ'.fr (0 : Nat) ++ σ'.fr (1 : Nat)).length xc2, iv 4, Value.bool false, (((4 : Nat), aa, ac, AL), J3).snd (91 : Nat), (((4 : Nat), aa, ac, AL), J3).snd (92 : Nat), (((4 : Nat), aa, ac, AL), J3).snd (93 : Nat), (((4 : Nat), aa, ac, AL), J3).snd (94 : Nat), (((4 : Nat), aa, ac, AL), J3).snd (95 : Nat), (((4 : Nat), aa, ac, AL), J3).snd (96 : Nat), (((4 : Nat), aa, ac, AL), J3).snd (97 : Nat), (((4 : Nat), aa, ac, AL), J3).snd (98 : Nat), (((4 : Nat), aa, ac, AL), J3).snd (99 : Nat), (((4 : Nat), aa, ac, AL), J3).snd (100 : Nat), (((4 : Nat), aa, ac, AL), J3).snd (101 : Nat), (((4 : Nat), aa, ac, AL), J3).snd (102 : Nat), (((4 : Nat), aa, ac, AL), J3).snd (103 : Nat), (((4 : Nat), aa, ac, AL), J3).snd (104 : Nat), (((4 : Nat), aa, ac, AL), J3).snd (105 : Nat), (((4 : Nat), aa, ac, AL), J3).snd (106 : Nat), (((4 : Nat), aa, ac, AL), J3).snd (107 : Nat), (((4 : Nat), aa, ac, AL), J3).snd (108 : Nat), (((4 : Nat), aa, ac, AL), J3).snd (109 : Nat), (((4 : Nat), aa, ac, AL), J3).snd (110 : Nat), (((4 : Nat), aa, ac, AL), J3).snd (111 : Nat), (((4 : Nat), aa, ac, AL), J3).snd (112 : Nat), (((4 : Nat), aa, ac, AL), J3).snd (113 : Nat), (((4 : Nat), aa, ac, AL), J3).snd (114 : Nat), (((4 : Nat), aa, ac, AL), J3).snd (115 : Nat), (((4 : Nat), aa, ac, AL), J3).snd (116 : Nat), (((4 : Nat), aa, ac, AL), J3).snd (117 : Nat), (((4 : Nat), aa, ac, AL), J3).snd (118 : Nat), (((4 : Nat), aa, ac, AL), J3).snd (119 : Nat), (((4 : Nat), aa, ac, AL), J3).snd (120 : Nat), (((4 : Nat), aa, ac, AL), J3).snd (121 : Nat), (((4 : Nat), aa, ac, AL), J3).snd (122 : Nat), (((4 : Nat), aa, ac, AL), J3).snd (123 : Nat), (((4 : Nat), aa, ac, AL), J3).snd (124 : Nat), (((4 : Nat), aa, ac, AL), J3).snd (125 : Nat), (((4 : Nat), aa, ac, AL), J3).snd (126 : Nat), (((4 : Nat), aa, ac, AL), J3).snd (127 : Nat), (((4 : Nat), aa, ac, AL), J3).snd (128 : Nat), (((4 : Nat), aa, ac, AL), J3).snd (129 : Nat), (((4 : Nat), aa, ac, AL), J3).snd (130 : Nat), iv (↑m : Int), iv ((2 : Int) * (↑m : Int)), Value.slice xa3 xs1.length ((2 : Int) * (↑m : Int)).toNat, J 134, J 135, J 136, J 137, J 138, J 139, J 140, J 141, J 142, J 143, J 144, J 145, J 146, J 147, J 148, J 149, J 150, J 151, J 152, J 153, J 154, J 155, J 156, J 157, J 158, J 159, J 160, J 161, J 162, J 163, J 164, J 165, J 166, J 167, J 168, J 169, J 170, J 171, J 172, J 173, tu, tu, tu, tu, tu, tu, tu, tu, tu, tu, tu, tu, tu, tu, tu, tu, tu, tu, tu, tu, tu, tu, tu, tu, tu, tu, tu, tu, tu, tu, tu, tu, tu, tu, tu, tu, tu, tu, tu, tu, tu, tu, tu, tu, tu, tu, tu, tu, tu, tu, tu, tu, tu] : List Value).getD j9 undef) (by kernel_rfl) (by kernel_rfl) ?_ ?_)
      · exact ⟨Nat.zero_le _, hS0⟩
      rintro ⟨⟨j, S⟩, J6⟩ hj ih6
      obtain ⟨hj, hS⟩ := hj
      dsimp only at hj hS
      (focus
        refine Xg.At.same (T' := [Value.slice a xs.length c, iv quota, iv many, tu, tu, tu, J6 6, iv (↑q : Int), iv (↑m : Int), pv xx1.fst 0, Value.slice xx1.snd.fst H'.length xx1.snd.snd, Value.bool true, iv (↑i : Int), iv (↑w : Int), pv yb 0, Value.bool true, Value.slice aa AL.length ac, iv 4, (((4 : Nat), aa, ac, AL), J3).snd (18 : Nat), (((4 : Nat), aa, ac, AL), J3).snd (19 : Nat), (((4 : Nat), aa, ac, AL), J3).snd (20 : Nat), (((4 : Nat), aa, ac, AL), J3).snd (21 : Nat), Value.slice xa3 xs1.length ((2 : Int) * (↑m : Int)).toNat, iv (↑j : Int), J 24, tu, tu, tu, tu, tu, tu, iv quota, iv (↑q : Int), iv many, iv (↑(pickN many (6 : Nat)) : Int), iv (↑m : Int), Value.tuple #[pv xx1.fst 0, Value.slice xx1.snd.fst (4 : Nat) xx1.snd.snd, Value.bool true], iv (↑m : Int), iv (↑q : Int), Value.tuple #[pv xx1.fst 0, Value.slice xx1.snd.fst (4 : Nat) xx1.snd.snd, Value.bool true], pv xx1.fst 0, Value.slice xx1.snd.fst (4 : Nat) xx1.snd.snd, Value.bool true, Value.bool true, Value.bool false, iv (↑i : Int), Value.slice a xs.length c, iv (↑xs.length : Int), Value.bool (decide ((↑i : Int) < (↑xs.length : Int))), Value.bool true, iv (↑i : Int), Value.bool true, Value.bool true, J 53, J 54, Value.slice a xs.length c, iv (↑i : Int), Value.pointer (some (Addr.mk (blk a) (offA a + i * (6 : Nat)) none)), Value.pointer (some (Addr.mk (blk a) (offA a + i * (6 : Nat) + (1 : Nat)) none)), iv (xs.getD i default).wh, iv (↑w : Int), J4 61, J4 62, J4 63, J4 64, J4 65, J4 66, J4 67, J4 68, J4 69, J4 70, J4 71, J4 72, J4 73, J4 74, Value.bool true, Value.bool false, Value.slice xx1.snd.fst H.length xx1.snd.snd, iv (↑w : Int), Value.agg #[iv (↑y.id : Int), Value.slice ((y, yb), J4).fst.fst.la y.les.length y.lc, Value.slice ((y, yb), J4).fst.fst.ba y.Z.length y.bc], Value.pointer (some (Addr.mk (blk xx1.snd.fst) (w * (3 : Nat)) none)), Value.slice none (0 : Nat) (0 : Nat), pv xx1.fst 0, Value.slice xx2.fst (σ'.fr (0 : Nat)).length xx2.snd, Value.slice xa1 ([] ++ σ'.fr (0 : Nat)).length xc1, Value.slice xa1 ([] ++ σ'.fr (0 : Nat)).length xc1, pv xx1.fst 0, Value.slice xx3.fst (σ'.fr (1 : Nat)).length xx3.snd, Value.slice xa2 ([] ++ σ'.fr (0 : Nat) ++ σ'.fr (1 : Nat)).length xc2, iv 4, Value.bool false, (((4 : Nat), aa, ac, AL), J3).snd (91 : Nat), (((4 : Nat), aa, ac, AL), J3).snd (92 : Nat), (((4 : Nat), aa, ac, AL), J3).snd (93 : Nat), (((4 : Nat), aa, ac, AL), J3).snd (94 : Nat), (((4 : Nat), aa, ac, AL), J3).snd (95 : Nat), (((4 : Nat), aa, ac, AL), J3).snd (96 : Nat), (((4 : Nat), aa, ac, AL), J3).snd (97 : Nat), (((4 : Nat), aa, ac, AL), J3).snd (98 : Nat), (((4 : Nat), aa, ac, AL), J3).snd (99 : Nat), (((4 : Nat), aa, ac, AL), J3).snd (100 : Nat), (((4 : Nat), aa, ac, AL), J3).snd (101 : Nat), (((4 : Nat), aa, ac, AL), J3).snd (102 : Nat), (((4 : Nat), aa, ac, AL), J3).snd (103 : Nat), (((4 : Nat), aa, ac, AL), J3).snd (104 : Nat), (((4 : Nat), aa, ac, AL), J3).snd (105 : Nat), (((4 : Nat), aa, ac, AL), J3).snd (106 : Nat), (((4 : Nat), aa, ac, AL), J3).snd (107 : Nat), (((4 : Nat), aa, ac, AL), J3).snd (108 : Nat), (((4 : Nat), aa, ac, AL), J3).snd (109 : Nat), (((4 : Nat), aa, ac, AL), J3).snd (110 : Nat), (((4 : Nat), aa, ac, AL), J3).snd (111 : Nat), (((4 : Nat), aa, ac, AL), J3).snd (112 : Nat), (((4 : Nat), aa, ac, AL), J3).snd (113 : Nat), (((4 : Nat), aa, ac, AL), J3).snd (114 : Nat), (((4 : Nat), aa, ac, AL), J3).snd (115 : Nat), (((4 : Nat), aa, ac, AL), J3).snd (116 : Nat), (((4 : Nat), aa, ac, AL), J3).snd (117 : Nat), (((4 : Nat), aa, ac, AL), J3).snd (118 : Nat), (((4 : Nat), aa, ac, AL), J3).snd (119 : Nat), (((4 : Nat), aa, ac, AL), J3).snd (120 : Nat), (((4 : Nat), aa, ac, AL), J3).snd (121 : Nat), (((4 : Nat), aa, ac, AL), J3).snd (122 : Nat), (((4 : Nat), aa, ac, AL), J3).snd (123 : Nat), (((4 : Nat), aa, ac, AL), J3).snd (124 : Nat), (((4 : Nat), aa, ac, AL), J3).snd (125 : Nat), (((4 : Nat), aa, ac, AL), J3).snd (126 : Nat), (((4 : Nat), aa, ac, AL), J3).snd (127 : Nat), (((4 : Nat), aa, ac, AL), J3).snd (128 : Nat), (((4 : Nat), aa, ac, AL), J3).snd (129 : Nat), (((4 : Nat), aa, ac, AL), J3).snd (130 : Nat), iv (↑m : Int), iv ((2 : Int) * (↑m : Int)), Value.slice xa3 xs1.length ((2 : Int) * (↑m : Int)).toNat, J6 134, J6 135, J6 136, J6 137, J6 138, J6 139, J6 140, J6 141, J6 142, J6 143, J6 144, J6 145, J6 146, J6 147, J6 148, J6 149, J6 150, J6 151, J6 152, J6 153, J6 154, J6 155, J6 156, J6 157, J6 158, J6 159, J6 160, J6 161, J6 162, J 163, J 164, J 165, J 166, J 167, J 168, J 169, J 170, J 171, J 172, J 173, tu, tu, tu, tu, tu, tu, tu, tu, tu, tu, tu, tu, tu, tu, tu, tu, tu, tu, tu, tu, tu, tu, tu, tu, tu, tu, tu, tu, tu, tu, tu, tu, tu, tu, tu, tu, tu, tu, tu, tu, tu, tu, tu, tu, tu, tu, tu, tu, tu, tu, tu, tu, tu]) (L' := [ownS (3 : TypeId) (1 : Nat) (Value.slice xa3 xs1.length ((2 : Int) * (↑m : Int)).toNat) xs1.length (List.map (Value.int IntKind.i64) ((j, S), J6).fst.snd), I2 aa ac AL, PoolS xx1.fst σ', recsO (62 : Nat) (3 : Nat) hdK xx1.snd.fst xx1.snd.snd H', starL HdS H', A]) (by kernel_rfl) rfl ?_)
      have hSl := seen_len hS
      by_cases hjl : j < AL.length
      · have hr := hrng (AL.getD j 0) (by rw [List.getD_eq_getElem?_getD, List.getElem?_eq_getElem hjl]; exact List.getElem_mem hjl)
        have hS2 := seen_one hS hr
        rw [← take_one AL j hjl] at hS2
        have hSb : 0 ≤ S.getD (AL.getD j 0).toNat 0 ∧ S.getD (AL.getD j 0).toNat 0 ≤ 100000 := by
          rw [hS.2 _ (by omega)]
          have := List.count_le_length (a := (((AL.getD j 0).toNat : Nat) : Int)) (l := AL.take j)
          rw [List.length_take] at this
          omega
        have hSl2 : ((j, S), J6).fst.snd.length = 2 * m := hSl
        (focus
          refine Xg.at_seq ?_
          refine Xg.at_seq ?_
          refine Xg.at_region ?_
          refine Xg.ops_op (by kernel_rfl) (Xg.opx_pure ((iv (↑j : Int))) rfl (fun _ => by kernel_rfl) ?_)
          refine Xg.ops_op (by kernel_rfl) (Xg.opx_pure ((Value.slice aa AL.length ac)) rfl (fun _ => by kernel_rfl) ?_)
          refine Xg.ops_op (by kernel_rfl) (Xg.opx_pure ((iv (↑AL.length : Int))) rfl (fun _ => by kernel_rfl) ?_)
          refine Xg.ops_op (by kernel_rfl) (Xg.opx_pure (.bool (decide ((((↑j : Int)) : Int) < ((↑AL.length : Int))))) rfl (fun _ => by kernel_rfl) ?_)
          refine Xg.ops_nil ?_
          refine Xg.at_true (t := decide (((↑j : Int) < (↑AL.length : Int)))) (by kernel_rfl) (decide_eq_true (by omega)) ?_
          refine Xg.at_skip ?_
          refine Xg.at_seq ?_
          refine Xg.at_block ?_
          refine Xg.at_seq ?_
          refine Xg.at_seq ?_
          refine Xg.at_region ?_
          refine Xg.ops_op (by kernel_rfl) (Xg.opx_pure ((Value.slice aa AL.length ac)) rfl (fun _ => by kernel_rfl) ?_)
          refine Xg.ops_op (by kernel_rfl) (Xg.opx_pure ((iv (↑j : Int))) rfl (fun _ => by kernel_rfl) ?_)
          refine Xg.ops_op (by kernel_rfl) (Xg.opx_ix_own (elem := 3) (kd := .i64) (e := ((↑j : Int))) 1 1 j j rfl (by kernel_rfl) (by kernel_rfl) (by kernel_rfl) (by kernel_rfl) rfl (by omega) (by omega) ?_)
          refine Xg.ops_op (by kernel_rfl) (Xg.opx_load_own (a := aa) (off := j) 1 (iv (AL.getD j (0 : Int))) rfl (by kernel_rfl) (Xg.get_ints (by omega)) (by kernel_rfl) ?_)
          refine Xg.ops_op (by kernel_rfl) (Xg.opx_pure (.bool (decide (((AL.getD j (0 : Int)) : Int) < ((0 : Int))))) rfl (fun _ => by kernel_rfl) ?_)
          refine Xg.ops_op (by kernel_rfl) (Xg.opx_pure ((Value.bool (decide (AL.getD j (0 : Int) < (0 : Int))))) rfl (fun _ => by kernel_rfl) ?_)
          refine Xg.ops_flag (j := 145) (c := (decide (AL.getD j (0 : Int) < (0 : Int)))) (by kernel_rfl) (fun xh5 => absurd (of_decide_eq_true xh5) (by omega)) (fun _ => ?_)
          refine Xg.ops_op (by kernel_rfl) (Xg.opx_pure ((Value.slice aa AL.length ac)) rfl (fun _ => by kernel_rfl) ?_)
          refine Xg.ops_op (by kernel_rfl) (Xg.opx_pure ((iv (↑j : Int))) rfl (fun _ => by kernel_rfl) ?_)
          refine Xg.ops_op (by kernel_rfl) (Xg.opx_ix_own (elem := 3) (kd := .i64) (e := ((↑j : Int))) 1 1 j j rfl (by kernel_rfl) (by kernel_rfl) (by kernel_rfl) (by kernel_rfl) rfl (by omega) (by omega) ?_)
          refine Xg.ops_op (by kernel_rfl) (Xg.opx_load_own (a := aa) (off := j) 1 (iv (AL.getD j (0 : Int))) rfl (by kernel_rfl) (Xg.get_ints (by omega)) (by kernel_rfl) ?_)
          refine Xg.ops_op (by kernel_rfl) (Xg.opx_pure ((iv (↑m : Int))) rfl (fun _ => by kernel_rfl) ?_)
          refine Xg.ops_op (by kernel_rfl) (Xg.opx_int .i64 (IntKind.wrap .i64 (((2 : Int) * (↑m : Int)))) rfl (fun _ => by kernel_rfl) (Xg.wrap_i64_in (by omega)) ?_)
          refine Xg.ops_op (by kernel_rfl) (Xg.opx_pure (.bool (decide (((AL.getD j (0 : Int)) : Int) ≥ ((2 : Int) * (↑m : Int))))) rfl (fun _ => by kernel_rfl) ?_)
          refine Xg.ops_flag (j := 152) (c := (decide (AL.getD j (0 : Int) ≥ (2 : Int) * (↑m : Int)))) (by kernel_rfl) (fun xh5 => absurd (of_decide_eq_true xh5) (by omega)) (fun _ => ?_)
          refine Xg.ops_op (by kernel_rfl) (Xg.opx_pure ((Value.bool false)) rfl (fun _ => by kernel_rfl) ?_)
          refine Xg.ops_nil ?_
          refine Xg.at_false (t := false) (by kernel_rfl) rfl ?_
          refine Xg.at_skip ?_
          refine Xg.at_region ?_
          refine Xg.ops_op (by kernel_rfl) (Xg.opx_pure ((Value.slice xa3 xs1.length ((2 : Int) * (↑m : Int)).toNat)) rfl (fun _ => by kernel_rfl) ?_)
          refine Xg.ops_op (by kernel_rfl) (Xg.opx_pure ((Value.slice aa AL.length ac)) rfl (fun _ => by kernel_rfl) ?_)
          refine Xg.ops_op (by kernel_rfl) (Xg.opx_pure ((iv (↑j : Int))) rfl (fun _ => by kernel_rfl) ?_)
          refine Xg.ops_op (by kernel_rfl) (Xg.opx_ix_own (elem := 3) (kd := .i64) (e := ((↑j : Int))) 1 1 j j rfl (by kernel_rfl) (by kernel_rfl) (by kernel_rfl) (by kernel_rfl) rfl (by omega) (by omega) ?_)
          refine Xg.ops_op (by kernel_rfl) (Xg.opx_load_own (a := aa) (off := j) 1 (iv (AL.getD j (0 : Int))) rfl (by kernel_rfl) (Xg.get_ints (by omega)) (by kernel_rfl) ?_)
          refine Xg.ops_op (by kernel_rfl) (Xg.opx_ix_own (elem := 3) (kd := .i64) (e := (AL.getD j (0 : Int))) 0 1 ((AL.getD j (0 : Int)).toNat) ((AL.getD j (0 : Int)).toNat) rfl (by kernel_rfl) (by kernel_rfl) (by kernel_rfl) (by kernel_rfl) (by omega) (by omega) (by omega) ?_)
          refine Xg.ops_op (by kernel_rfl) (Xg.opx_load_own (a := xa3) (off := ((AL.getD j (0 : Int)).toNat)) 0 (iv (((j, S), J6).fst.snd.getD (AL.getD j (0 : Int)).toNat (0 : Int))) rfl (by kernel_rfl) (Xg.get_ints (by omega)) (by kernel_rfl) ?_)
          refine Xg.ops_op (by kernel_rfl) (Xg.opx_int .i64 (IntKind.wrap .i64 ((S.getD (AL.getD j (0 : Int)).toNat (0 : Int) + (1 : Int)))) rfl (fun _ => by kernel_rfl) (Xg.wrap_i64_in (by omega)) ?_)
          refine Xg.ops_op (by kernel_rfl) (Xg.opx_ix_own (elem := 3) (kd := .i64) (e := (AL.getD j (0 : Int))) 0 1 ((AL.getD j (0 : Int)).toNat) ((AL.getD j (0 : Int)).toNat) rfl (by kernel_rfl) (by kernel_rfl) (by kernel_rfl) (by kernel_rfl) (by omega) (by omega) (by omega) ?_)
          refine Xg.ops_op (by kernel_rfl) (Xg.opx_store_own_i (a := xa3) (off := ((AL.getD j (0 : Int)).toNat)) (kd := .i64) (xs := (((j, S), J6).fst.snd)) (e := (S.getD (AL.getD j (0 : Int)).toNat (0 : Int) + (1 : Int))) 0 (by kernel_rfl) rfl (by kernel_rfl) (by kernel_rfl) (by first | omega | (simp only [List.length_set]; omega)) ?_)
          refine Xg.ops_nil ?_
          refine Xg.at_inBlock ?_
          refine Xg.at_region ?_
          refine Xg.ops_op (by kernel_rfl) (Xg.opx_pure ((iv (↑j : Int))) rfl (fun _ => by kernel_rfl) ?_)
          refine Xg.ops_op (by kernel_rfl) (Xg.opx_int .i64 (IntKind.wrap .i64 (((↑j : Int) + (1 : Int)))) rfl (fun _ => by kernel_rfl) (Xg.wrap_i64_in (by omega)) ?_)
          refine Xg.ops_op (by kernel_rfl) (Xg.opx_pure ((iv ((↑j : Int) + (1 : Int)))) rfl (fun _ => by kernel_rfl) ?_)
          refine Xg.ops_nil ?_
          refine Xg.at_inLoop ?_)
        (focus
          refine Xg.at_keep [0, 1, 2, 3, 4, 5] (by kernel_rfl) ?_
          refine Xs.same ?_ (fun J9 => ih6 (((j + 1, S.set (AL.getD j 0).toNat (S.getD (AL.getD j 0).toNat 0 + 1))), J9) ?_ ?_) (by kernel_rfl))
        · rfl
        · exact ⟨hjl, hS2⟩
        · dsimp only; omega
      · obtain rfl : j = AL.length := by omega
        clear ih6
        rw [List.take_length] at hS
        have hSl2 : ((AL.length, S), J6).fst.snd.length = 2 * m := hSl
        (focus
          refine Xg.at_seq ?_
          refine Xg.at_seq ?_
          refine Xg.at_region ?_
          refine Xg.ops_op (by kernel_rfl) (Xg.opx_pure ((iv (↑AL.length : Int))) rfl (fun _ => by kernel_rfl) ?_)
          refine Xg.ops_op (by kernel_rfl) (Xg.opx_pure ((Value.slice aa AL.length ac)) rfl (fun _ => by kernel_rfl) ?_)
          refine Xg.ops_op (by kernel_rfl) (Xg.opx_pure ((iv (↑AL.length : Int))) rfl (fun _ => by kernel_rfl) ?_)
          refine Xg.ops_op (by kernel_rfl) (Xg.opx_pure (.bool (decide ((((↑AL.length : Int)) : Int) < ((↑AL.length : Int))))) rfl (fun _ => by kernel_rfl) ?_)
          refine Xg.ops_nil ?_
          refine Xg.at_false (t := decide (((↑AL.length : Int) < (↑AL.length : Int)))) (by kernel_rfl) (decide_eq_false (by omega)) ?_
          refine Xg.at_exit rfl ?_
          refine Xg.at_seq ?_
          refine Xg.at_region ?_
          refine Xg.ops_op (by kernel_rfl) (Xg.opx_pure ((iv 0)) rfl (fun _ => by kernel_rfl) ?_)
          refine Xg.ops_nil ?_
          refine Xg.at_block ?_)
        (focus
          refine Xg.at_keep [0, 2, 3, 4, 5] (by kernel_rfl) ?_
          refine Xg.at_rounds_inv (α := (Nat) × (Nat → Value)) (fun x => ((fun t => t ≤ 2 * m) : (Nat) → Prop) x.1) (fun x => ((fun t => 2 * m - t) : (Nat) → Nat) x.1) (fun x => Xg.headT [Value.slice a xs.length c, iv quota, iv many, tu, tu, tu, J6 6, iv (↑q : Int), iv (↑m : Int), pv xx1.fst 0, Value.slice xx1.snd.fst H'.length xx1.snd.snd, Value.bool true, iv (↑i : Int), iv (↑w : Int), pv yb 0, Value.bool true, Value.slice aa AL.length ac, iv 4, (((4 : Nat), aa, ac, AL), J3).snd (18 : Nat), (((4 : Nat), aa, ac, AL), J3).snd (19 : Nat), (((4 : Nat), aa, ac, AL), J3).snd (20 : Nat), (((4 : Nat), aa, ac, AL), J3).snd (21 : Nat), Value.slice xa3 xs1.length ((2 : Int) * (↑m : Int)).toNat, iv (↑AL.length : Int), iv 0, tu, tu, tu, tu, tu, tu, iv quota, iv (↑q : Int), iv many, iv (↑(pickN many (6 : Nat)) : Int), iv (↑m : Int), Value.tuple #[pv xx1.fst 0, Value.slice xx1.snd.fst (4 : Nat) xx1.snd.snd, Value.bool true], iv (↑m : Int), iv (↑q : Int), Value.tuple #[pv xx1.fst 0, Value.slice xx1.snd.fst (4 : Nat) xx1.snd.snd, Value.bool true], pv xx1.fst 0, Value.slice xx1.snd.fst (4 : Nat) xx1.snd.snd, Value.bool true, Value.bool true, Value.bool false, iv (↑i : Int), Value.slice a xs.length c, iv (↑xs.length : Int), Value.bool (decide ((↑i : Int) < (↑xs.length : Int))), Value.bool true, iv (↑i : Int), Value.bool true, Value.bool true, J 53, J 54, Value.slice a xs.length c, iv (↑i : Int), Value.pointer (some (Addr.mk (blk a) (offA a + i * (6 : Nat)) none)), Value.pointer (some (Addr.mk (blk a) (offA a + i * (6 : Nat) + (1 : Nat)) none)), iv (xs.getD i default).wh, iv (↑w : Int), J4 61, J4 62, J4 63, J4 64, J4 65, J4 66, J4 67, J4 68, J4 69, J4 70, J4 71, J4 72, J4 73, J4 74, Value.bool true, Value.bool false, Value.slice xx1.snd.fst H.length xx1.snd.snd, iv (↑w : Int), Value.agg #[iv (↑y.id : Int), Value.slice ((y, yb), J4).fst.fst.la y.les.length y.lc, Value.slice ((y, yb), J4).fst.fst.ba y.Z.length y.bc], Value.pointer (some (Addr.mk (blk xx1.snd.fst) (w * (3 : Nat)) none)), Value.slice none (0 : Nat) (0 : Nat), pv xx1.fst 0, Value.slice xx2.fst (σ'.fr (0 : Nat)).length xx2.snd, Value.slice xa1 ([] ++ σ'.fr (0 : Nat)).length xc1, Value.slice xa1 ([] ++ σ'.fr (0 : Nat)).length xc1, pv xx1.fst 0, Value.slice xx3.fst (σ'.fr (1 : Nat)).length xx3.snd, Value.slice xa2 ([] ++ σ'.fr (0 : Nat) ++ σ'.fr (1 : Nat)).length xc2, iv 4, Value.bool false, (((4 : Nat), aa, ac, AL), J3).snd (91 : Nat), (((4 : Nat), aa, ac, AL), J3).snd (92 : Nat), (((4 : Nat), aa, ac, AL), J3).snd (93 : Nat), (((4 : Nat), aa, ac, AL), J3).snd (94 : Nat), (((4 : Nat), aa, ac, AL), J3).snd (95 : Nat), (((4 : Nat), aa, ac, AL), J3).snd (96 : Nat), (((4 : Nat), aa, ac, AL), J3).snd (97 : Nat), (((4 : Nat), aa, ac, AL), J3).snd (98 : Nat), (((4 : Nat), aa, ac, AL), J3).snd (99 : Nat), (((4 : Nat), aa, ac, AL), J3).snd (100 : Nat), (((4 : Nat), aa, ac, AL), J3).snd (101 : Nat), (((4 : Nat), aa, ac, AL), J3).snd (102 : Nat), (((4 : Nat), aa, ac, AL), J3).snd (103 : Nat), (((4 : Nat), aa, ac, AL), J3).snd (104 : Nat), (((4 : Nat), aa, ac, AL), J3).snd (105 : Nat), (((4 : Nat), aa, ac, AL), J3).snd (106 : Nat), (((4 : Nat), aa, ac, AL), J3).snd (107 : Nat), (((4 : Nat), aa, ac, AL), J3).snd (108 : Nat), (((4 : Nat), aa, ac, AL), J3).snd (109 : Nat), (((4 : Nat), aa, ac, AL), J3).snd (110 : Nat), (((4 : Nat), aa, ac, AL), J3).snd (111 : Nat), (((4 : Nat), aa, ac, AL), J3).snd (112 : Nat), (((4 : Nat), aa, ac, AL), J3).snd (113 : Nat), (((4 : Nat), aa, ac, AL), J3).snd (114 : Nat), (((4 : Nat), aa, ac, AL), J3).snd (115 : Nat), (((4 : Nat), aa, ac, AL), J3).snd (116 : Nat), (((4 : Nat), aa, ac, AL), J3).snd (117 : Nat), (((4 : Nat), aa, ac, AL), J3).snd (118 : Nat), (((4 : Nat), aa, ac, AL), J3).snd (119 : Nat), (((4 : Nat), aa, ac, AL), J3).snd (120 : Nat), (((4 : Nat), aa, ac, AL), J3).snd (121 : Nat), (((4 : Nat), aa, ac, AL), J3).snd (122 : Nat), (((4 : Nat), aa, ac, AL), J3).snd (123 : Nat), (((4 : Nat), aa, ac, AL), J3).snd (124 : Nat), (((4 : Nat), aa, ac, AL), J3).snd (125 : Nat), (((4 : Nat), aa, ac, AL), J3).snd (126 : Nat), (((4 : Nat), aa, ac, AL), J3).snd (127 : Nat), (((4 : Nat), aa, ac, AL), J3).snd (128 : Nat), (((4 : Nat), aa, ac, AL), J3).snd (129 : Nat), (((4 : Nat), aa, ac, AL), J3).snd (130 : Nat), iv (↑m : Int), iv ((2 : Int) * (↑m : Int)), Value.slice xa3 xs1.length ((2 : Int) * (↑m : Int)).toNat, iv (↑AL.length : Int), Value.slice aa AL.length ac, iv (↑AL.length : Int), Value.bool (decide ((↑AL.length : Int) < (↑AL.length : Int))), J6 138, J6 139, J6 140, J6 141, J6 142, J6 143, J6 144, J6 145, J6 146, J6 147, J6 148, J6 149, J6 150, J6 151, J6 152, J6 153, J6 154, J6 155, J6 156, J6 157, J6 158, J6 159, J6 160, J6 161, J6 162, J 163, J 164, J 165, J 166, J 167, J 168, J 169, J 170, J 171, J 172, J 173, tu, tu, tu, tu, tu, tu, tu, tu, tu, tu, tu, tu, tu, tu, tu, tu, tu, tu, tu, tu, tu, tu, tu, tu, tu, tu, tu, tu, tu, tu, tu, tu, tu, tu, tu, tu, tu, tu, tu, tu, tu, tu, tu, tu, tu, tu, tu, tu, tu, tu, tu, tu, tu] [6, 163, 164, 165, 166, 167, 168, 169, 170, 171, 172, 173] (((fun t => [(24, .int .i64 (t : Nat))]) : (Nat) → List (Nat × Go.Value)) x.1) x.2) (fun x => ((fun t => [ownS 3 1 (.slice xa3 xs1.length ((2 : Int) * (m : Nat)).toNat) xs1.length (S.map (Value.int .i64)), PoolS xx1.1 σ', recsO 62 3 hdK xx1.2.1 xx1.2.2 H', starL HdS H', A]) : (Nat) → List Go.Sl.HP) x.1) ((0), fun j9 => ([Value.slice a xs.length c, iv quota, iv many, tu, tu, tu, J6 6, iv (↑q : Int), iv (↑m : Int), pv xx1.fst 0, Value.slice xx1.snd.fst H'.length xx1.snd.snd, Value.bool true, iv (↑i : Int), iv (↑w : Int), pv yb 0, Value.bool true, Value.slice aa AL.length ac, iv 4, (((4 : Nat), aa, ac, AL), J3).snd (18 : Nat), (((4 : Nat), aa, ac, AL), J3).snd (19 : Nat), (((4 : Nat), aa, ac, AL), J3).snd (20 : Nat), (((4 : Nat), aa, ac, AL), J3).snd (21 : Nat), Value.slice xa3 xs1.length ((2 : Int) * (↑m : Int)).toNat, iv (↑AL.length : Int), iv 0, tu, tu, tu, tu, tu, tu, iv quota, iv (↑q : Int), iv many, iv (↑(pickN many (6 : Nat)) : Int), iv (↑m : Int), Value.tuple #[pv xx1.fst 0, Value.slice xx1.snd.fst (4 : Nat) xx1.snd.snd, Value.bool true], iv (↑m : Int), iv (↑q : Int), Value.tuple #[pv xx1.fst 0, Value.slice xx1.snd.fst (4 : Nat) xx1.snd.snd, Value.bool true], pv xx1.fst 0, Value.slice xx1.snd.fst (4 : Nat) xx1.snd.snd, Value.bool true, Value.bool true, Value.bool false, iv (↑i : Int), Value.slice a xs.length c, iv (↑xs.length : Int), Value.bool (decide ((↑i : Int) < (↑xs.length : Int))), Value.bool true, iv (↑i : Int), Value.bool true, Value.bool true, J 53, J 54, Value.slice a xs.length c, iv (↑i : Int), Value.pointer (some (Addr.mk (blk a) (offA a + i * (6 : Nat)) none)), Value.pointer (some (Addr.mk (blk a) (offA a + i * (6 : Nat) + (1 : Nat)) none)), iv (xs.getD i default).wh, iv (↑w : Int), J4 61, J4 62, J4 63, J4 64, J4 65, J4 66, J4 67, J4 68, J4 69, J4 70, J4 71, J4 72, J4 73, J4 74, Value.bool true, Value.bool false, Value.slice xx1.snd.fst H.length xx1.snd.snd, iv (↑w : Int), Value.agg #[iv (↑y.id : Int), Value.slice ((y, yb), J4).fst.fst.la y.les.length y.lc, Value.slice ((y, yb), J4).fst.fst.ba y.Z.length y.bc], Value.pointer (some (Addr.mk (blk xx1.snd.fst) (w * (3 : Nat)) none)), Value.slice none (0 : Nat) (0 : Nat), pv xx1.fst 0, Value.slice xx2.fst (σ'.fr (0 : Nat)).length xx2.snd, Value.slice xa1 ([] ++ σ'.fr (0 : Nat)).length xc1, Value.slice xa1 ([] ++ σ'.fr (0 : Nat)).length xc1, pv xx1.fst 0, Value.slice xx3.fst (σ'.fr (1 : Nat)).length xx3.snd, Value.slice xa2 ([] ++ σ'.fr (0 : Nat) ++ σ'.fr (1 : Nat)).length xc2, iv 4, Value.bool false, (((4 : Nat), aa, ac, AL), J3).snd (91 : Nat), (((4 : Nat), aa, ac, AL), J3).snd (92 : Nat), (((4 : Nat), aa, ac, AL), J3).snd (93 : Nat), (((4 : Nat), aa, ac, AL), J3).snd (94 : Nat), (((4 : Nat), aa, ac, AL), J3).snd (95 : Nat), (((4 : Nat), aa, ac, AL), J3).snd (96 : Nat), (((4 : Nat), aa, ac, AL), J3).snd (97 : Nat), (((4 : Nat), aa, ac, AL), J3).snd (98 : Nat), (((4 : Nat), aa, ac, AL), J3).snd (99 : Nat), (((4 : Nat), aa, ac, AL), J3).snd (100 : Nat), (((4 : Nat), aa, ac, AL), J3).snd (101 : Nat), (((4 : Nat), aa, ac, AL), J3).snd (102 : Nat), (((4 : Nat), aa, ac, AL), J3).snd (103 : Nat), (((4 : Nat), aa, ac, AL), J3).snd (104 : Nat), (((4 : Nat), aa, ac, AL), J3).snd (105 : Nat), (((4 : Nat), aa, ac, AL), J3).snd (106 : Nat), (((4 : Nat), aa, ac, AL), J3).snd (107 : Nat), (((4 : Nat), aa, ac, AL), J3).snd (108 : Nat), (((4 : Nat), aa, ac, AL), J3).snd (109 : Nat), (((4 : Nat), aa, ac, AL), J3).snd (110 : Nat), (((4 : Nat), aa, ac, AL), J3).snd (111 : Nat), (((4 : Nat), aa, ac, AL), J3).snd (112 : Nat), (((4 : Nat), aa, ac, AL), J3).snd (113 : Nat), (((4 : Nat), aa, ac, AL), J3).snd (114 : Nat), (((4 : Nat), aa, ac, AL), J3).snd (115 : Nat), (((4 : Nat), aa, ac, AL), J3).snd (116 : Nat), (((4 : Nat), aa, ac, AL), J3).snd (117 : Nat), (((4 : Nat), aa, ac, AL), J3).snd (118 : Nat), (((4 : Nat), aa, ac, AL), J3).snd (119 : Nat), (((4 : Nat), aa, ac, AL), J3).snd (120 : Nat), (((4 : Nat), aa, ac, AL), J3).snd (121 : Nat), (((4 : Nat), aa, ac, AL), J3).snd (122 : Nat), (((4 : Nat), aa, ac, AL), J3).snd (123 : Nat), (((4 : Nat), aa, ac, AL), J3).snd (124 : Nat), (((4 : Nat), aa, ac, AL), J3).snd (125 : Nat), (((4 : Nat), aa, ac, AL), J3).snd (126 : Nat), (((4 : Nat), aa, ac, AL), J3).snd (127 : Nat), (((4 : Nat), aa, ac, AL), J3).snd (128 : Nat), (((4 : Nat), aa, ac, AL), J3).snd (129 : Nat), (((4 : Nat), aa, ac, AL), J3).snd (130 : Nat), iv (↑m : Int), iv ((2 : Int) * (↑m : Int)), Value.slice xa3 xs1.length ((2 : Int) * (↑m : Int)).toNat, iv (↑AL.length : Int), Value.slice aa AL.length ac, iv (↑AL.length : Int), Value.bool (decide ((↑AL.length : Int) < (↑AL.length : Int))), J6 138, J6 139, J6 140, J6 141, J6 142, J6 143, J6 144, J6 145, J6 146, J6 147, J6 148, J6 149, J6 150, J6 151, J6 152, J6 153, J6 154, J6 155, J6 156, J6 157, J6 158, J6 159, J6 160, J6 161, J6 162, J 163, J 164, J 165, J 166, J 167, J 168, J 169, J 170, J 171, J 172, J 173, tu, tu, tu, tu, tu, tu, tu, tu, tu, tu, tu, tu, tu, tu, tu, tu, tu, tu, tu, tu, tu, tu, tu, tu, tu, tu, tu, tu, tu, tu, tu, tu, tu, tu, tu, tu, tu, tu, tu, tu, tu, tu, tu, tu, tu, tu, tu, tu, tu, tu, tu, tu, tu] : List Value).getD j9 undef) (by kernel_rfl) (by kernel_rfl) ?_ ?_)
        · exact Nat.zero_le _
        rintro ⟨t, J7⟩ ht ih7
        dsimp only at ht
        (focus
          refine Xg.At.same (T' := [Value.slice a xs.length c, iv quota, iv many, tu, tu, tu, J7 6, iv (↑q : Int), iv (↑m : Int), pv xx1.fst 0, Value.slice xx1.snd.fst H'.length xx1.snd.snd, Value.bool true, iv (↑i : Int), iv (↑w : Int), pv yb 0, Value.bool true, Value.slice aa AL.length ac, iv 4, (((4 : Nat), aa, ac, AL), J3).snd (18 : Nat), (((4 : Nat), aa, ac, AL), J3).snd (19 : Nat), (((4 : Nat), aa, ac, AL), J3).snd (20 : Nat), (((4 : Nat), aa, ac, AL), J3).snd (21 : Nat), Value.slice xa3 xs1.length ((2 : Int) * (↑m : Int)).toNat, iv (↑AL.length : Int), iv (↑t : Int), tu, tu, tu, tu, tu, tu, iv quota, iv (↑q : Int), iv many, iv (↑(pickN many (6 : Nat)) : Int), iv (↑m : Int), Value.tuple #[pv xx1.fst 0, Value.slice xx1.snd.fst (4 : Nat) xx1.snd.snd, Value.bool true], iv (↑m : Int), iv (↑q : Int), Value.tuple #[pv xx1.fst 0, Value.slice xx1.snd.fst (4 : Nat) xx1.snd.snd, Value.bool true], pv xx1.fst 0, Value.slice xx1.snd.fst (4 : Nat) xx1.snd.snd, Value.bool true, Value.bool true, Value.bool false, iv (↑i : Int), Value.slice a xs.length c, iv (↑xs.length : Int), Value.bool (decide ((↑i : Int) < (↑xs.length : Int))), Value.bool true, iv (↑i : Int), Value.bool true, Value.bool true, J 53, J 54, Value.slice a xs.length c, iv (↑i : Int), Value.pointer (some (Addr.mk (blk a) (offA a + i * (6 : Nat)) none)), Value.pointer (some (Addr.mk (blk a) (offA a + i * (6 : Nat) + (1 : Nat)) none)), iv (xs.getD i default).wh, iv (↑w : Int), J4 61, J4 62, J4 63, J4 64, J4 65, J4 66, J4 67, J4 68, J4 69, J4 70, J4 71, J4 72, J4 73, J4 74, Value.bool true, Value.bool false, Value.slice xx1.snd.fst H.length xx1.snd.snd, iv (↑w : Int), Value.agg #[iv (↑y.id : Int), Value.slice ((y, yb), J4).fst.fst.la y.les.length y.lc, Value.slice ((y, yb), J4).fst.fst.ba y.Z.length y.bc], Value.pointer (some (Addr.mk (blk xx1.snd.fst) (w * (3 : Nat)) none)), Value.slice none (0 : Nat) (0 : Nat), pv xx1.fst 0, Value.slice xx2.fst (σ'.fr (0 : Nat)).length xx2.snd, Value.slice xa1 ([] ++ σ'.fr (0 : Nat)).length xc1, Value.slice xa1 ([] ++ σ'.fr (0 : Nat)).length xc1, pv xx1.fst 0, Value.slice xx3.fst (σ'.fr (1 : Nat)).length xx3.snd, Value.slice xa2 ([] ++ σ'.fr (0 : Nat) ++ σ'.fr (1 : Nat)).length xc2, iv 4, Value.bool false, (((4 : Nat), aa, ac, AL), J3).snd (91 : Nat), (((4 : Nat), aa, ac, AL), J3).snd (92 : Nat), (((4 : Nat), aa, ac, AL), J3).snd (93 : Nat), (((4 : Nat), aa, ac, AL), J3).snd (94 : Nat), (((4 : Nat), aa, ac, AL), J3).snd (95 : Nat), (((4 : Nat), aa, ac, AL), J3).snd (96 : Nat), (((4 : Nat), aa, ac, AL), J3).snd (97 : Nat), (((4 : Nat), aa, ac, AL), J3).snd (98 : Nat), (((4 : Nat), aa, ac, AL), J3).snd (99 : Nat), (((4 : Nat), aa, ac, AL), J3).snd (100 : Nat), (((4 : Nat), aa, ac, AL), J3).snd (101 : Nat), (((4 : Nat), aa, ac, AL), J3).snd (102 : Nat), (((4 : Nat), aa, ac, AL), J3).snd (103 : Nat), (((4 : Nat), aa, ac, AL), J3).snd (104 : Nat), (((4 : Nat), aa, ac, AL), J3).snd (105 : Nat), (((4 : Nat), aa, ac, AL), J3).snd (106 : Nat), (((4 : Nat), aa, ac, AL), J3).snd (107 : Nat), (((4 : Nat), aa, ac, AL), J3).snd (108 : Nat), (((4 : Nat), aa, ac, AL), J3).snd (109 : Nat), (((4 : Nat), aa, ac, AL), J3).snd (110 : Nat), (((4 : Nat), aa, ac, AL), J3).snd (111 : Nat), (((4 : Nat), aa, ac, AL), J3).snd (112 : Nat), (((4 : Nat), aa, ac, AL), J3).snd (113 : Nat), (((4 : Nat), aa, ac, AL), J3).snd (114 : Nat), (((4 : Nat), aa, ac, AL), J3).snd (115 : Nat), (((4 : Nat), aa, ac, AL), J3).snd (116 : Nat), (((4 : Nat), aa, ac, AL), J3).snd (117 : Nat), (((4 : Nat), aa, ac, AL), J3).snd (118 : Nat), (((4 : Nat), aa, ac, AL), J3).snd (119 : Nat), (((4 : Nat), aa, ac, AL), J3).snd (120 : Nat), (((4 : Nat), aa, ac, AL), J3).snd (121 : Nat), (((4 : Nat), aa, ac, AL), J3).snd (122 : Nat), (((4 : Nat), aa, ac, AL), J3).snd (123 : Nat), (((4 : Nat), aa, ac, AL), J3).snd (124 : Nat), (((4 : Nat), aa, ac, AL), J3).snd (125 : Nat), (((4 : Nat), aa, ac, AL), J3).snd (126 : Nat), (((4 : Nat), aa, ac, AL), J3).snd (127 : Nat), (((4 : Nat), aa, ac, AL), J3).snd (128 : Nat), (((4 : Nat), aa, ac, AL), J3).snd (129 : Nat), (((4 : Nat), aa, ac, AL), J3).snd (130 : Nat), iv (↑m : Int), iv ((2 : Int) * (↑m : Int)), Value.slice xa3 xs1.length ((2 : Int) * (↑m : Int)).toNat, iv (↑AL.length : Int), Value.slice aa AL.length ac, iv (↑AL.length : Int), Value.bool (decide ((↑AL.length : Int) < (↑AL.length : Int))), J6 138, J6 139, J6 140, J6 141, J6 142, J6 143, J6 144, J6 145, J6 146, J6 147, J6 148, J6 149, J6 150, J6 151, J6 152, J6 153, J6 154, J6 155, J6 156, J6 157, J6 158, J6 159, J6 160, J6 161, J6 162, J7 163, J7 164, J7 165, J7 166, J7 167, J7 168, J7 169, J7 170, J7 171, J7 172, J7 173, tu, tu, tu, tu, tu, tu, tu, tu, tu, tu, tu, tu, tu, tu, tu, tu, tu, tu, tu, tu, tu, tu, tu, tu, tu, tu, tu, tu, tu, tu, tu, tu, tu, tu, tu, tu, tu, tu, tu, tu, tu, tu, tu, tu, tu, tu, tu, tu, tu, tu, tu, tu, tu]) (L' := [ownS (3 : TypeId) (1 : Nat) (Value.slice xa3 xs1.length ((2 : Int) * (↑m : Int)).toNat) xs1.length (List.map (Value.int IntKind.i64) S), PoolS xx1.fst σ', recsO (62 : Nat) (3 : Nat) hdK xx1.snd.fst xx1.snd.snd H', starL HdS H', A]) (by kernel_rfl) rfl ?_)
        by_cases htl : t < 2 * m
        · have hS1 := hS.2 t htl
          rw [hcnt t htl] at hS1
          have hS1 : S.getD t 0 = 1 := hS1
          (focus
            refine Xg.at_seq ?_
            refine Xg.at_seq ?_
            refine Xg.at_region ?_
            refine Xg.ops_op (by kernel_rfl) (Xg.opx_pure ((iv (↑t : Int))) rfl (fun _ => by kernel_rfl) ?_)
            refine Xg.ops_op (by kernel_rfl) (Xg.opx_pure ((iv (↑m : Int))) rfl (fun _ => by kernel_rfl) ?_)
            refine Xg.ops_op (by kernel_rfl) (Xg.opx_int .i64 (IntKind.wrap .i64 (((2 : Int) * (↑m : Int)))) rfl (fun _ => by kernel_rfl) (Xg.wrap_i64_in (by omega)) ?_)
            refine Xg.ops_op (by kernel_rfl) (Xg.opx_pure (.bool (decide ((((↑t : Int)) : Int) < ((2 : Int) * (↑m : Int))))) rfl (fun _ => by kernel_rfl) ?_)
            refine Xg.ops_nil ?_
            refine Xg.at_true (t := decide (((↑t : Int) < (2 : Int) * (↑m : Int)))) (by kernel_rfl) (decide_eq_true (by omega)) ?_
            refine Xg.at_skip ?_
            refine Xg.at_seq ?_
            refine Xg.at_block ?_
            refine Xg.at_seq ?_
            refine Xg.at_region ?_
            refine Xg.ops_op (by kernel_rfl) (Xg.opx_pure ((Value.slice xa3 xs1.length ((2 : Int) * (↑m : Int)).toNat)) rfl (fun _ => by kernel_rfl) ?_)
            refine Xg.ops_op (by kernel_rfl) (Xg.opx_pure ((iv (↑t : Int))) rfl (fun _ => by kernel_rfl) ?_)
            refine Xg.ops_op (by kernel_rfl) (Xg.opx_ix_own (elem := 3) (kd := .i64) (e := ((↑t : Int))) 0 1 t t rfl (by kernel_rfl) (by kernel_rfl) (by kernel_rfl) (by kernel_rfl) rfl (by omega) (by omega) ?_)
            refine Xg.ops_op (by kernel_rfl) (Xg.opx_load_own (a := xa3) (off := t) 0 (iv (S.getD t (0 : Int))) rfl (by kernel_rfl) (Xg.get_ints (by omega)) (by kernel_rfl) ?_)
            refine Xg.ops_op (by kernel_rfl) (Xg.opx_pure (.bool (!decide (((S.getD t (0 : Int)) : Int) = ((1 : Int))))) rfl (fun _ => by kernel_rfl) ?_)
            refine Xg.ops_nil ?_
            refine Xg.at_false (t := !decide ((S.getD t (0 : Int) = (1 : Int)))) (by kernel_rfl) (by rw [decide_eq_true (by omega)]; rfl) ?_
            refine Xg.at_skip ?_
            refine Xg.at_inBlock ?_
            refine Xg.at_region ?_
            refine Xg.ops_op (by kernel_rfl) (Xg.opx_pure ((iv (↑t : Int))) rfl (fun _ => by kernel_rfl) ?_)
            refine Xg.ops_op (by kernel_rfl) (Xg.opx_int .i64 (IntKind.wrap .i64 (((↑t : Int) + (1 : Int)))) rfl (fun _ => by kernel_rfl) (Xg.wrap_i64_in (by omega)) ?_)
            refine Xg.ops_op (by kernel_rfl) (Xg.opx_pure ((iv ((↑t : Int) + (1 : Int)))) rfl (fun _ => by kernel_rfl) ?_)
            refine Xg.ops_nil ?_
            refine Xg.at_inLoop ?_)
          (focus
            refine Xg.at_keep [0, 1, 2, 3, 4] (by kernel_rfl) ?_
            refine Xs.same ?_ (fun J9 => ih7 (((t + 1)), J9) ?_ ?_) (by kernel_rfl))
          · rfl
          · exact htl
          · dsimp only; omega
        · clear ih7
          refine at_reslot 10 (.slice xx1.2.1 4 xx1.2.2) (.slice xx1.2.1 H'.length xx1.2.2) (by kernel_rfl) (by rw [hl4']) ?_
          (focus
            refine Xg.at_seq ?_
            refine Xg.at_seq ?_
            refine Xg.at_region ?_
            refine Xg.ops_op (by kernel_rfl) (Xg.opx_pure ((iv (↑t : Int))) rfl (fun _ => by kernel_rfl) ?_)
            refine Xg.ops_op (by kernel_rfl) (Xg.opx_pure ((iv (↑m : Int))) rfl (fun _ => by kernel_rfl) ?_)
            refine Xg.ops_op (by kernel_rfl) (Xg.opx_int .i64 (IntKind.wrap .i64 (((2 : Int) * (↑m : Int)))) rfl (fun _ => by kernel_rfl) (Xg.wrap_i64_in (by omega)) ?_)
            refine Xg.ops_op (by kernel_rfl) (Xg.opx_pure (.bool (decide ((((↑t : Int)) : Int) < ((2 : Int) * (↑m : Int))))) rfl (fun _ => by kernel_rfl) ?_)
            refine Xg.ops_nil ?_
            refine Xg.at_false (t := decide (((↑t : Int) < (2 : Int) * (↑m : Int)))) (by kernel_rfl) (decide_eq_false (by omega)) ?_
            refine Xg.at_exit rfl ?_
            refine Xg.at_inBlock ?_
            refine Xg.at_region ?_
            refine Xg.ops_op (by kernel_rfl) (Xg.opx_pure ((iv (↑i : Int))) rfl (fun _ => by kernel_rfl) ?_)
            refine Xg.ops_op (by kernel_rfl) (Xg.opx_int .i64 (IntKind.wrap .i64 (((↑i : Int) + (1 : Int)))) rfl (fun _ => by kernel_rfl) (Xg.wrap_i64_in (by omega)) ?_)
            refine Xg.ops_op (by kernel_rfl) (Xg.opx_pure ((iv ((↑i : Int) + (1 : Int)))) rfl (fun _ => by kernel_rfl) ?_)
            refine Xg.ops_nil ?_
            refine Xg.at_inLoop ?_)
          (focus
            refine Xg.at_keep [1, 2, 3, 4] (by kernel_rfl) ?_
            refine Xs.same ?_ (fun J9 => ih (((i + 1, σ', H')), J9) ?_ ?_) (by kernel_rfl))
          · rfl
          · exact ⟨hlt, hlt8, hH2⟩
          · dsimp only; omega
  · clear ih
    have hC := CI.start hH.p2
    by_cases h8 : i < xs.length
    · obtain rfl : i = 120 := by omega
      refine at_reslot 10 (.slice xx1.2.1 H.length xx1.2.2) (.slice xx1.2.1 4 xx1.2.2) (by kernel_rfl) (by rw [hl4]) ?_
      (focus
        refine Xg.at_seq ?_
        refine Xg.at_seq ?_
        refine Xg.at_region ?_
        refine Xg.ops_op (by kernel_rfl) (Xg.opx_pure ((iv 120)) rfl (fun _ => by kernel_rfl) ?_)
        refine Xg.ops_op (by kernel_rfl) (Xg.opx_pure ((Value.slice a xs.length c)) rfl (fun _ => by kernel_rfl) ?_)
        refine Xg.ops_op (by kernel_rfl) (Xg.opx_pure ((iv (↑xs.length : Int))) rfl (fun _ => by kernel_rfl) ?_)
        refine Xg.ops_op (by kernel_rfl) (Xg.opx_pure (.bool (decide ((((120 : Int)) : Int) < ((↑xs.length : Int))))) rfl (fun _ => by kernel_rfl) ?_)
        refine Xg.ops_op (by kernel_rfl) (Xg.opx_pure ((Value.bool (decide ((120 : Int) < (↑xs.length : Int))))) rfl (fun _ => by kernel_rfl) ?_)
        refine Xg.ops_flag (j := 49) (c := (decide ((120 : Int) < (↑xs.length : Int)))) (by kernel_rfl) (fun _ => ?_) (fun xh2 => absurd (of_decide_eq_false xh2) (by omega))
        refine Xg.ops_op (by kernel_rfl) (Xg.opx_pure ((iv 120)) rfl (fun _ => by kernel_rfl) ?_)
        refine Xg.ops_op (by kernel_rfl) (Xg.opx_pure ((Value.bool false)) rfl (fun _ => by kernel_rfl) ?_)
        refine Xg.ops_op (by kernel_rfl) (Xg.opx_pure ((Value.bool false)) rfl (fun _ => by kernel_rfl) ?_)
        refine Xg.ops_nil ?_
        refine Xg.at_false (t := false) (by kernel_rfl) rfl ?_
        refine Xg.at_exit rfl ?_
        refine Xg.at_seq ?_
        refine Xg.at_seq ?_
        refine Xg.at_region ?_
        refine Xg.ops_op (by kernel_rfl) (Xg.opx_pure ((iv 0)) rfl (fun _ => by kernel_rfl) ?_)
        refine Xg.ops_nil ?_
        refine Xg.at_block ?_)
      (focus
        refine Xg.at_keep [0, 1, 3] (by kernel_rfl) ?_
        refine Xg.at_rounds_inv (α := (Nat × Po) × (Nat → Value)) (fun x => ((fun x => x.1 ≤ 4 ∧ CI m x.1 x.2) : (Nat × Po) → Prop) x.1) (fun x => ((fun x => 4 - x.1) : (Nat × Po) → Nat) x.1) (fun x => Xg.headT [Value.slice a xs.length c, iv quota, iv many, tu, tu, tu, (((120 : Nat), σ, H), J).snd (6 : Nat), iv (↑q : Int), iv (↑m : Int), pv xx1.fst 0, Value.slice xx1.snd.fst H.length xx1.snd.snd, Value.bool true, iv 120, (((120 : Nat), σ, H), J).snd (13 : Nat), (((120 : Nat), σ, H), J).snd (14 : Nat), (((120 : Nat), σ, H), J).snd (15 : Nat), (((120 : Nat), σ, H), J).snd (16 : Nat), (((120 : Nat), σ, H), J).snd (17 : Nat), (((120 : Nat), σ, H), J).snd (18 : Nat), (((120 : Nat), σ, H), J).snd (19 : Nat), (((120 : Nat), σ, H), J).snd (20 : Nat), (((120 : Nat), σ, H), J).snd (21 : Nat), (((120 : Nat), σ, H), J).snd (22 : Nat), (((120 : Nat), σ, H), J).snd (23 : Nat), (((120 : Nat), σ, H), J).snd (24 : Nat), iv 0, tu, tu, tu, tu, tu, iv quota, iv (↑q : Int), iv many, iv (↑(pickN many (6 : Nat)) : Int), iv (↑m : Int), Value.tuple #[pv xx1.fst 0, Value.slice xx1.snd.fst (4 : Nat) xx1.snd.snd, Value.bool true], iv (↑m : Int), iv (↑q : Int), Value.tuple #[pv xx1.fst 0, Value.slice xx1.snd.fst (4 : Nat) xx1.snd.snd, Value.bool true], pv xx1.fst 0, Value.slice xx1.snd.fst (4 : Nat) xx1.snd.snd, Value.bool true, Value.bool true, Value.bool false, iv 120, Value.slice a xs.length c, iv (↑xs.length : Int), Value.bool (decide ((120 : Int) < (↑xs.length : Int))), Value.bool true, iv 120, Value.bool false, Value.bool false, (((120 : Nat), σ, H), J).snd (53 : Nat), (((120 : Nat), σ, H), J).snd (54 : Nat), (((120 : Nat), σ, H), J).snd (55 : Nat), (((120 : Nat), σ, H), J).snd (56 : Nat), (((120 : Nat), σ, H), J).snd (57 : Nat), (((120 : Nat), σ, H), J).snd (58 : Nat), (((120 : Nat), σ, H), J).snd (59 : Nat), (((120 : Nat), σ, H), J).snd (60 : Nat), (((120 : Nat), σ, H), J).snd (61 : Nat), (((120 : Nat), σ, H), J).snd (62 : Nat), (((120 : Nat), σ, H), J).snd (63 : Nat), (((120 : Nat), σ, H), J).snd (64 : Nat), (((120 : Nat), σ, H), J).snd (65 : Nat), (((120 : Nat), σ, H), J).snd (66 : Nat), (((120 : Nat), σ, H), J).snd (67 : Nat), (((120 : Nat), σ, H), J).snd (68 : Nat), (((120 : Nat), σ, H), J).snd (69 : Nat), (((120 : Nat), σ, H), J).snd (70 : Nat), (((120 : Nat), σ, H), J).snd (71 : Nat), (((120 : Nat), σ, H), J).snd (72 : Nat), (((120 : Nat), σ, H), J).snd (73 : Nat), (((120 : Nat), σ, H), J).snd (74 : Nat), (((120 : Nat), σ, H), J).snd (75 : Nat), (((120 : Nat), σ, H), J).snd (76 : Nat), (((120 : Nat), σ, H), J).snd (77 : Nat), (((120 : Nat), σ, H), J).snd (78 : Nat), (((120 : Nat), σ, H), J).snd (79 : Nat), (((120 : Nat), σ, H), J).snd (80 : Nat), (((120 : Nat), σ, H), J).snd (81 : Nat), (((120 : Nat), σ, H), J).snd (82 : Nat), (((120 : Nat), σ, H), J).snd (83 : Nat), (((120 : Nat), σ, H), J).snd (84 : Nat), (((120 : Nat), σ, H), J).snd (85 : Nat), (((120 : Nat), σ, H), J).snd (86 : Nat), (((120 : Nat), σ, H), J).snd (87 : Nat), (((120 : Nat), σ, H), J).snd (88 : Nat), (((120 : Nat), σ, H), J).snd (89 : Nat), (((120 : Nat), σ, H), J).snd (90 : Nat), (((120 : Nat), σ, H), J).snd (91 : Nat), (((120 : Nat), σ, H), J).snd (92 : Nat), (((120 : Nat), σ, H), J).snd (93 : Nat), (((120 : Nat), σ, H), J).snd (94 : Nat), (((120 : Nat), σ, H), J).snd (95 : Nat), (((120 : Nat), σ, H), J).snd (96 : Nat), (((120 : Nat), σ, H), J).snd (97 : Nat), (((120 : Nat), σ, H), J).snd (98 : Nat), (((120 : Nat), σ, H), J).snd (99 : Nat), (((120 : Nat), σ, H), J).snd (100 : Nat), (((120 : Nat), σ, H), J).snd (101 : Nat), (((120 : Nat), σ, H), J).snd (102 : Nat), (((120 : Nat), σ, H), J).snd (103 : Nat), (((120 : Nat), σ, H), J).snd (104 : Nat), (((120 : Nat), σ, H), J).snd (105 : Nat), (((120 : Nat), σ, H), J).snd (106 : Nat), (((120 : Nat), σ, H), J).snd (107 : Nat), (((120 : Nat), σ, H), J).snd (108 : Nat), (((120 : Nat), σ, H), J).snd (109 : Nat), (((120 : Nat), σ, H), J).snd (110 : Nat), (((120 : Nat), σ, H), J).snd (111 : Nat), (((120 : Nat), σ, H), J).snd (112 : Nat), (((120 : Nat), σ, H), J).snd (113 : Nat), (((120 : Nat), σ, H), J).snd (114 : Nat), (((120 : Nat), σ, H), J).snd (115 : Nat), (((120 : Nat), σ, H), J).snd (116 : Nat), (((120 : Nat), σ, H), J).snd (117 : Nat), (((120 : Nat), σ, H), J).snd (118 : Nat), (((120 : Nat), σ, H), J).snd (119 : Nat), (((120 : Nat), σ, H), J).snd (120 : Nat), (((120 : Nat), σ, H), J).snd (121 : Nat), (((120 : Nat), σ, H), J).snd (122 : Nat), (((120 : Nat), σ, H), J).snd (123 : Nat), (((120 : Nat), σ, H), J).snd (124 : Nat), (((120 : Nat), σ, H), J).snd (125 : Nat), (((120 : Nat), σ, H), J).snd (126 : Nat), (((120 : Nat), σ, H), J).snd (127 : Nat), (((120 : Nat), σ, H), J).snd (128 : Nat), (((120 : Nat), σ, H), J).snd (129 : Nat), (((120 : Nat), σ, H), J).snd (130 : Nat), (((120 : Nat), σ, H), J).snd (131 : Nat), (((120 : Nat), σ, H), J).snd (132 : Nat), (((120 : Nat), σ, H), J).snd (133 : Nat), (((120 : Nat), σ, H), J).snd (134 : Nat), (((120 : Nat), σ, H), J).snd (135 : Nat), (((120 : Nat), σ, H), J).snd (136 : Nat), (((120 : Nat), σ, H), J).snd (137 : Nat), (((120 : Nat), σ, H), J).snd (138 : Nat), (((120 : Nat), σ, H), J).snd (139 : Nat), (((120 : Nat), σ, H), J).snd (140 : Nat), (((120 : Nat), σ, H), J).snd (141 : Nat), (((120 : Nat), σ, H), J).snd (142 : Nat), (((120 : Nat), σ, H), J).snd (143 : Nat), (((120 : Nat), σ, H), J).snd (144 : Nat), (((120 : Nat), σ, H), J).snd (145 : Nat), (((120 : Nat), σ, H), J).snd (146 : Nat), (((120 : Nat), σ, H), J).snd (147 : Nat), (((120 : Nat), σ, H), J).snd (148 : Nat), (((120 : Nat), σ, H), J).snd (149 : Nat), (((120 : Nat), σ, H), J).snd (150 : Nat), (((120 : Nat), σ, H), J).snd (151 : Nat), (((120 : Nat), σ, H), J).snd (152 : Nat), (((120 : Nat), σ, H), J).snd (153 : Nat), (((120 : Nat), σ, H), J).snd (154 : Nat), (((120 : Nat), σ, H), J).snd (155 : Nat), (((120 : Nat), σ, H), J).snd (156 : Nat), (((120 : Nat), σ, H), J).snd (157 : Nat), (((120 : Nat), σ, H), J).snd (158 : Nat), (((120 : Nat), σ, H), J).snd (159 : Nat), (((120 : Nat), σ, H), J).snd (160 : Nat), (((120 : Nat), σ, H), J).snd (161 : Nat), (((120 : Nat), σ, H), J).snd (162 : Nat), (((120 : Nat), σ, H), J).snd (163 : Nat), (((120 : Nat), σ, H), J).snd (164 : Nat), (((120 : Nat), σ, H), J).snd (165 : Nat), (((120 : Nat), σ, H), J).snd (166 : Nat), (((120 : Nat), σ, H), J).snd (167 : Nat), (((120 : Nat), σ, H), J).snd (168 : Nat), (((120 : Nat), σ, H), J).snd (169 : Nat), (((120 : Nat), σ, H), J).snd (170 : Nat), (((120 : Nat), σ, H), J).snd (171 : Nat), (((120 : Nat), σ, H), J).snd (172 : Nat), (((120 : Nat), σ, H), J).snd (173 : Nat), tu, tu, tu, tu, tu, tu, tu, tu, tu, tu, tu, tu, tu, tu, tu, tu, tu, tu, tu, tu, tu, tu, tu, tu, tu, tu, tu, tu, tu, tu, tu, tu, tu, tu, tu, tu, tu, tu, tu, tu, tu, tu, tu, tu, tu, tu, tu, tu, tu, tu, tu, tu, tu] [6, 26, 27, 174, 175, 176, 177, 178, 179, 180, 181, 182, 183, 184, 185, 186, 187, 188, 189] (((fun x => [(25, .int .i64 (x.1 : Nat))]) : (Nat × Po) → List (Nat × Go.Value)) x.1) x.2) (fun x => ((fun x => [PoolS xx1.1 x.2, recsO 62 3 hdK xx1.2.1 xx1.2.2 H, A]) : (Nat × Po) → List Go.Sl.HP) x.1) (((0, σ)), fun j9 => ([Value.slice a xs.length c, iv quota, iv many, tu, tu, tu, (((120 : Nat), σ, H), J).snd (6 : Nat), iv (↑q : Int), iv (↑m : Int), pv xx1.fst 0, Value.slice xx1.snd.fst H.length xx1.snd.snd, Value.bool true, iv 120, (((120 : Nat), σ, H), J).snd (13 : Nat), (((120 : Nat), σ, H), J).snd (14 : Nat), (((120 : Nat), σ, H), J).snd (15 : Nat), (((120 : Nat), σ, H), J).snd (16 : Nat), (((120 : Nat), σ, H), J).snd (17 : Nat), (((120 : Nat), σ, H), J).snd (18 : Nat), (((120 : Nat), σ, H), J).snd (19 : Nat), (((120 : Nat), σ, H), J).snd (20 : Nat), (((120 : Nat), σ, H), J).snd (21 : Nat), (((120 : Nat), σ, H), J).snd (22 : Nat), (((120 : Nat), σ, H), J).snd (23 : Nat), (((120 : Nat), σ, H), J).snd (24 : Nat), iv 0, tu, tu, tu, tu, tu, iv quota, iv (↑q : Int), iv many, iv (↑(pickN many (6 : Nat)) : Int), iv (↑m : Int), Value.tuple #[pv xx1.fst 0, Value.slice xx1.snd.fst (4 : Nat) xx1.snd.snd, Value.bool true], iv (↑m : Int), iv (↑q : Int), Value.tuple #[pv xx1.fst 0, Value.slice xx1.snd.fst (4 : Nat) xx1.snd.snd, Value.bool true], pv xx1.fst 0, Value.slice xx1.snd.fst (4 : Nat) xx1.snd.snd, Value.bool true, Value.bool true, Value.bool false, iv 120, Value.slice a xs.length c, iv (↑xs.length : Int), Value.bool (decide ((120 : Int) < (↑xs.length : Int))), Value.bool true, iv 120, Value.bool false, Value.bool false, (((120 : Nat), σ, H), J).snd (53 : Nat), (((120 : Nat), σ, H), J).snd (54 : Nat), (((120 : Nat), σ, H), J).snd (55 : Nat), (((120 : Nat), σ, H), J).snd (56 : Nat), (((120 : Nat), σ, H), J).snd (57 : Nat), (((120 : Nat), σ, H), J).snd (58 : Nat), (((120 : Nat), σ, H), J).snd (59 : Nat), (((120 : Nat), σ, H), J).snd (60 : Nat), (((120 : Nat), σ, H), J).snd (61 : Nat), (((120 : Nat), σ, H), J).snd (62 : Nat), (((120 : Nat), σ, H), J).snd (63 : Nat), (((120 : Nat), σ, H), J).snd (64 : Nat), (((120 : Nat), σ, H), J).snd (65 : Nat), (((120 : Nat), σ, H), J).snd (66 : Nat), (((120 : Nat), σ, H), J).snd (67 : Nat), (((120 : Nat), σ, H), J).snd (68 : Nat), (((120 : Nat), σ, H), J).snd (69 : Nat), (((120 : Nat), σ, H), J).snd (70 : Nat), (((120 : Nat), σ, H), J).snd (71 : Nat), (((120 : Nat), σ, H), J).snd (72 : Nat), (((120 : Nat), σ, H), J).snd (73 : Nat), (((120 : Nat), σ, H), J).snd (74 : Nat), (((120 : Nat), σ, H), J).snd (75 : Nat), (((120 : Nat), σ, H), J).snd (76 : Nat), (((120 : Nat), σ, H), J).snd (77 : Nat), (((120 : Nat), σ, H), J).snd (78 : Nat), (((120 : Nat), σ, H), J).snd (79 : Nat), (((120 : Nat), σ, H), J).snd (80 : Nat), (((120 : Nat), σ, H), J).snd (81 : Nat), (((120 : Nat), σ, H), J).snd (82 : Nat), (((120 : Nat), σ, H), J).snd (83 : Nat), (((120 : Nat), σ, H), J).snd (84 : Nat), (((120 : Nat), σ, H), J).snd (85 : Nat), (((120 : Nat), σ, H), J).snd (86 : Nat), (((120 : Nat), σ, H), J).snd (87 : Nat), (((120 : Nat), σ, H), J).snd (88 : Nat), (((120 : Nat), σ, H), J).snd (89 : Nat), (((120 : Nat), σ, H), J).snd (90 : Nat), (((120 : Nat), σ, H), J).snd (91 : Nat), (((120 : Nat), σ, H), J).snd (92 : Nat), (((120 : Nat), σ, H), J).snd (93 : Nat), (((120 : Nat), σ, H), J).snd (94 : Nat), (((120 : Nat), σ, H), J).snd (95 : Nat), (((120 : Nat), σ, H), J).snd (96 : Nat), (((120 : Nat), σ, H), J).snd (97 : Nat), (((120 : Nat), σ, H), J).snd (98 : Nat), (((120 : Nat), σ, H), J).snd (99 : Nat), (((120 : Nat), σ, H), J).snd (100 : Nat), (((120 : Nat), σ, H), J).snd (101 : Nat), (((120 : Nat), σ, H), J).snd (102 : Nat), (((120 : Nat), σ, H), J).snd (103 : Nat), (((120 : Nat), σ, H), J).snd (104 : Nat), (((120 : Nat), σ, H), J).snd (105 : Nat), (((120 : Nat), σ, H), J).snd (106 : Nat), (((120 : Nat), σ, H), J).snd (107 : Nat), (((120 : Nat), σ, H), J).snd (108 : Nat), (((120 : Nat), σ, H), J).snd (109 : Nat), (((120 : Nat), σ, H), J).snd (110 : Nat), (((120 : Nat), σ, H), J).snd (111 : Nat), (((120 : Nat), σ, H), J).snd (112 : Nat), (((120 : Nat), σ, H), J).snd (113 : Nat), (((120 : Nat), σ, H), J).snd (114 : Nat), (((120 : Nat), σ, H), J).snd (115 : Nat), (((120 : Nat), σ, H), J).snd (116 : Nat), (((120 : Nat), σ, H), J).snd (117 : Nat), (((120 : Nat), σ, H), J).snd (118 : Nat), (((120 : Nat), σ, H), J).snd (119 : Nat), (((120 : Nat), σ, H), J).snd (120 : Nat), (((120 : Nat), σ, H), J).snd (121 : Nat), (((120 : Nat), σ, H), J).snd (122 : Nat), (((120 : Nat), σ, H), J).snd (123 : Nat), (((120 : Nat), σ, H), J).snd (124 : Nat), (((120 : Nat), σ, H), J).snd (125 : Nat), (((120 : Nat), σ, H), J).snd (126 : Nat), (((120 : Nat), σ, H), J).snd (127 : Nat), (((120 : Nat), σ, H), J).snd (128 : Nat), (((120 : Nat), σ, H), J).snd (129 : Nat), (((120 : Nat), σ, H), J).snd (130 : Nat), (((120 : Nat), σ, H), J).snd (131 : Nat), (((120 : Nat), σ, H), J).snd (132 : Nat), (((120 : Nat), σ, H), J).snd (133 : Nat), (((120 : Nat), σ, H), J).snd (134 : Nat), (((120 : Nat), σ, H), J).snd (135 : Nat), (((120 : Nat), σ, H), J).snd (136 : Nat), (((120 : Nat), σ, H), J).snd (137 : Nat), (((120 : Nat), σ, H), J).snd (138 : Nat), (((120 : Nat), σ, H), J).snd (139 : Nat), (((120 : Nat), σ, H), J).snd (140 : Nat), (((120 : Nat), σ, H), J).snd (141 : Nat), (((120 : Nat), σ, H), J).snd (142 : Nat), (((120 : Nat), σ, H), J).snd (143 : Nat), (((120 : Nat), σ, H), J).snd (144 : Nat), (((120 : Nat), σ, H), J).snd (145 : Nat), (((120 : Nat), σ, H), J).snd (146 : Nat), (((120 : Nat), σ, H), J).snd (147 : Nat), (((120 : Nat), σ, H), J).snd (148 : Nat), (((120 : Nat), σ, H), J).snd (149 : Nat), (((120 : Nat), σ, H), J).snd (150 : Nat), (((120 : Nat), σ, H), J).snd (151 : Nat), (((120 : Nat), σ, H), J).snd (152 : Nat), (((120 : Nat), σ, H), J).snd (153 : Nat), (((120 : Nat), σ, H), J).snd (154 : Nat), (((120 : Nat), σ, H), J).snd (155 : Nat), (((120 : Nat), σ, H), J).snd (156 : Nat), (((120 : Nat), σ, H), J).snd (157 : Nat), (((120 : Nat), σ, H), J).snd (158 : Nat), (((120 : Nat), σ, H), J).snd (159 : Nat), (((120 : Nat), σ, H), J).snd (160 : Nat), (((120 : Nat), σ, H), J).snd (161 : Nat), (((120 : Nat), σ, H), J).snd (162 : Nat), (((120 : Nat), σ, H), J).snd (163 : Nat), (((120 : Nat), σ, H), J).snd (164 : Nat), (((120 : Nat), σ, H), J).snd (165 : Nat), (((120 : Nat), σ, H), J).snd (166 : Nat), (((120 : Nat), σ, H), J).snd (167 : Nat), (((120 : Nat), σ, H), J).snd (168 : Nat), (((120 : Nat), σ, H), J).snd (169 : Nat), (((120 : Nat), σ, H), J).snd (170 : Nat), (((120 : Nat), σ, H), J).snd (171 : Nat), (((120 : Nat), σ, H), J).snd (172 : Nat), (((120 : Nat), σ, H), J).snd (173 : Nat), tu, tu, tu, tu, tu, tu, tu, tu, tu, tu, tu, tu, tu, tu, tu, tu, tu, tu, tu, tu, tu, tu, tu, tu, tu, tu, tu, tu, tu, tu, tu, tu, tu, tu, tu, tu, tu, tu, tu, tu, tu, tu, tu, tu, tu, tu, tu, tu, tu, tu, tu, tu, tu] : List Value).getD j9 undef) (by kernel_rfl) (by kernel_rfl) ?_ ?_)
      · exact ⟨Nat.zero_le _, hC⟩
      rintro ⟨⟨k, τ⟩, J8⟩ hk ih8
      obtain ⟨hk, hCk⟩ := hk
      dsimp only at hk hCk
      (focus
        refine Xg.At.same (T' := [Value.slice a xs.length c, iv quota, iv many, tu, tu, tu, J8 6, iv (↑q : Int), iv (↑m : Int), pv xx1.fst 0, Value.slice xx1.snd.fst H.length xx1.snd.snd, Value.bool true, iv 120, (((120 : Nat), σ, H), J).snd (13 : Nat), (((120 : Nat), σ, H), J).snd (14 : Nat), (((120 : Nat), σ, H), J).snd (15 : Nat), (((120 : Nat), σ, H), J).snd (16 : Nat), (((120 : Nat), σ, H), J).snd (17 : Nat), (((120 : Nat), σ, H), J).snd (18 : Nat), (((120 : Nat), σ, H), J).snd (19 : Nat), (((120 : Nat), σ, H), J).snd (20 : Nat), (((120 : Nat), σ, H), J).snd (21 : Nat), (((120 : Nat), σ, H), J).snd (22 : Nat), (((120 : Nat), σ, H), J).snd (23 : Nat), (((120 : Nat), σ, H), J).snd (24 : Nat), iv (↑k : Int), J8 26, J8 27, tu, tu, tu, iv quota, iv (↑q : Int), iv many, iv (↑(pickN many (6 : Nat)) : Int), iv (↑m : Int), Value.tuple #[pv xx1.fst 0, Value.slice xx1.snd.fst (4 : Nat) xx1.snd.snd, Value.bool true], iv (↑m : Int), iv (↑q : Int), Value.tuple #[pv xx1.fst 0, Value.slice xx1.snd.fst (4 : Nat) xx1.snd.snd, Value.bool true], pv xx1.fst 0, Value.slice xx1.snd.fst (4 : Nat) xx1.snd.snd, Value.bool true, Value.bool true, Value.bool false, iv 120, Value.slice a xs.length c, iv (↑xs.length : Int), Value.bool (decide ((120 : Int) < (↑xs.length : Int))), Value.bool true, iv 120, Value.bool false, Value.bool false, (((120 : Nat), σ, H), J).snd (53 : Nat), (((120 : Nat), σ, H), J).snd (54 : Nat), (((120 : Nat), σ, H), J).snd (55 : Nat), (((120 : Nat), σ, H), J).snd (56 : Nat), (((120 : Nat), σ, H), J).snd (57 : Nat), (((120 : Nat), σ, H), J).snd (58 : Nat), (((120 : Nat), σ, H), J).snd (59 : Nat), (((120 : Nat), σ, H), J).snd (60 : Nat), (((120 : Nat), σ, H), J).snd (61 : Nat), (((120 : Nat), σ, H), J).snd (62 : Nat), (((120 : Nat), σ, H), J).snd (63 : Nat), (((120 : Nat), σ, H), J).snd (64 : Nat), (((120 : Nat), σ, H), J).snd (65 : Nat), (((120 : Nat), σ, H), J).snd (66 : Nat), (((120 : Nat), σ, H), J).snd (67 : Nat), (((120 : Nat), σ, H), J).snd (68 : Nat), (((120 : Nat), σ, H), J).snd (69 : Nat), (((120 : Nat), σ, H), J).snd (70 : Nat), (((120 : Nat), σ, H), J).snd (71 : Nat), (((120 : Nat), σ, H), J).snd (72 : Nat), (((120 : Nat), σ, H), J).snd (73 : Nat), (((120 : Nat), σ, H), J).snd (74 : Nat), (((120 : Nat), σ, H), J).snd (75 : Nat), (((120 : Nat), σ, H), J).snd (76 : Nat), (((120 : Nat), σ, H), J).snd (77 : Nat), (((120 : Nat), σ, H), J).snd (78 : Nat), (((120 : Nat), σ, H), J).snd (79 : Nat), (((120 : Nat), σ, H), J).snd (80 : Nat), (((120 : Nat), σ, H), J).snd (81 : Nat), (((120 : Nat), σ, H), J).snd (82 : Nat), (((120 : Nat), σ, H), J).snd (83 : Nat), (((120 : Nat), σ, H), J).snd (84 : Nat), (((120 : Nat), σ, H), J).snd (85 : Nat), (((120 : Nat), σ, H), J).snd (86 : Nat), (((120 : Nat), σ, H), J).snd (87 : Nat), (((120 : Nat), σ, H), J).snd (88 : Nat), (((120 : Nat), σ, H), J).snd (89 : Nat), (((120 : Nat), σ, H), J).snd (90 : Nat), (((120 : Nat), σ, H), J).snd (91 : Nat), (((120 : Nat), σ, H), J).snd (92 : Nat), (((120 : Nat), σ, H), J).snd (93 : Nat), (((120 : Nat), σ, H), J).snd (94 : Nat), (((120 : Nat), σ, H), J).snd (95 : Nat), (((120 : Nat), σ, H), J).snd (96 : Nat), (((120 : Nat), σ, H), J).snd (97 : Nat), (((120 : Nat), σ, H), J).snd (98 : Nat), (((120 : Nat), σ, H), J).snd (99 : Nat), (((120 : Nat), σ, H), J).snd (100 : Nat), (((120 : Nat), σ, H), J).snd (101 : Nat), (((120 : Nat), σ, H), J).snd (102 : Nat), (((120 : Nat), σ, H), J).snd (103 : Nat), (((120 : Nat), σ, H), J).snd (104 : Nat), (((120 : Nat), σ, H), J).snd (105 : Nat), (((120 : Nat), σ, H), J).snd (106 : Nat), (((120 : Nat), σ, H), J).snd (107 : Nat), (((120 : Nat), σ, H), J).snd (108 : Nat), (((120 : Nat), σ, H), J).snd (109 : Nat), (((120 : Nat), σ, H), J).snd (110 : Nat), (((120 : Nat), σ, H), J).snd (111 : Nat), (((120 : Nat), σ, H), J).snd (112 : Nat), (((120 : Nat), σ, H), J).snd (113 : Nat), (((120 : Nat), σ, H), J).snd (114 : Nat), (((120 : Nat), σ, H), J).snd (115 : Nat), (((120 : Nat), σ, H), J).snd (116 : Nat), (((120 : Nat), σ, H), J).snd (117 : Nat), (((120 : Nat), σ, H), J).snd (118 : Nat), (((120 : Nat), σ, H), J).snd (119 : Nat), (((120 : Nat), σ, H), J).snd (120 : Nat), (((120 : Nat), σ, H), J).snd (121 : Nat), (((120 : Nat), σ, H), J).snd (122 : Nat), (((120 : Nat), σ, H), J).snd (123 : Nat), (((120 : Nat), σ, H), J).snd (124 : Nat), (((120 : Nat), σ, H), J).snd (125 : Nat), (((120 : Nat), σ, H), J).snd (126 : Nat), (((120 : Nat), σ, H), J).snd (127 : Nat), (((120 : Nat), σ, H), J).snd (128 : Nat), (((120 : Nat), σ, H), J).snd (129 : Nat), (((120 : Nat), σ, H), J).snd (130 : Nat), (((120 : Nat), σ, H), J).snd (131 : Nat), (((120 : Nat), σ, H), J).snd (132 : Nat), (((120 : Nat), σ, H), J).snd (133 : Nat), (((120 : Nat), σ, H), J).snd (134 : Nat), (((120 : Nat), σ, H), J).snd (135 : Nat), (((120 : Nat), σ, H), J).snd (136 : Nat), (((120 : Nat), σ, H), J).snd (137 : Nat), (((120 : Nat), σ, H), J).snd (138 : Nat), (((120 : Nat), σ, H), J).snd (139 : Nat), (((120 : Nat), σ, H), J).snd (140 : Nat), (((120 : Nat), σ, H), J).snd (141 : Nat), (((120 : Nat), σ, H), J).snd (142 : Nat), (((120 : Nat), σ, H), J).snd (143 : Nat), (((120 : Nat), σ, H), J).snd (144 : Nat), (((120 : Nat), σ, H), J).snd (145 : Nat), (((120 : Nat), σ, H), J).snd (146 : Nat), (((120 : Nat), σ, H), J).snd (147 : Nat), (((120 : Nat), σ, H), J).snd (148 : Nat), (((120 : Nat), σ, H), J).snd (149 : Nat), (((120 : Nat), σ, H), J).snd (150 : Nat), (((120 : Nat), σ, H), J).snd (151 : Nat), (((120 : Nat), σ, H), J).snd (152 : Nat), (((120 : Nat), σ, H), J).snd (153 : Nat), (((120 : Nat), σ, H), J).snd (154 : Nat), (((120 : Nat), σ, H), J).snd (155 : Nat), (((120 : Nat), σ, H), J).snd (156 : Nat), (((120 : Nat), σ, H), J).snd (157 : Nat), (((120 : Nat), σ, H), J).snd (158 : Nat), (((120 : Nat), σ, H), J).snd (159 : Nat), (((120 : Nat), σ, H), J).snd (160 : Nat), (((120 : Nat), σ, H), J).snd (161 : Nat), (((120 : Nat), σ, H), J).snd (162 : Nat), (((120 : Nat), σ, H), J).snd (163 : Nat), (((120 : Nat), σ, H), J).snd (164 : Nat), (((120 : Nat), σ, H), J).snd (165 : Nat), (((120 : Nat), σ, H), J).snd (166 : Nat), (((120 : Nat), σ, H), J).snd (167 : Nat), (((120 : Nat), σ, H), J).snd (168 : Nat), (((120 : Nat), σ, H), J).snd (169 : Nat), (((120 : Nat), σ, H), J).snd (170 : Nat), (((120 : Nat), σ, H), J).snd (171 : Nat), (((120 : Nat), σ, H), J).snd (172 : Nat), (((120 : Nat), σ, H), J).snd (173 : Nat), J8 174, J8 175, J8 176, J8 177, J8 178, J8 179, J8 180, J8 181, J8 182, J8 183, J8 184, J8 185, J8 186, J8 187, J8 188, J8 189, tu, tu, tu, tu, tu, tu, tu, tu, tu, tu, tu, tu, tu, tu, tu, tu, tu, tu, tu, tu, tu, tu, tu, tu, tu, tu, tu, tu, tu, tu, tu, tu, tu, tu, tu, tu, tu]) (L' := [PoolS xx1.fst ((k, τ), J8).fst.snd, recsO (62 : Nat) (3 : Nat) hdK xx1.snd.fst xx1.snd.snd H, A]) (by kernel_rfl) rfl ?_)
      by_cases hk4 : k < 4
      · have hkl : k < H.length := by omega
        obtain ⟨ρ, us, hρ, hcl⟩ := hCk.step hk4
        have hcl := hcl xx1.1
        have hid := (hH.all k hk4).id
        rw [← hid] at hcl
        (focus
          refine Xg.at_seq ?_
          refine Xg.at_seq ?_
          refine Xg.at_region ?_
          refine Xg.ops_op (by kernel_rfl) (Xg.opx_pure ((iv (↑k : Int))) rfl (fun _ => by kernel_rfl) ?_)
          refine Xg.ops_op (by kernel_rfl) (Xg.opx_pure (.bool (decide ((((↑k : Int)) : Int) < ((4 : Int))))) rfl (fun _ => by kernel_rfl) ?_)
          refine Xg.ops_nil ?_
          refine Xg.at_true (t := decide (((↑k : Int) < (4 : Int)))) (by kernel_rfl) (decide_eq_true (by omega)) ?_
          refine Xg.at_skip ?_
          refine Xg.at_seq ?_
          refine Xg.at_block ?_
          refine Xg.at_seq ?_
          refine Xg.at_region ?_
          refine Xg.ops_op (by kernel_rfl) (Xg.opx_pure ((pv xx1.fst 0)) rfl (fun _ => by kernel_rfl) ?_)
          refine Xg.ops_op (by kernel_rfl) (Xg.opx_pure ((Value.slice xx1.snd.fst H.length xx1.snd.snd)) rfl (fun _ => by kernel_rfl) ?_)
          refine Xg.ops_op (by kernel_rfl) (Xg.opx_pure ((iv (↑k : Int))) rfl (fun _ => by kernel_rfl) ?_)
          refine Xg.ops_op (by kernel_rfl) (Xg.opx_ix_own (elem := 62) (kd := .i64) (e := ((↑k : Int))) 1 3 k (k * (3 : Nat)) rfl (by kernel_rfl) (by kernel_rfl) (by kernel_rfl) (by kernel_rfl) rfl (by omega) (by omega) ?_)
          refine Xg.ops_op (by kernel_rfl) (Xg.opx_pure ((Value.pointer (some (Addr.mk (blk xx1.snd.fst) (k * (3 : Nat)) none)))) rfl (fun _ => by kernel_rfl) ?_)
          refine Xg.ops_op (by kernel_rfl) (Xg.opx_load_own (a := xx1.snd.fst) (off := (k * (3 : Nat))) 1 (iv (↑(H.getD k default).id : Int)) rfl (by kernel_rfl) (Xg.get_recs' (wd := 3) (fun _ => rfl) default k 0 (by omega) (by decide) (by omega) (by kernel_rfl)) (by kernel_rfl) ?_)
          refine Xg.ops_op (by kernel_rfl) (Xg.opx_call1' [0] [PoolS xx1.fst ρ, recsO (62 : Nat) (3 : Nat) hdK xx1.snd.fst xx1.snd.snd H, A] (fun _ => by kernel_rfl) (@hcl ) (by kernel_rfl) (by kernel_rfl) (by kernel_rfl) ?_)
          refine Xg.ops_op (by kernel_rfl) (Xg.opx_pure ((Value.tuple #[iv us, iv 0])) rfl (fun _ => by kernel_rfl) ?_)
          refine Xg.ops_op (by kernel_rfl) (Xg.opx_pure ((iv us)) rfl (fun _ => by kernel_rfl) ?_)
          refine Xg.ops_op (by kernel_rfl) (Xg.opx_pure ((iv 0)) rfl (fun _ => by kernel_rfl) ?_)
          refine Xg.ops_op (by kernel_rfl) (Xg.opx_pure ((iv us)) rfl (fun _ => by kernel_rfl) ?_)
          refine Xg.ops_op (by kernel_rfl) (Xg.opx_pure ((iv 0)) rfl (fun _ => by kernel_rfl) ?_)
          refine Xg.ops_nil ?_
          refine Xg.at_seq ?_
          refine Xg.at_region ?_
          refine Xg.ops_op (by kernel_rfl) (Xg.opx_pure ((iv 0)) rfl (fun _ => by kernel_rfl) ?_)
          refine Xg.ops_op (by kernel_rfl) (Xg.opx_pure ((Value.bool false)) rfl (fun _ => by kernel_rfl) ?_)
          refine Xg.ops_nil ?_
          refine Xg.at_false (t := false) (by kernel_rfl) rfl ?_
          refine Xg.at_skip ?_
          refine Xg.at_inBlock ?_
          refine Xg.at_region ?_
          refine Xg.ops_op (by kernel_rfl) (Xg.opx_pure ((iv (↑k : Int))) rfl (fun _ => by kernel_rfl) ?_)
          refine Xg.ops_op (by kernel_rfl) (Xg.opx_int .i64 (IntKind.wrap .i64 (((↑k : Int) + (1 : Int)))) rfl (fun _ => by kernel_rfl) (Xg.wrap_i64_in (by omega)) ?_)
          refine Xg.ops_op (by kernel_rfl) (Xg.opx_pure ((iv ((↑k : Int) + (1 : Int)))) rfl (fun _ => by kernel_rfl) ?_)
          refine Xg.ops_nil ?_
          refine Xg.at_inLoop ?_)
        (focus
          refine Xg.at_keep [0, 1, 2] (by kernel_rfl) ?_
          refine Xs.same ?_ (fun J9 => ih8 (((k + 1, ρ)), J9) ?_ ?_) (by kernel_rfl))
        · rfl
        · exact ⟨hk4, hρ⟩
        · dsimp only; omega
      · obtain rfl : k = 4 := by omega
        clear ih8
        obtain ⟨f0, f1⟩ := hCk.frs
        have hf0 := free_p hCk.pi xx1.1 0 (by rw [hCk.nc]; decide) (by rw [hCk.na]; decide)
        have hf1 := free_p hCk.pi xx1.1 1 (by rw [hCk.nc]; decide) (by rw [hCk.na]; decide)
        rw [f0] at hf0
        rw [f1] at hf1
        have hg0 := iotaN_len 0 m
        have hg1 := iotaN_len m m
        (focus
          refine Xg.at_seq ?_
          refine Xg.at_seq ?_
          refine Xg.at_region ?_
          refine Xg.ops_op (by kernel_rfl) (Xg.opx_pure ((iv 4)) rfl (fun _ => by kernel_rfl) ?_)
          refine Xg.ops_op (by kernel_rfl) (Xg.opx_pure ((Value.bool false)) rfl (fun _ => by kernel_rfl) ?_)
          refine Xg.ops_nil ?_
          refine Xg.at_false (t := false) (by kernel_rfl) rfl ?_
          refine Xg.at_exit rfl ?_
          refine Xg.at_seq ?_
          refine Xg.at_region ?_
          refine Xg.ops_op (by kernel_rfl) (Xg.opx_pure ((pv xx1.fst 0)) rfl (fun _ => by kernel_rfl) ?_)
          refine Xg.ops_op (by kernel_rfl) (Xg.opx_callE' [0] (fun xx2 => [PoolS xx1.fst τ, I2 xx2.fst xx2.snd (iotaN (0 : Nat) m), recsO (62 : Nat) (3 : Nat) hdK xx1.snd.fst xx1.snd.snd H, A]) (fun _ => by kernel_rfl) (@hf0 ) (by kernel_rfl) (by kernel_rfl) (by kernel_rfl) fun xx2 xh2 => ?_)
          try dsimp only at xh2
          refine Xg.ops_op (by kernel_rfl) (Xg.opx_pure ((Value.slice xx2.fst (iotaN (0 : Nat) m).length xx2.snd)) rfl (fun _ => by kernel_rfl) ?_)
          refine Xg.ops_nil ?_
          refine Xg.at_seq ?_
          refine Xg.at_region ?_
          refine Xg.ops_op (by kernel_rfl) (Xg.opx_pure ((pv xx1.fst 0)) rfl (fun _ => by kernel_rfl) ?_)
          refine Xg.ops_op (by kernel_rfl) (Xg.opx_callE' [0] (fun xx3 => [PoolS xx1.fst τ, I2 xx3.fst xx3.snd (iotaN m m), I2 xx2.fst xx2.snd (iotaN (0 : Nat) m), recsO (62 : Nat) (3 : Nat) hdK xx1.snd.fst xx1.snd.snd H, A]) (fun _ => by kernel_rfl) (@hf1 ) (by kernel_rfl) (by kernel_rfl) (by kernel_rfl) fun xx3 xh3 => ?_)
          try dsimp only at xh3
          refine Xg.ops_op (by kernel_rfl) (Xg.opx_pure ((Value.slice xx3.fst (iotaN m m).length xx3.snd)) rfl (fun _ => by kernel_rfl) ?_)
          refine Xg.ops_nil ?_
          refine Xg.at_seq ?_
          refine Xg.at_seq ?_
          refine Xg.at_region ?_
          refine Xg.ops_op (by kernel_rfl) (Xg.opx_pure ((iv 0)) rfl (fun _ => by kernel_rfl) ?_)
          refine Xg.ops_nil ?_
          refine Xg.at_block ?_)
        (focus
          refine Xg.at_keep [2, 1, 4] (by kernel_rfl) ?_
          refine Xg.at_rounds_inv (α := (Nat) × (Nat → Value)) (fun x => ((fun t => t ≤ m) : (Nat) → Prop) x.1) (fun x => ((fun t => m - t) : (Nat) → Nat) x.1) (fun x => Xg.headT [Value.slice a xs.length c, iv quota, iv many, tu, tu, tu, (((4 : Nat), τ), J8).snd (6 : Nat), iv (↑q : Int), iv (↑m : Int), pv xx1.fst 0, Value.slice xx1.snd.fst H.length xx1.snd.snd, Value.bool true, iv 120, (((120 : Nat), σ, H), J).snd (13 : Nat), (((120 : Nat), σ, H), J).snd (14 : Nat), (((120 : Nat), σ, H), J).snd (15 : Nat), (((120 : Nat), σ, H), J).snd (16 : Nat), (((120 : Nat), σ, H), J).snd (17 : Nat), (((120 : Nat), σ, H), J).snd (18 : Nat), (((120 : Nat), σ, H), J).snd (19 : Nat), (((120 : Nat), σ, H), J).snd (20 : Nat), (((120 : Nat), σ, H), J).snd (21 : Nat), (((120 : Nat), σ, H), J).snd (22 : Nat), (((120 : Nat), σ, H), J).snd (23 : Nat), (((120 : Nat), σ, H), J).snd (24 : Nat), iv 4, (((4 : Nat), τ), J8).snd (26 : Nat), (((4 : Nat), τ), J8).snd (27 : Nat), Value.slice xx2.fst (iotaN (0 : Nat) m).length xx2.snd, Value.slice xx3.fst (iotaN m m).length xx3.snd, iv 0, iv quota, iv (↑q : Int), iv many, iv (↑(pickN many (6 : Nat)) : Int), iv (↑m : Int), Value.tuple #[pv xx1.fst 0, Value.slice xx1.snd.fst (4 : Nat) xx1.snd.snd, Value.bool true], iv (↑m : Int), iv (↑q : Int), Value.tuple #[pv xx1.fst 0, Value.slice xx1.snd.fst (4 : Nat) xx1.snd.snd, Value.bool true], pv xx1.fst 0, Value.slice xx1.snd.fst (4 : Nat) xx1.snd.snd, Value.bool true, Value.bool true, Value.bool false, iv 120, Value.slice a xs.length c, iv (↑xs.length : Int), Value.bool (decide ((120 : Int) < (↑xs.length : Int))), Value.bool true, iv 120, Value.bool false, Value.bool false, (((120 : Nat), σ, H), J).snd (53 : Nat), (((120 : Nat), σ, H), J).snd (54 : Nat), (((120 : Nat), σ, H), J).snd (55 : Nat), (((120 : Nat), σ, H), J).snd (56 : Nat), (((120 : Nat), σ, H), J).snd (57 : Nat), (((120 : Nat), σ, H), J).snd (58 : Nat), (((120 : Nat), σ, H), J).snd (59 : Nat), (((120 : Nat), σ, H), J).snd (60 : Nat), (((120 : Nat), σ, H), J).snd (61 : Nat), (((120 : Nat), σ, H), J).snd (62 : Nat), (((120 : Nat), σ, H), J).snd (63 : Nat), (((120 : Nat), σ, H), J).snd (64 : Nat), (((120 : Nat), σ, H), J).snd (65 : Nat), (((120 : Nat), σ, H), J).snd (66 : Nat), (((120 : Nat), σ, H), J).snd (67 : Nat), (((120 : Nat), σ, H), J).snd (68 : Nat), (((120 : Nat), σ, H), J).snd (69 : Nat), (((120 : Nat), σ, H), J).snd (70 : Nat), (((120 : Nat), σ, H), J).snd (71 : Nat), (((120 : Nat), σ, H), J).snd (72 : Nat), (((120 : Nat), σ, H), J).snd (73 : Nat), (((120 : Nat), σ, H), J).snd (74 : Nat), (((120 : Nat), σ, H), J).snd (75 : Nat), (((120 : Nat), σ, H), J).snd (76 : Nat), (((120 : Nat), σ, H), J).snd (77 : Nat), (((120 : Nat), σ, H), J).snd (78 : Nat), (((120 : Nat), σ, H), J).snd (79 : Nat), (((120 : Nat), σ, H), J).snd (80 : Nat), (((120 : Nat), σ, H), J).snd (81 : Nat), (((120 : Nat), σ, H), J).snd (82 : Nat), (((120 : Nat), σ, H), J).snd (83 : Nat), (((120 : Nat), σ, H), J).snd (84 : Nat), (((120 : Nat), σ, H), J).snd (85 : Nat), (((120 : Nat), σ, H), J).snd (86 : Nat), (((120 : Nat), σ, H), J).snd (87 : Nat), (((120 : Nat), σ, H), J).snd (88 : Nat), (((120 : Nat), σ, H), J).snd (89 : Nat), (((120 : Nat), σ, H), J).snd (90 : Nat), (((120 : Nat), σ, H), J).snd (91 : Nat), (((120 : Nat), σ, H), J).snd (92 : Nat), (((120 : Nat), σ, H), J).snd (93 : Nat), (((120 : Nat), σ, H), J).snd (94 : Nat), (((120 : Nat), σ, H), J).snd (95 : Nat), (((120 : Nat), σ, H), J).snd (96 : Nat), (((120 : Nat), σ, H), J).snd (97 : Nat), (((120 : Nat), σ, H), J).snd (98 : Nat), (((120 : Nat), σ, H), J).snd (99 : Nat), (((120 : Nat), σ, H), J).snd (100 : Nat), (((120 : Nat), σ, H), J).snd (101 : Nat), (((120 : Nat), σ, H), J).snd (102 : Nat), (((120 : Nat), σ, H), J).snd (103 : Nat), (((120 : Nat), σ, H), J).snd (104 : Nat), (((120 : Nat), σ, H), J).snd (105 : Nat), (((120 : Nat), σ, H), J).snd (106 : Nat), (((120 : Nat), σ, H), J).snd (107 : Nat), (((120 : Nat), σ, H), J).snd (108 : Nat), (((120 : Nat), σ, H), J).snd (109 : Nat), (((120 : Nat), σ, H), J).snd (110 : Nat), (((120 : Nat), σ, H), J).snd (111 : Nat), (((120 : Nat), σ, H), J).snd (112 : Nat), (((120 : Nat), σ, H), J).snd (113 : Nat), (((120 : Nat), σ, H), J).snd (114 : Nat), (((120 : Nat), σ, H), J).snd (115 : Nat), (((120 : Nat), σ, H), J).snd (116 : Nat), (((120 : Nat), σ, H), J).snd (117 : Nat), (((120 : Nat), σ, H), J).snd (118 : Nat), (((120 : Nat), σ, H), J).snd (119 : Nat), (((120 : Nat), σ, H), J).snd (120 : Nat), (((120 : Nat), σ, H), J).snd (121 : Nat), (((120 : Nat), σ, H), J).snd (122 : Nat), (((120 : Nat), σ, H), J).snd (123 : Nat), (((120 : Nat), σ, H), J).snd (124 : Nat), (((120 : Nat), σ, H), J).snd (125 : Nat), (((120 : Nat), σ, H), J).snd (126 : Nat), (((120 : Nat), σ, H), J).snd (127 : Nat), (((120 : Nat), σ, H), J).snd (128 : Nat), (((120 : Nat), σ, H), J).snd (129 : Nat), (((120 : Nat), σ, H), J).snd (130 : Nat), (((120 : Nat), σ, H), J).snd (131 : Nat), (((120 : Nat), σ, H), J).snd (132 : Nat), (((120 : Nat), σ, H), J).snd (133 : Nat), (((120 : Nat), σ, H), J).snd (134 : Nat), (((120 : Nat), σ, H), J).snd (135 : Nat), (((120 : Nat), σ, H), J).snd (136 : Nat), (((120 : Nat), σ, H), J).snd (137 : Nat), (((120 : Nat), σ, H), J).snd (138 : Nat), (((120 : Nat), σ, H), J).snd (139 : Nat), (((120 : Nat), σ, H), J).snd (140 : Nat), (((120 : Nat), σ, H), J).snd (141 : Nat), (((120 : Nat), σ, H), J).snd (142 : Nat), (((120 : Nat), σ, H), J).snd (143 : Nat), (((120 : Nat), σ, H), J).snd (144 : Nat), (((120 : Nat), σ, H), J).snd (145 : Nat), (((120 : Nat), σ, H), J).snd (146 : Nat), (((120 : Nat), σ, H), J).snd (147 : Nat), (((120 : Nat), σ, H), J).snd (148 : Nat), (((120 : Nat), σ, H), J).snd (149 : Nat), (((120 : Nat), σ, H), J).snd (150 : Nat), (((120 : Nat), σ, H), J).snd (151 : Nat), (((120 : Nat), σ, H), J).snd (152 : Nat), (((120 : Nat), σ, H), J).snd (153 : Nat), (((120 : Nat), σ, H), J).snd (154 : Nat), (((120 : Nat), σ, H), J).snd (155 : Nat), (((120 : Nat), σ, H), J).snd (156 : Nat), (((120 : Nat), σ, H), J).snd (157 : Nat), (((120 : Nat), σ, H), J).snd (158 : Nat), (((120 : Nat), σ, H), J).snd (159 : Nat), (((120 : Nat), σ, H), J).snd (160 : Nat), (((120 : Nat), σ, H), J).snd (161 : Nat), (((120 : Nat), σ, H), J).snd (162 : Nat), (((120 : Nat), σ, H), J).snd (163 : Nat), (((120 : Nat), σ, H), J).snd (164 : Nat), (((120 : Nat), σ, H), J).snd (165 : Nat), (((120 : Nat), σ, H), J).snd (166 : Nat), (((120 : Nat), σ, H), J).snd (167 : Nat), (((120 : Nat), σ, H), J).snd (168 : Nat), (((120 : Nat), σ, H), J).snd (169 : Nat), (((120 : Nat), σ, H), J).snd (170 : Nat), (((120 : Nat), σ, H), J).snd (171 : Nat), (((120 : Nat), σ, H), J).snd (172 : Nat), (((120 : Nat), σ, H), J).snd (173 : Nat), iv 4, Value.bool false, (((4 : Nat), τ), J8).snd (176 : Nat), (((4 : Nat), τ), J8).snd (177 : Nat), (((4 : Nat), τ), J8).snd (178 : Nat), (((4 : Nat), τ), J8).snd (179 : Nat), (((4 : Nat), τ), J8).snd (180 : Nat), (((4 : Nat), τ), J8).snd (181 : Nat), (((4 : Nat), τ), J8).snd (182 : Nat), (((4 : Nat), τ), J8).snd (183 : Nat), (((4 : Nat), τ), J8).snd (184 : Nat), (((4 : Nat), τ), J8).snd (185 : Nat), (((4 : Nat), τ), J8).snd (186 : Nat), (((4 : Nat), τ), J8).snd (187 : Nat), (((4 : Nat), τ), J8).snd (188 : Nat), (((4 : Nat), τ), J8).snd (189 : Nat), pv xx1.fst 0, Value.slice xx2.fst (iotaN (0 : Nat) m).length xx2.snd, pv xx1.fst 0, Value.slice xx3.fst (iotaN m m).length xx3.snd, tu, tu, tu, tu, tu, tu, tu, tu, tu, tu, tu, tu, tu, tu, tu, tu, tu, tu, tu, tu, tu, tu, tu, tu, tu, tu, tu, tu, tu, tu, tu, tu, tu] [6, 194, 195, 196, 197, 198, 199, 200, 201, 202, 203, 204, 205, 206, 207, 208, 209, 210, 211, 212, 213, 214, 215, 216, 217, 218, 219, 220, 221, 222, 223, 224, 225, 226] (((fun t => [(30, .int .i64 (t : Nat))]) : (Nat) → List (Nat × Go.Value)) x.1) x.2) (fun x => ((fun t => [I2 xx2.1 xx2.2 (iotaN 0 m), I2 xx3.1 xx3.2 (iotaN m m), A]) : (Nat) → List Go.Sl.HP) x.1) ((0), fun j9 => ([Value.slice a xs.length c, iv quota, iv many, tu, tu, tu, (((4 : Nat), τ), J8).snd (6 : Nat), iv (↑q : Int), iv (↑m : Int), pv xx1.fst 0, Value.slice xx1.snd.fst H.length xx1.snd.snd, Value.bool true, iv 120, (((120 : Nat), σ, H), J).snd (13 : Nat), (((120 : Nat), σ, H), J).snd (14 : Nat), (((120 : Nat), σ, H), J).snd (15 : Nat), (((120 : Nat), σ, H), J).snd (16 : Nat), (((120 : Nat), σ, H), J).snd (17 : Nat), (((120 : Nat), σ, H), J).snd (18 : Nat), (((120 : Nat), σ, H), J).snd (19 : Nat), (((120 : Nat), σ, H), J).snd (20 : Nat), (((120 : Nat), σ, H), J).snd (21 : Nat), (((120 : Nat), σ, H), J).snd (22 : Nat), (((120 : Nat), σ, H), J).snd (23 : Nat), (((120 : Nat), σ, H), J).snd (24 : Nat), iv 4, (((4 : Nat), τ), J8).snd (26 : Nat), (((4 : Nat), τ), J8).snd (27 : Nat), Value.slice xx2.fst (iotaN (0 : Nat) m).length xx2.snd, Value.slice xx3.fst (iotaN m m).length xx3.snd, iv 0, iv quota, iv (↑q : Int), iv many, iv (↑(pickN many (6 : Nat)) : Int), iv (↑m : Int), Value.tuple #[pv xx1.fst 0, Value.slice xx1.snd.fst (4 : Nat) xx1.snd.snd, Value.bool true], iv (↑m : Int), iv (↑q : Int), Value.tuple #[pv xx1.fst 0, Value.slice xx1.snd.fst (4 : Nat) xx1.snd.snd, Value.bool true], pv xx1.fst 0, Value.slice xx1.snd.fst (4 : Nat) xx1.snd.snd, Value.bool true, Value.bool true, Value.bool false, iv 120, Value.slice a xs.length c, iv (↑xs.length : Int), Value.bool (decide ((120 : Int) < (↑xs.length : Int))), Value.bool true, iv 120, Value.bool false, Value.bool false, (((120 : Nat), σ, H), J).snd (53 : Nat), (((120 : Nat), σ, H), J).snd (54 : Nat), (((120 : Nat), σ, H), J).snd (55 : Nat), (((120 : Nat), σ, H), J).snd (56 : Nat), (((120 : Nat), σ, H), J).snd (57 : Nat), (((120 : Nat), σ, H), J).snd (58 : Nat), (((120 : Nat), σ, H), J).snd (59 : Nat), (((120 : Nat), σ, H), J).snd (60 : Nat), (((120 : Nat), σ, H), J).snd (61 : Nat), (((120 : Nat), σ, H), J).snd (62 : Nat), (((120 : Nat), σ, H), J).snd (63 : Nat), (((120 : Nat), σ, H), J).snd (64 : Nat), (((120 : Nat), σ, H), J).snd (65 : Nat), (((120 : Nat), σ, H), J).snd (66 : Nat), (((120 : Nat), σ, H), J).snd (67 : Nat), (((120 : Nat), σ, H), J).snd (68 : Nat), (((120 : Nat), σ, H), J).snd (69 : Nat), (((120 : Nat), σ, H), J).snd (70 : Nat), (((120 : Nat), σ, H), J).snd (71 : Nat), (((120 : Nat), σ, H), J).snd (72 : Nat), (((120 : Nat), σ, H), J).snd (73 : Nat), (((120 : Nat), σ, H), J).snd (74 : Nat), (((120 : Nat), σ, H), J).snd (75 : Nat), (((120 : Nat), σ, H), J).snd (76 : Nat), (((120 : Nat), σ, H), J).snd (77 : Nat), (((120 : Nat), σ, H), J).snd (78 : Nat), (((120 : Nat), σ, H), J).snd (79 : Nat), (((120 : Nat), σ, H), J).snd (80 : Nat), (((120 : Nat), σ, H), J).snd (81 : Nat), (((120 : Nat), σ, H), J).snd (82 : Nat), (((120 : Nat), σ, H), J).snd (83 : Nat), (((120 : Nat), σ, H), J).snd (84 : Nat), (((120 : Nat), σ, H), J).snd (85 : Nat), (((120 : Nat), σ, H), J).snd (86 : Nat), (((120 : Nat), σ, H), J).snd (87 : Nat), (((120 : Nat), σ, H), J).snd (88 : Nat), (((120 : Nat), σ, H), J).snd (89 : Nat), (((120 : Nat), σ, H), J).snd (90 : Nat), (((120 : Nat), σ, H), J).snd (91 : Nat), (((120 : Nat), σ, H), J).snd (92 : Nat), (((120 : Nat), σ, H), J).snd (93 : Nat), (((120 : Nat), σ, H), J).snd (94 : Nat), (((120 : Nat), σ, H), J).snd (95 : Nat), (((120 : Nat), σ, H), J).snd (96 : Nat), (((120 : Nat), σ, H), J).snd (97 : Nat), (((120 : Nat), σ, H), J).snd (98 : Nat), (((120 : Nat), σ, H), J).snd (99 : Nat), (((120 : Nat), σ, H), J).snd (100 : Nat), (((120 : Nat), σ, H), J).snd (101 : Nat), (((120 : Nat), σ, H), J).snd (102 : Nat), (((120 : Nat), σ, H), J).snd (103 : Nat), (((120 : Nat), σ, H), J).snd (104 : Nat), (((120 : Nat), σ, H), J).snd (105 : Nat), (((120 : Nat), σ, H), J).snd (106 : Nat), (((120 : Nat), σ, H), J).snd (107 : Nat), (((120 : Nat), σ, H), J).snd (108 : Nat), (((120 : Nat), σ, H), J).snd (109 : Nat), (((120 : Nat), σ, H), J).snd (110 : Nat), (((120 : Nat), σ, H), J).snd (111 : Nat), (((120 : Nat), σ, H), J).snd (112 : Nat), (((120 : Nat), σ, H), J).snd (113 : Nat), (((120 : Nat), σ, H), J).snd (114 : Nat), (((120 : Nat), σ, H), J).snd (115 : Nat), (((120 : Nat), σ, H), J).snd (116 : Nat), (((120 : Nat), σ, H), J).snd (117 : Nat), (((120 : Nat), σ, H), J).snd (118 : Nat), (((120 : Nat), σ, H), J).snd (119 : Nat), (((120 : Nat), σ, H), J).snd (120 : Nat), (((120 : Nat), σ, H), J).snd (121 : Nat), (((120 : Nat), σ, H), J).snd (122 : Nat), (((120 : Nat), σ, H), J).snd (123 : Nat), (((120 : Nat), σ, H), J).snd (124 : Nat), (((120 : Nat), σ, H), J).snd (125 : Nat), (((120 : Nat), σ, H), J).snd (126 : Nat), (((120 : Nat), σ, H), J).snd (127 : Nat), (((120 : Nat), σ, H), J).snd (128 : Nat), (((120 : Nat), σ, H), J).snd (129 : Nat), (((120 : Nat), σ, H), J).snd (130 : Nat), (((120 : Nat), σ, H), J).snd (131 : Nat), (((120 : Nat), σ, H), J).snd (132 : Nat), (((120 : Nat), σ, H), J).snd (133 : Nat), (((120 : Nat), σ, H), J).snd (134 : Nat), (((120 : Nat), σ, H), J).snd (135 : Nat), (((120 : Nat), σ, H), J).snd (136 : Nat), (((120 : Nat), σ, H), J).snd (137 : Nat), (((120 : Nat), σ, H), J).snd (138 : Nat), (((120 : Nat), σ, H), J).snd (139 : Nat), (((120 : Nat), σ, H), J).snd (140 : Nat), (((120 : Nat), σ, H), J).snd (141 : Nat), (((120 : Nat), σ, H), J).snd (142 : Nat), (((120 : Nat), σ, H), J).snd (143 : Nat), (((120 : Nat), σ, H), J).snd (144 : Nat), (((120 : Nat), σ, H), J).snd (145 : Nat), (((120 : Nat), σ, H), J).snd (146 : Nat), (((120 : Nat), σ, H), J).snd (147 : Nat), (((120 : Nat), σ, H), J).snd (148 : Nat), (((120 : Nat), σ, H), J).snd (149 : Nat), (((120 : Nat), σ, H), J).snd (150 : Nat), (((120 : Nat), σ, H), J).snd (151 : Nat), (((120 : Nat), σ, H), J).snd (152 : Nat), (((120 : Nat), σ, H), J).snd (153 : Nat), (((120 : Nat), σ, H), J).snd (154 : Nat), (((120 : Nat), σ, H), J).snd (155 : Nat), (((120 : Nat), σ, H), J).snd (156 : Nat), (((120 : Nat), σ, H), J).snd (157 : Nat), (((120 : Nat), σ, H), J).snd (158 : Nat), (((120 : Nat), σ, H), J).snd (159 : Nat), (((120 : Nat), σ, H), J).snd (160 : Nat), (((120 : Nat), σ, H), J).snd (161 : Nat), (((120 : Nat), σ, H), J).snd (162 : Nat), (((120 : Nat), σ, H), J).snd (163 : Nat), (((120 : Nat), σ, H), J).snd (164 : Nat), (((120 : Nat), σ, H), J).snd (165 : Nat), (((120 : Nat), σ, H), J).snd (166 : Nat), (((120 : Nat), σ, H), J).snd (167 : Nat), (((120 : Nat), σ, H), J).snd (168 : Nat), (((120 : Nat), σ, H), J).snd (169 : Nat), (((120 : Nat), σ, H), J).snd (170 : Nat), (((120 : Nat), σ, H), J).snd (171 : Nat), (((120 : Nat), σ, H), J).snd (172 : Nat), (((120 : Nat), σ, H), J).snd (173 : Nat), iv 4, Value.bool false, (((4 : Nat), τ), J8).snd (176 : Nat), (((4 : Nat), τ), J8).snd (177 : Nat), (((4 : Nat), τ), J8).snd (178 : Nat), (((4 : Nat), τ), J8).snd (179 : Nat), (((4 : Nat), τ), J8).snd (180 : Nat), (((4 : Nat), τ), J8).snd (181 : Nat), (((4 : Nat), τ), J8).snd (182 : Nat), (((4 : Nat), τ), J8).snd (183 : Nat), (((4 : Nat), τ), J8).snd (184 : Nat), (((4 : Nat), τ), J8).snd (185 : Nat), (((4 : Nat), τ), J8).snd (186 : Nat), (((4 : Nat), τ), J8).snd (187 : Nat), (((4 : Nat), τ), J8).snd (188 : Nat), (((4 : Nat), τ), J8).snd (189 : Nat), pv xx1.fst 0, Value.slice xx2.fst (iotaN (0 : Nat) m).length xx2.snd, pv xx1.fst 0, Value.slice xx3.fst (iotaN m m).length xx3.snd, tu, tu, tu, tu, tu, tu, tu, tu, tu, tu, tu, tu, tu, tu, tu, tu, tu, tu, tu, tu, tu, tu, tu, tu, tu, tu, tu, tu, tu, tu, tu, tu, tu] : List Value).getD j9 undef) (by kernel_rfl) (by kernel_rfl) ?_ ?_)
        · exact Nat.zero_le _
        rintro ⟨t, J9⟩ ht ih9
        dsimp only at ht
        (focus
          refine Xg.At.same (T' := [Value.slice a xs.length c, iv quota, iv many, tu, tu, tu, J9 6, iv (↑q : Int), iv (↑m : Int), pv xx1.fst 0, Value.slice xx1.snd.fst H.length xx1.snd.snd, Value.bool true, iv 120, (((120 : Nat), σ, H), J).snd (13 : Nat), (((120 : Nat), σ, H), J).snd (14 : Nat), (((120 : Nat), σ, H), J).snd (15 : Nat), (((120 : Nat), σ, H), J).snd (16 : Nat), (((120 : Nat), σ, H), J).snd (17 : Nat), (((120 : Nat), σ, H), J).snd (18 : Nat), (((120 : Nat), σ, H), J).snd (19 : Nat), (((120 : Nat), σ, H), J).snd (20 : Nat), (((120 : Nat), σ, H), J).snd (21 : Nat), (((120 : Nat), σ, H), J).snd (22 : Nat), (((120 : Nat), σ, H), J).snd (23 : Nat), (((120 : Nat), σ, H), J).snd (24 : Nat), iv 4, (((4 : Nat), τ), J8).snd (26 : Nat), (((4 : Nat), τ), J8).snd (27 : Nat), Value.slice xx2.fst (iotaN (0 : Nat) m).length xx2.snd, Value.slice xx3.fst (iotaN m m).length xx3.snd, iv (↑t : Int), iv quota, iv (↑q : Int), iv many, iv (↑(pickN many (6 : Nat)) : Int), iv (↑m : Int), Value.tuple #[pv xx1.fst 0, Value.slice xx1.snd.fst (4 : Nat) xx1.snd.snd, Value.bool true], iv (↑m : Int), iv (↑q : Int), Value.tuple #[pv xx1.fst 0, Value.slice xx1.snd.fst (4 : Nat) xx1.snd.snd, Value.bool true], pv xx1.fst 0, Value.slice xx1.snd.fst (4 : Nat) xx1.snd.snd, Value.bool true, Value.bool true, Value.bool false, iv 120, Value.slice a xs.length c, iv (↑xs.length : Int), Value.bool (decide ((120 : Int) < (↑xs.length : Int))), Value.bool true, iv 120, Value.bool false, Value.bool false, (((120 : Nat), σ, H), J).snd (53 : Nat), (((120 : Nat), σ, H), J).snd (54 : Nat), (((120 : Nat), σ, H), J).snd (55 : Nat), (((120 : Nat), σ, H), J).snd (56 : Nat), (((120 : Nat), σ, H), J).snd (57 : Nat), (((120 : Nat), σ, H), J).snd (58 : Nat), (((120 : Nat), σ, H), J).snd (59 : Nat), (((120 : Nat), σ, H), J).snd (60 : Nat), (((120 : Nat), σ, H), J).snd (61 : Nat), (((120 : Nat), σ, H), J).snd (62 : Nat), (((120 : Nat), σ, H), J).snd (63 : Nat), (((120 : Nat), σ, H), J).snd (64 : Nat), (((120 : Nat), σ, H), J).snd (65 : Nat), (((120 : Nat), σ, H), J).snd (66 : Nat), (((120 : Nat), σ, H), J).snd (67 : Nat), (((120 : Nat), σ, H), J).snd (68 : Nat), (((120 : Nat), σ, H), J).snd (69 : Nat), (((120 : Nat), σ, H), J).snd (70 : Nat), (((120 : Nat), σ, H), J).snd (71 : Nat), (((120 : Nat), σ, H), J).snd (72 : Nat), (((120 : Nat), σ, H), J).snd (73 : Nat), (((120 : Nat), σ, H), J).snd (74 : Nat), (((120 : Nat), σ, H), J).snd (75 : Nat), (((120 : Nat), σ, H), J).snd (76 : Nat), (((120 : Nat), σ, H), J).snd (77 : Nat), (((120 : Nat), σ, H), J).snd (78 : Nat), (((120 : Nat), σ, H), J).snd (79 : Nat), (((120 : Nat), σ, H), J).snd (80 : Nat), (((120 : Nat), σ, H), J).snd (81 : Nat), (((120 : Nat), σ, H), J).snd (82 : Nat), (((120 : Nat), σ, H), J).snd (83 : Nat), (((120 : Nat), σ, H), J).snd (84 : Nat), (((120 : Nat), σ, H), J).snd (85 : Nat), (((120 : Nat), σ, H), J).snd (86 : Nat), (((120 : Nat), σ, H), J).snd (87 : Nat), (((120 : Nat), σ, H), J).snd (88 : Nat), (((120 : Nat), σ, H), J).snd (89 : Nat), (((120 : Nat), σ, H), J).snd (90 : Nat), (((120 : Nat), σ, H), J).snd (91 : Nat), (((120 : Nat), σ, H), J).snd (92 : Nat), (((120 : Nat), σ, H), J).snd (93 : Nat), (((120 : Nat), σ, H), J).snd (94 : Nat), (((120 : Nat), σ, H), J).snd (95 : Nat), (((120 : Nat), σ, H), J).snd (96 : Nat), (((120 : Nat), σ, H), J).snd (97 : Nat), (((120 : Nat), σ, H), J).snd (98 : Nat), (((120 : Nat), σ, H), J).snd (99 : Nat), (((120 : Nat), σ, H), J).snd (100 : Nat), (((120 : Nat), σ, H), J).snd (101 : Nat), (((120 : Nat), σ, H), J).snd (102 : Nat), (((120 : Nat), σ, H), J).snd (103 : Nat), (((120 : Nat), σ, H), J).snd (104 : Nat), (((120 : Nat), σ, H), J).snd (105 : Nat), (((120 : Nat), σ, H), J).snd (106 : Nat), (((120 : Nat), σ, H), J).snd (107 : Nat), (((120 : Nat), σ, H), J).snd (108 : Nat), (((120 : Nat), σ, H), J).snd (109 : Nat), (((120 : Nat), σ, H), J).snd (110 : Nat), (((120 : Nat), σ, H), J).snd (111 : Nat), (((120 : Nat), σ, H), J).snd (112 : Nat), (((120 : Nat), σ, H), J).snd (113 : Nat), (((120 : Nat), σ, H), J).snd (114 : Nat), (((120 : Nat), σ, H), J).snd (115 : Nat), (((120 : Nat), σ, H), J).snd (116 : Nat), (((120 : Nat), σ, H), J).snd (117 : Nat), (((120 : Nat), σ, H), J).snd (118 : Nat), (((120 : Nat), σ, H), J).snd (119 : Nat), (((120 : Nat), σ, H), J).snd (120 : Nat), (((120 : Nat), σ, H), J).snd (121 : Nat), (((120 : Nat), σ, H), J).snd (122 : Nat), (((120 : Nat), σ, H), J).snd (123 : Nat), (((120 : Nat), σ, H), J).snd (124 : Nat), (((120 : Nat), σ, H), J).snd (125 : Nat), (((120 : Nat), σ, H), J).snd (126 : Nat), (((120 : Nat), σ, H), J).snd (127 : Nat), (((120 : Nat), σ, H), J).snd (128 : Nat), (((120 : Nat), σ, H), J).snd (129 : Nat), (((120 : Nat), σ, H), J).snd (130 : Nat), (((120 : Nat), σ, H), J).snd (131 : Nat), (((120 : Nat), σ, H), J).snd (132 : Nat), (((120 : Nat), σ, H), J).snd (133 : Nat), (((120 : Nat), σ, H), J).snd (134 : Nat), (((120 : Nat), σ, H), J).snd (135 : Nat), (((120 : Nat), σ, H), J).snd (136 : Nat), (((120 : Nat), σ, H), J).snd (137 : Nat), (((120 : Nat), σ, H), J).snd (138 : Nat), (((120 : Nat), σ, H), J).snd (139 : Nat), (((120 : Nat), σ, H), J).snd (140 : Nat), (((120 : Nat), σ, H), J).snd (141 : Nat), (((120 : Nat), σ, H), J).snd (142 : Nat), (((120 : Nat), σ, H), J).snd (143 : Nat), (((120 : Nat), σ, H), J).snd (144 : Nat), (((120 : Nat), σ, H), J).snd (145 : Nat), (((120 : Nat), σ, H), J).snd (146 : Nat), (((120 : Nat), σ, H), J).snd (147 : Nat), (((120 : Nat), σ, H), J).snd (148 : Nat), (((120 : Nat), σ, H), J).snd (149 : Nat), (((120 : Nat), σ, H), J).snd (150 : Nat), (((120 : Nat), σ, H), J).snd (151 : Nat), (((120 : Nat), σ, H), J).snd (152 : Nat), (((120 : Nat), σ, H), J).snd (153 : Nat), (((120 : Nat), σ, H), J).snd (154 : Nat), (((120 : Nat), σ, H), J).snd (155 : Nat), (((120 : Nat), σ, H), J).snd (156 : Nat), (((120 : Nat), σ, H), J).snd (157 : Nat), (((120 : Nat), σ, H), J).snd (158 : Nat), (((120 : Nat), σ, H), J).snd (159 : Nat), (((120 : Nat), σ, H), J).snd (160 : Nat), (((120 : Nat), σ, H), J).snd (161 : Nat), (((120 : Nat), σ, H), J).snd (162 : Nat), (((120 : Nat), σ, H), J).snd (163 : Nat), (((120 : Nat), σ, H), J).snd (164 : Nat), (((120 : Nat), σ, H), J).snd (165 : Nat), (((120 : Nat), σ, H), J).snd (166 : Nat), (((120 : Nat), σ, H), J).snd (167 : Nat), (((120 : Nat), σ, H), J).snd (168 : Nat), (((120 : Nat), σ, H), J).snd (169 : Nat), (((120 : Nat), σ, H), J).snd (170 : Nat), (((120 : Nat), σ, H), J).snd (171 : Nat), (((120 : Nat), σ, H), J).snd (172 : Nat), (((120 : Nat), σ, H), J).snd (173 : Nat), iv 4, Value.bool false, (((4 : Nat), τ), J8).snd (176 : Nat), (((4 : Nat), τ), J8).snd (177 : Nat), (((4 : Nat), τ), J8).snd (178 : Nat), (((4 : Nat), τ), J8).snd (179 : Nat), (((4 : Nat), τ), J8).snd (180 : Nat), (((4 : Nat), τ), J8).snd (181 : Nat), (((4 : Nat), τ), J8).snd (182 : Nat), (((4 : Nat), τ), J8).snd (183 : Nat), (((4 : Nat), τ), J8).snd (184 : Nat), (((4 : Nat), τ), J8).snd (185 : Nat), (((4 : Nat), τ), J8).snd (186 : Nat), (((4 : Nat), τ), J8).snd (187 : Nat), (((4 : Nat), τ), J8).snd (188 : Nat), (((4 : Nat), τ), J8).snd (189 : Nat), pv xx1.fst 0, Value.slice xx2.fst (iotaN (0 : Nat) m).length xx2.snd, pv xx1.fst 0, Value.slice xx3.fst (iotaN m m).length xx3.snd, J9 194, J9 195, J9 196, J9 197, J9 198, J9 199, J9 200, J9 201, J9 202, J9 203, J9 204, J9 205, J9 206, J9 207, J9 208, J9 209, J9 210, J9 211, J9 212, J9 213, J9 214, J9 215, J9 216, J9 217, J9 218, J9 219, J9 220, J9 221, J9 222, J9 223, J9 224, J9 225, J9 226]) (L' := [I2 xx2.fst xx2.snd (iotaN (0 : Nat) m), I2 xx3.fst xx3.snd (iotaN m m), A]) (by kernel_rfl) rfl ?_)
        by_cases htl : t < m
        · have hi0 := iotaN_get 0 m t htl
          have hi1 := iotaN_get m m t htl
          (focus
            refine Xg.at_seq ?_
            refine Xg.at_seq ?_
            refine Xg.at_region ?_
            refine Xg.ops_op (by kernel_rfl) (Xg.opx_pure ((iv (↑t : Int))) rfl (fun _ => by kernel_rfl) ?_)
            refine Xg.ops_op (by kernel_rfl) (Xg.opx_pure ((iv (↑m : Int))) rfl (fun _ => by kernel_rfl) ?_)
            refine Xg.ops_op (by kernel_rfl) (Xg.opx_pure (.bool (decide ((((↑t : Int)) : Int) < ((↑m : Int))))) rfl (fun _ => by kernel_rfl) ?_)
            refine Xg.ops_nil ?_
            refine Xg.at_true (t := decide (((↑t : Int) < (↑m : Int)))) (by kernel_rfl) (decide_eq_true (by omega)) ?_
            refine Xg.at_skip ?_
            refine Xg.at_seq ?_
            refine Xg.at_block ?_
            refine Xg.at_seq ?_
            refine Xg.at_region ?_
            refine Xg.ops_op (by kernel_rfl) (Xg.opx_pure ((Value.slice xx2.fst (iotaN (0 : Nat) m).length xx2.snd)) rfl (fun _ => by kernel_rfl) ?_)
            refine Xg.ops_op (by kernel_rfl) (Xg.opx_pure ((iv (↑(iotaN (0 : Nat) m).length : Int))) rfl (fun _ => by kernel_rfl) ?_)
            refine Xg.ops_op (by kernel_rfl) (Xg.opx_pure ((iv (↑m : Int))) rfl (fun _ => by kernel_rfl) ?_)
            refine Xg.ops_op (by kernel_rfl) (Xg.opx_pure (.bool (!decide ((((↑(iotaN (0 : Nat) m).length : Int)) : Int) = ((↑m : Int))))) rfl (fun _ => by kernel_rfl) ?_)
            refine Xg.ops_op (by kernel_rfl) (Xg.opx_pure ((Value.bool !decide ((↑(iotaN (0 : Nat) m).length : Int) = (↑m : Int)))) rfl (fun _ => by kernel_rfl) ?_)
            refine Xg.ops_flag (j := 203) (c := (!decide ((↑(iotaN (0 : Nat) m).length : Int) = (↑m : Int)))) (by kernel_rfl) (fun xh4 => absurd xh4 (by rw [decide_eq_true (p := ((↑(iotaN (0 : Nat) m).length : Int) = (↑m : Int))) (by omega)]; decide)) (fun _ => ?_)
            refine Xg.ops_op (by kernel_rfl) (Xg.opx_pure ((Value.slice xx3.fst (iotaN m m).length xx3.snd)) rfl (fun _ => by kernel_rfl) ?_)
            refine Xg.ops_op (by kernel_rfl) (Xg.opx_pure ((iv (↑(iotaN m m).length : Int))) rfl (fun _ => by kernel_rfl) ?_)
            refine Xg.ops_op (by kernel_rfl) (Xg.opx_pure ((iv (↑m : Int))) rfl (fun _ => by kernel_rfl) ?_)
            refine Xg.ops_op (by kernel_rfl) (Xg.opx_pure (.bool (!decide ((((↑(iotaN m m).length : Int)) : Int) = ((↑m : Int))))) rfl (fun _ => by kernel_rfl) ?_)
            refine Xg.ops_flag (j := 207) (c := (!decide ((↑(iotaN m m).length : Int) = (↑m : Int)))) (by kernel_rfl) (fun xh4 => absurd xh4 (by rw [decide_eq_true (p := ((↑(iotaN m m).length : Int) = (↑m : Int))) (by omega)]; decide)) (fun _ => ?_)
            refine Xg.ops_op (by kernel_rfl) (Xg.opx_pure ((Value.bool false)) rfl (fun _ => by kernel_rfl) ?_)
            refine Xg.ops_op (by kernel_rfl) (Xg.opx_pure ((Value.bool false)) rfl (fun _ => by kernel_rfl) ?_)
            refine Xg.ops_op (by kernel_rfl) (Xg.opx_pure ((Value.slice xx2.fst (iotaN (0 : Nat) m).length xx2.snd)) rfl (fun _ => by kernel_rfl) ?_)
            refine Xg.ops_op (by kernel_rfl) (Xg.opx_pure ((iv (↑t : Int))) rfl (fun _ => by kernel_rfl) ?_)
            refine Xg.ops_op (by kernel_rfl) (Xg.opx_ix_own (elem := 3) (kd := .i64) (e := ((↑t : Int))) 0 1 t t rfl (by kernel_rfl) (by kernel_rfl) (by kernel_rfl) (by kernel_rfl) rfl (by omega) (by omega) ?_)
            refine Xg.ops_op (by kernel_rfl) (Xg.opx_load_own (a := xx2.fst) (off := t) 0 (iv ((iotaN (0 : Nat) m).getD t (0 : Int))) rfl (by kernel_rfl) (Xg.get_ints (by omega)) (by kernel_rfl) ?_)
            refine Xg.ops_op (by kernel_rfl) (Xg.opx_pure ((iv (↑t : Int))) rfl (fun _ => by kernel_rfl) ?_)
            refine Xg.ops_op (by kernel_rfl) (Xg.opx_pure (.bool (!decide ((((iotaN (0 : Nat) m).getD t (0 : Int)) : Int) = ((↑t : Int))))) rfl (fun _ => by kernel_rfl) ?_)
            refine Xg.ops_flag (j := 215) (c := (!decide ((iotaN (0 : Nat) m).getD t (0 : Int) = (↑t : Int)))) (by kernel_rfl) (fun xh4 => absurd xh4 (by rw [decide_eq_true (p := ((iotaN (0 : Nat) m).getD t (0 : Int) = (↑t : Int))) (by omega)]; decide)) (fun _ => ?_)
            refine Xg.ops_op (by kernel_rfl) (Xg.opx_pure ((Value.bool false)) rfl (fun _ => by kernel_rfl) ?_)
            refine Xg.ops_op (by kernel_rfl) (Xg.opx_pure ((Value.bool false)) rfl (fun _ => by kernel_rfl) ?_)
            refine Xg.ops_op (by kernel_rfl) (Xg.opx_pure ((Value.slice xx3.fst (iotaN m m).length xx3.snd)) rfl (fun _ => by kernel_rfl) ?_)
            refine Xg.ops_op (by kernel_rfl) (Xg.opx_pure ((iv (↑t : Int))) rfl (fun _ => by kernel_rfl) ?_)
            refine Xg.ops_op (by kernel_rfl) (Xg.opx_ix_own (elem := 3) (kd := .i64) (e := ((↑t : Int))) 1 1 t t rfl (by kernel_rfl) (by kernel_rfl) (by kernel_rfl) (by kernel_rfl) rfl (by omega) (by omega) ?_)
            refine Xg.ops_op (by kernel_rfl) (Xg.opx_load_own (a := xx3.fst) (off := t) 1 (iv ((iotaN m m).getD t (0 : Int))) rfl (by kernel_rfl) (Xg.get_ints (by omega)) (by kernel_rfl) ?_)
            refine Xg.ops_op (by kernel_rfl) (Xg.opx_pure ((iv (↑m : Int))) rfl (fun _ => by kernel_rfl) ?_)
            refine Xg.ops_op (by kernel_rfl) (Xg.opx_pure ((iv (↑t : Int))) rfl (fun _ => by kernel_rfl) ?_)
            refine Xg.ops_op (by kernel_rfl) (Xg.opx_int .i64 (IntKind.wrap .i64 (((↑m : Int) + (↑t : Int)))) rfl (fun _ => by kernel_rfl) (Xg.wrap_i64_in (by omega)) ?_)
            refine Xg.ops_op (by kernel_rfl) (Xg.opx_pure (.bool (!decide ((((iotaN m m).getD t (0 : Int)) : Int) = ((↑m : Int) + (↑t : Int))))) rfl (fun _ => by kernel_rfl) ?_)
            refine Xg.ops_flag (j := 225) (c := (!decide ((iotaN m m).getD t (0 : Int) = (↑m : Int) + (↑t : Int)))) (by kernel_rfl) (fun xh4 => absurd xh4 (by rw [decide_eq_true (p := ((iotaN m m).getD t (0 : Int) = (↑m : Int) + (↑t : Int))) (by omega)]; decide)) (fun _ => ?_)
            refine Xg.ops_op (by kernel_rfl) (Xg.opx_pure ((Value.bool false)) rfl (fun _ => by kernel_rfl) ?_)
            refine Xg.ops_nil ?_
            refine Xg.at_false (t := false) (by kernel_rfl) rfl ?_
            refine Xg.at_skip ?_
            refine Xg.at_inBlock ?_
            refine Xg.at_region ?_
            refine Xg.ops_op (by kernel_rfl) (Xg.opx_pure ((iv (↑t : Int))) rfl (fun _ => by kernel_rfl) ?_)
            refine Xg.ops_op (by kernel_rfl) (Xg.opx_int .i64 (IntKind.wrap .i64 (((↑t : Int) + (1 : Int)))) rfl (fun _ => by kernel_rfl) (Xg.wrap_i64_in (by omega)) ?_)
            refine Xg.ops_op (by kernel_rfl) (Xg.opx_pure ((iv ((↑t : Int) + (1 : Int)))) rfl (fun _ => by kernel_rfl) ?_)
            refine Xg.ops_nil ?_
            refine Xg.at_inLoop ?_)
          (focus
            refine Xg.at_keep [0, 1, 2] (by kernel_rfl) ?_
            refine Xs.same ?_ (fun J9 => ih9 (((t + 1)), J9) ?_ ?_) (by kernel_rfl))
          · rfl
          · exact htl
          · dsimp only; omega
        · clear ih9
          (focus
            refine Xg.at_seq ?_
            refine Xg.at_seq ?_
            refine Xg.at_region ?_
            refine Xg.ops_op (by kernel_rfl) (Xg.opx_pure ((iv (↑t : Int))) rfl (fun _ => by kernel_rfl) ?_)
            refine Xg.ops_op (by kernel_rfl) (Xg.opx_pure ((iv (↑m : Int))) rfl (fun _ => by kernel_rfl) ?_)
            refine Xg.ops_op (by kernel_rfl) (Xg.opx_pure (.bool (decide ((((↑t : Int)) : Int) < ((↑m : Int))))) rfl (fun _ => by kernel_rfl) ?_)
            refine Xg.ops_nil ?_
            refine Xg.at_false (t := decide (((↑t : Int) < (↑m : Int)))) (by kernel_rfl) (decide_eq_false (by omega)) ?_
            refine Xg.at_exit rfl ?_
            refine Xg.at_seq ?_
            refine Xg.at_region ?_
            refine Xg.ops_op (by kernel_rfl) (Xg.opx_pure ((Value.bool true)) rfl (fun _ => by kernel_rfl) ?_)
            refine Xg.ops_nil ?_
            refine Xg.at_ret_ps (v := (Value.bool true)) [2] [A] Go.Proofs.Try.func8 (fun _ => by kernel_rfl) (by kernel_rfl) (by kernel_rfl) ?_
            exact ⟨by kernel_rfl, by kernel_rfl⟩)
    · obtain rfl : i = xs.length := by omega
      refine at_reslot 10 (.slice xx1.2.1 H.length xx1.2.2) (.slice xx1.2.1 4 xx1.2.2) (by kernel_rfl) (by rw [hl4]) ?_
      (focus
        refine Xg.at_seq ?_
        refine Xg.at_seq ?_
        refine Xg.at_region ?_
        refine Xg.ops_op (by kernel_rfl) (Xg.opx_pure ((iv (↑xs.length : Int))) rfl (fun _ => by kernel_rfl) ?_)
        refine Xg.ops_op (by kernel_rfl) (Xg.opx_pure ((Value.slice a xs.length c)) rfl (fun _ => by kernel_rfl) ?_)
        refine Xg.ops_op (by kernel_rfl) (Xg.opx_pure ((iv (↑xs.length : Int))) rfl (fun _ => by kernel_rfl) ?_)
        refine Xg.ops_op (by kernel_rfl) (Xg.opx_pure (.bool (decide ((((↑xs.length : Int)) : Int) < ((↑xs.length : Int))))) rfl (fun _ => by kernel_rfl) ?_)
        refine Xg.ops_op (by kernel_rfl) (Xg.opx_pure ((Value.bool (decide ((↑xs.length : Int) < (↑xs.length : Int))))) rfl (fun _ => by kernel_rfl) ?_)
        refine Xg.ops_flag (j := 49) (c := (decide ((↑xs.length : Int) < (↑xs.length : Int)))) (by kernel_rfl) (fun xh2 => absurd (of_decide_eq_true xh2) (by omega)) (fun _ => ?_)
        refine Xg.ops_skip (by kernel_rfl) ?_
        refine Xg.ops_skip (by kernel_rfl) ?_
        refine Xg.ops_op (by kernel_rfl) (Xg.opx_pure ((Value.bool false)) rfl (fun _ => by kernel_rfl) ?_)
        refine Xg.ops_nil ?_
        refine Xg.at_false (t := false) (by kernel_rfl) rfl ?_
        refine Xg.at_exit rfl ?_
        refine Xg.at_seq ?_
        refine Xg.at_seq ?_
        refine Xg.at_region ?_
        refine Xg.ops_op (by kernel_rfl) (Xg.opx_pure ((iv 0)) rfl (fun _ => by kernel_rfl) ?_)
        refine Xg.ops_nil ?_
        refine Xg.at_block ?_)
      (focus
        refine Xg.at_keep [0, 1, 3] (by kernel_rfl) ?_
        refine Xg.at_rounds_inv (α := (Nat × Po) × (Nat → Value)) (fun x => ((fun x => x.1 ≤ 4 ∧ CI m x.1 x.2) : (Nat × Po) → Prop) x.1) (fun x => ((fun x => 4 - x.1) : (Nat × Po) → Nat) x.1) (fun x => Xg.headT [Value.slice a xs.length c, iv quota, iv many, tu, tu, tu, J 6, iv (↑q : Int), iv (↑m : Int), pv xx1.fst 0, Value.slice xx1.snd.fst H.length xx1.snd.snd, Value.bool true, iv (↑xs.length : Int), J 13, J 14, J 15, J 16, J 17, J 18, J 19, J 20, J 21, J 22, J 23, J 24, iv 0, tu, tu, tu, tu, tu, iv quota, iv (↑q : Int), iv many, iv (↑(pickN many (6 : Nat)) : Int), iv (↑m : Int), Value.tuple #[pv xx1.fst 0, Value.slice xx1.snd.fst (4 : Nat) xx1.snd.snd, Value.bool true], iv (↑m : Int), iv (↑q : Int), Value.tuple #[pv xx1.fst 0, Value.slice xx1.snd.fst (4 : Nat) xx1.snd.snd, Value.bool true], pv xx1.fst 0, Value.slice xx1.snd.fst (4 : Nat) xx1.snd.snd, Value.bool true, Value.bool true, Value.bool false, iv (↑xs.length : Int), Value.slice a xs.length c, iv (↑xs.length : Int), Value.bool (decide ((↑xs.length : Int) < (↑xs.length : Int))), Value.bool false, tu, tu, Value.bool false, J 53, J 54, J 55, J 56, J 57, J 58, J 59, J 60, J 61, J 62, J 63, J 64, J 65, J 66, J 67, J 68, J 69, J 70, J 71, J 72, J 73, J 74, J 75, J 76, J 77, J 78, J 79, J 80, J 81, J 82, J 83, J 84, J 85, J 86, J 87, J 88, J 89, J 90, J 91, J 92, J 93, J 94, J 95, J 96, J 97, J 98, J 99, J 100, J 101, J 102, J 103, J 104, J 105, J 106, J 107, J 108, J 109, J 110, J 111, J 112, J 113, J 114, J 115, J 116, J 117, J 118, J 119, J 120, J 121, J 122, J 123, J 124, J 125, J 126, J 127, J 128, J 129, J 130, J 131, J 132, J 133, J 134, J 135, J 136, J 137, J 138, J 139, J 140, J 141, J 142, J 143, J 144, J 145, J 146, J 147, J 148, J 149, J 150, J 151, J 152, J 153, J 154, J 155, J 156, J 157, J 158, J 159, J 160, J 161, J 162, J 163, J 164, J 165, J 166, J 167, J 168, J 169, J 170, J 171, J 172, J 173, tu, tu, tu, tu, tu, tu, tu, tu, tu, tu, tu, tu, tu, tu, tu, tu, tu, tu, tu, tu, tu, tu, tu, tu, tu, tu, tu, tu, tu, tu, tu, tu, tu, tu, tu, tu, tu, tu, tu, tu, tu, tu, tu, tu, tu, tu, tu, tu, tu, tu, tu, tu, tu] [6, 26, 27, 174, 175, 176, 177, 178, 179, 180, 181, 182, 183, 184, 185, 186, 187, 188, 189] (((fun x => [(25, .int .i64 (x.1 : Nat))]) : (Nat × Po) → List (Nat × Go.Value)) x.1) x.2) (fun x => ((fun x => [PoolS xx1.1 x.2, recsO 62 3 hdK xx1.2.1 xx1.2.2 H, A]) : (Nat × Po) → List Go.Sl.HP) x.1) (((0, σ)), fun j9 => ([Value.slice a xs.length c, iv quota, iv many, tu, tu, tu, J 6, iv (↑q : Int), iv (↑m : Int), pv xx1.fst 0, Value.slice xx1.snd.fst H.length xx1.snd.snd, Value.bool true, iv (↑xs.length : Int), J 13, J 14, J 15, J 16, J 17, J 18, J 19, J 20, J 21, J 22, J 23, J 24, iv 0, tu, tu, tu, tu, tu, iv quota, iv (↑q : Int), iv many, iv (↑(pickN many (6 : Nat)) : Int), iv (↑m : Int), Value.tuple #[pv xx1.fst 0, Value.slice xx1.snd.fst (4 : Nat) xx1.snd.snd, Value.bool true], iv (↑m : Int), iv (↑q : Int), Value.tuple #[pv xx1.fst 0, Value.slice xx1.snd.fst (4 : Nat) xx1.snd.snd, Value.bool true], pv xx1.fst 0, Value.slice xx1.snd.fst (4 : Nat) xx1.snd.snd, Value.bool true, Value.bool true, Value.bool false, iv (↑xs.length : Int), Value.slice a xs.length c, iv (↑xs.length : Int), Value.bool (decide ((↑xs.length : Int) < (↑xs.length : Int))), Value.bool false, tu, tu, Value.bool false, J 53, J 54, J 55, J 56, J 57, J 58, J 59, J 60, J 61, J 62, J 63, J 64, J 65, J 66, J 67, J 68, J 69, J 70, J 71, J 72, J 73, J 74, J 75, J 76, J 77, J 78, J 79, J 80, J 81, J 82, J 83, J 84, J 85, J 86, J 87, J 88, J 89, J 90, J 91, J 92, J 93, J 94, J 95, J 96, J 97, J 98, J 99, J 100, J 101, J 102, J 103, J 104, J 105, J 106, J 107, J 108, J 109, J 110, J 111, J 112, J 113, J 114, J 115, J 116, J 117, J 118, J 119, J 120, J 121, J 122, J 123, J 124, J 125, J 126, J 127, J 128, J 129, J 130, J 131, J 132, J 133, J 134, J 135, J 136, J 137, J 138, J 139, J 140, J 141, J 142, J 143, J 144, J 145, J 146, J 147, J 148, J 149, J 150, J 151, J 152, J 153, J 154, J 155, J 156, J 157, J 158, J 159, J 160, J 161, J 162, J 163, J 164, J 165, J 166, J 167, J 168, J 169, J 170, J 171, J 172, J 173, tu, tu, tu, tu, tu, tu, tu, tu, tu, tu, tu, tu, tu, tu, tu, tu, tu, tu, tu, tu, tu, tu, tu, tu, tu, tu, tu, tu, tu, tu, tu, tu, tu, tu, tu, tu, tu, tu, tu, tu, tu, tu, tu, tu, tu, tu, tu, tu, tu, tu, tu, tu, tu] : List Value).getD j9 undef) (by kernel_rfl) (by kernel_rfl) ?_ ?_)
      · exact ⟨Nat.zero_le _, hC⟩
      rintro ⟨⟨k, τ⟩, J8⟩ hk ih8
      obtain ⟨hk, hCk⟩ := hk
      dsimp only at hk hCk
      (focus
        refine Xg.At.same (T' := [Value.slice a xs.length c, iv quota, iv many, tu, tu, tu, J8 6, iv (↑q : Int), iv (↑m : Int), pv xx1.fst 0, Value.slice xx1.snd.fst H.length xx1.snd.snd, Value.bool true, iv (↑xs.length : Int), J 13, J 14, J 15, J 16, J 17, J 18, J 19, J 20, J 21, J 22, J 23, J 24, iv (↑k : Int), J8 26, J8 27, tu, tu, tu, iv quota, iv (↑q : Int), iv many, iv (↑(pickN many (6 : Nat)) : Int), iv (↑m : Int), Value.tuple #[pv xx1.fst 0, Value.slice xx1.snd.fst (4 : Nat) xx1.snd.snd, Value.bool true], iv (↑m : Int), iv (↑q : Int), Value.tuple #[pv xx1.fst 0, Value.slice xx1.snd.fst (4 : Nat) xx1.snd.snd, Value.bool true], pv xx1.fst 0, Value.slice xx1.snd.fst (4 : Nat) xx1.snd.snd, Value.bool true, Value.bool true, Value.bool false, iv (↑xs.length : Int), Value.slice a xs.length c, iv (↑xs.length : Int), Value.bool (decide ((↑xs.length : Int) < (↑xs.length : Int))), Value.bool false, tu, tu, Value.bool false, J 53, J 54, J 55, J 56, J 57, J 58, J 59, J 60, J 61, J 62, J 63, J 64, J 65, J 66, J 67, J 68, J 69, J 70, J 71, J 72, J 73, J 74, J 75, J 76, J 77, J 78, J 79, J 80, J 81, J 82, J 83, J 84, J 85, J 86, J 87, J 88, J 89, J 90, J 91, J 92, J 93, J 94, J 95, J 96, J 97, J 98, J 99, J 100, J 101, J 102, J 103, J 104, J 105, J 106, J 107, J 108, J 109, J 110, J 111, J 112, J 113, J 114, J 115, J 116, J 117, J 118, J 119, J 120, J 121, J 122, J 123, J 124, J 125, J 126, J 127, J 128, J 129, J 130, J 131, J 132, J 133, J 134, J 135, J 136, J 137, J 138, J 139, J 140, J 141, J 142, J 143, J 144, J 145, J 146, J 147, J 148, J 149, J 150, J 151, J 152, J 153, J 154, J 155, J 156, J 157, J 158, J 159, J 160, J 161, J 162, J 163, J 164, J 165, J 166, J 167, J 168, J 169, J 170, J 171, J 172, J 173, J8 174, J8 175, J8 176, J8 177, J8 178, J8 179, J8 180, J8 181, J8 182, J8 183, J8 184, J8 185, J8 186, J8 187, J8 188, J8 189, tu, tu, tu, tu, tu, tu, tu, tu, tu, tu, tu, tu, tu, tu, tu, tu, tu, tu, tu, tu, tu, tu, tu, tu, tu, tu, tu, tu, tu, tu, tu, tu, tu, tu, tu, tu, tu]) (L' := [PoolS xx1.fst ((k, τ), J8).fst.snd, recsO (62 : Nat) (3 : Nat) hdK xx1.snd.fst xx1.snd.snd H, A]) (by kernel_rfl) rfl ?_)
      by_cases hk4 : k < 4
      · have hkl : k < H.length := by omega
        obtain ⟨ρ, us, hρ, hcl⟩ := hCk.step hk4
        have hcl := hcl xx1.1
        have hid := (hH.all k hk4).id
        rw [← hid] at hcl
        (focus
          refine Xg.at_seq ?_
          refine Xg.at_seq ?_
          refine Xg.at_region ?_
          refine Xg.ops_op (by kernel_rfl) (Xg.opx_pure ((iv (↑k : Int))) rfl (fun _ => by kernel_rfl) ?_)
          refine Xg.ops_op (by kernel_rfl) (Xg.opx_pure (.bool (decide ((((↑k : Int)) : Int) < ((4 : Int))))) rfl (fun _ => by kernel_rfl) ?_)
          refine Xg.ops_nil ?_
          refine Xg.at_true (t := decide (((↑k : Int) < (4 : Int)))) (by kernel_rfl) (decide_eq_true (by omega)) ?_
          refine Xg.at_skip ?_
          refine Xg.at_seq ?_
          refine Xg.at_block ?_
          refine Xg.at_seq ?_
          refine Xg.at_region ?_
          refine Xg.ops_op (by kernel_rfl) (Xg.opx_pure ((pv xx1.fst 0)) rfl (fun _ => by kernel_rfl) ?_)
          refine Xg.ops_op (by kernel_rfl) (Xg.opx_pure ((Value.slice xx1.snd.fst H.length xx1.snd.snd)) rfl (fun _ => by kernel_rfl) ?_)
          refine Xg.ops_op (by kernel_rfl) (Xg.opx_pure ((iv (↑k : Int))) rfl (fun _ => by kernel_rfl) ?_)
          refine Xg.ops_op (by kernel_rfl) (Xg.opx_ix_own (elem := 62) (kd := .i64) (e := ((↑k : Int))) 1 3 k (k * (3 : Nat)) rfl (by kernel_rfl) (by kernel_rfl) (by kernel_rfl) (by kernel_rfl) rfl (by omega) (by omega) ?_)
          refine Xg.ops_op (by kernel_rfl) (Xg.opx_pure ((Value.pointer (some (Addr.mk (blk xx1.snd.fst) (k * (3 : Nat)) none)))) rfl (fun _ => by kernel_rfl) ?_)
          refine Xg.ops_op (by kernel_rfl) (Xg.opx_load_own (a := xx1.snd.fst) (off := (k * (3 : Nat))) 1 (iv (↑(H.getD k default).id : Int)) rfl (by kernel_rfl) (Xg.get_recs' (wd := 3) (fun _ => rfl) default k 0 (by omega) (by decide) (by omega) (by kernel_rfl)) (by kernel_rfl) ?_)
          refine Xg.ops_op (by kernel_rfl) (Xg.opx_call1' [0] [PoolS xx1.fst ρ, recsO (62 : Nat) (3 : Nat) hdK xx1.snd.fst xx1.snd.snd H, A] (fun _ => by kernel_rfl) (@hcl ) (by kernel_rfl) (by kernel_rfl) (by kernel_rfl) ?_)
          refine Xg.ops_op (by kernel_rfl) (Xg.opx_pure ((Value.tuple #[iv us, iv 0])) rfl (fun _ => by kernel_rfl) ?_)
          refine Xg.ops_op (by kernel_rfl) (Xg.opx_pure ((iv us)) rfl (fun _ => by kernel_rfl) ?_)
          refine Xg.ops_op (by kernel_rfl) (Xg.opx_pure ((iv 0)) rfl (fun _ => by kernel_rfl) ?_)
          refine Xg.ops_op (by kernel_rfl) (Xg.opx_pure ((iv us)) rfl (fun _ => by kernel_rfl) ?_)
          refine Xg.ops_op (by kernel_rfl) (Xg.opx_pure ((iv 0)) rfl (fun _ => by kernel_rfl) ?_)
          refine Xg.ops_nil ?_
          refine Xg.at_seq ?_
          refine Xg.at_region ?_
          refine Xg.ops_op (by kernel_rfl) (Xg.opx_pure ((iv 0)) rfl (fun _ => by kernel_rfl) ?_)
          refine Xg.ops_op (by kernel_rfl) (Xg.opx_pure ((Value.bool false)) rfl (fun _ => by kernel_rfl) ?_)
          refine Xg.ops_nil ?_
          refine Xg.at_false (t := false) (by kernel_rfl) rfl ?_
          refine Xg.at_skip ?_
          refine Xg.at_inBlock ?_
          refine Xg.at_region ?_
          refine Xg.ops_op (by kernel_rfl) (Xg.opx_pure ((iv (↑k : Int))) rfl (fun _ => by kernel_rfl) ?_)
          refine Xg.ops_op (by kernel_rfl) (Xg.opx_int .i64 (IntKind.wrap .i64 (((↑k : Int) + (1 : Int)))) rfl (fun _ => by kernel_rfl) (Xg.wrap_i64_in (by omega)) ?_)
          refine Xg.ops_op (by kernel_rfl) (Xg.opx_pure ((iv ((↑k : Int) + (1 : Int)))) rfl (fun _ => by kernel_rfl) ?_)
          refine Xg.ops_nil ?_
          refine Xg.at_inLoop ?_)
        (focus
          refine Xg.at_keep [0, 1, 2] (by kernel_rfl) ?_
          refine Xs.same ?_ (fun J9 => ih8 (((k + 1, ρ)), J9) ?_ ?_) (by kernel_rfl))
        · rfl
        · exact ⟨hk4, hρ⟩
        · dsimp only; omega
      · obtain rfl : k = 4 := by omega
        clear ih8
        obtain ⟨f0, f1⟩ := hCk.frs
        have hf0 := free_p hCk.pi xx1.1 0 (by rw [hCk.nc]; decide) (by rw [hCk.na]; decide)
        have hf1 := free_p hCk.pi xx1.1 1 (by rw [hCk.nc]; decide) (by rw [hCk.na]; decide)
        rw [f0] at hf0
        rw [f1] at hf1
        have hg0 := iotaN_len 0 m
        have hg1 := iotaN_len m m
        (focus
          refine Xg.at_seq ?_
          refine Xg.at_seq ?_
          refine Xg.at_region ?_
          refine Xg.ops_op (by kernel_rfl) (Xg.opx_pure ((iv 4)) rfl (fun _ => by kernel_rfl) ?_)
          refine Xg.ops_op (by kernel_rfl) (Xg.opx_pure ((Value.bool false)) rfl (fun _ => by kernel_rfl) ?_)
          refine Xg.ops_nil ?_
          refine Xg.at_false (t := false) (by kernel_rfl) rfl ?_
          refine Xg.at_exit rfl ?_
          refine Xg.at_seq ?_
          refine Xg.at_region ?_
          refine Xg.ops_op (by kernel_rfl) (Xg.opx_pure ((pv xx1.fst 0)) rfl (fun _ => by kernel_rfl) ?_)
          refine Xg.ops_op (by kernel_rfl) (Xg.opx_callE' [0] (fun xx2 => [PoolS xx1.fst τ, I2 xx2.fst xx2.snd (iotaN (0 : Nat) m), recsO (62 : Nat) (3 : Nat) hdK xx1.snd.fst xx1.snd.snd H, A]) (fun _ => by kernel_rfl) (@hf0 ) (by kernel_rfl) (by kernel_rfl) (by kernel_rfl) fun xx2 xh2 => ?_)
          try dsimp only at xh2
          refine Xg.ops_op (by kernel_rfl) (Xg.opx_pure ((Value.slice xx2.fst (iotaN (0 : Nat) m).length xx2.snd)) rfl (fun _ => by kernel_rfl) ?_)
          refine Xg.ops_nil ?_
          refine Xg.at_seq ?_
          refine Xg.at_region ?_
          refine Xg.ops_op (by kernel_rfl) (Xg.opx_pure ((pv xx1.fst 0)) rfl (fun _ => by kernel_rfl) ?_)
          refine Xg.ops_op (by kernel_rfl) (Xg.opx_callE' [0] (fun xx3 => [PoolS xx1.fst τ, I2 xx3.fst xx3.snd (iotaN m m), I2 xx2.fst xx2.snd (iotaN (0 : Nat) m), recsO (62 : Nat) (3 : Nat) hdK xx1.snd.fst xx1.snd.snd H, A]) (fun _ => by kernel_rfl) (@hf1 ) (by kernel_rfl) (by kernel_rfl) (by kernel_rfl) fun xx3 xh3 => ?_)
          try dsimp only at xh3
          refine Xg.ops_op (by kernel_rfl) (Xg.opx_pure ((Value.slice xx3.fst (iotaN m m).length xx3.snd)) rfl (fun _ => by kernel_rfl) ?_)
          refine Xg.ops_nil ?_
          refine Xg.at_seq ?_
          refine Xg.at_seq ?_
          refine Xg.at_region ?_
          refine Xg.ops_op (by kernel_rfl) (Xg.opx_pure ((iv 0)) rfl (fun _ => by kernel_rfl) ?_)
          refine Xg.ops_nil ?_
          refine Xg.at_block ?_)
        (focus
          refine Xg.at_keep [2, 1, 4] (by kernel_rfl) ?_
          refine Xg.at_rounds_inv (α := (Nat) × (Nat → Value)) (fun x => ((fun t => t ≤ m) : (Nat) → Prop) x.1) (fun x => ((fun t => m - t) : (Nat) → Nat) x.1) (fun x => Xg.headT [Value.slice a xs.length c, iv quota, iv many, tu, tu, tu, (((4 : Nat), τ), J8).snd (6 : Nat), iv (↑q : Int), iv (↑m : Int), pv xx1.fst 0, Value.slice xx1.snd.fst H.length xx1.snd.snd, Value.bool true, iv (↑xs.length : Int), J 13, J 14, J 15, J 16, J 17, J 18, J 19, J 20, J 21, J 22, J 23, J 24, iv 4, (((4 : Nat), τ), J8).snd (26 : Nat), (((4 : Nat), τ), J8).snd (27 : Nat), Value.slice xx2.fst (iotaN (0 : Nat) m).length xx2.snd, Value.slice xx3.fst (iotaN m m).length xx3.snd, iv 0, iv quota, iv (↑q : Int), iv many, iv (↑(pickN many (6 : Nat)) : Int), iv (↑m : Int), Value.tuple #[pv xx1.fst 0, Value.slice xx1.snd.fst (4 : Nat) xx1.snd.snd, Value.bool true], iv (↑m : Int), iv (↑q : Int), Value.tuple #[pv xx1.fst 0, Value.slice xx1.snd.fst (4 : Nat) xx1.snd.snd, Value.bool true], pv xx1.fst 0, Value.slice xx1.snd.fst (4 : Nat) xx1.snd.snd, Value.bool true, Value.bool true, Value.bool false, iv (↑xs.length : Int), Value.slice a xs.length c, iv (↑xs.length : Int), Value.bool (decide ((↑xs.length : Int) < (↑xs.length : Int))), Value.bool false, tu, tu, Value.bool false, J 53, J 54, J 55, J 56, J 57, J 58, J 59, J 60, J 61, J 62, J 63, J 64, J 65, J 66, J 67, J 68, J 69, J 70, J 71, J 72, J 73, J 74, J 75, J 76, J 77, J 78, J 79, J 80, J 81, J 82, J 83, J 84, J 85, J 86, J 87, J 88, J 89, J 90, J 91, J 92, J 93, J 94, J 95, J 96, J 97, J 98, J 99, J 100, J 101, J 102, J 103, J 104, J 105, J 106, J 107, J 108, J 109, J 110, J 111, J 112, J 113, J 114, J 115, J 116, J 117, J 118, J 119, J 120, J 121, J 122, J 123, J 124, J 125, J 126, J 127, J 128, J 129, J 130, J 131, J 132, J 133, J 134, J 135, J 136, J 137, J 138, J 139, J 140, J 141, J 142, J 143, J 144, J 145, J 146, J 147, J 148, J 149, J 150, J 151, J 152, J 153, J 154, J 155, J 156, J 157, J 158, J 159, J 160, J 161, J 162, J 163, J 164, J 165, J 166, J 167, J 168, J 169, J 170, J 171, J 172, J 173, iv 4, Value.bool false, (((4 : Nat), τ), J8).snd (176 : Nat), (((4 : Nat), τ), J8).snd (177 : Nat), (((4 : Nat), τ), J8).snd (178 : Nat), (((4 : Nat), τ), J8).snd (179 : Nat), (((4 : Nat), τ), J8).snd (180 : Nat), (((4 : Nat), τ), J8).snd (181 : Nat), (((4 : Nat), τ), J8).snd (182 : Nat), (((4 : Nat), τ), J8).snd (183 : Nat), (((4 : Nat), τ), J8).snd (184 : Nat), (((4 : Nat), τ), J8).snd (185 : Nat), (((4 : Nat), τ), J8).snd (186 : Nat), (((4 : Nat), τ), J8).snd (187 : Nat), (((4 : Nat), τ), J8).snd (188 : Nat), (((4 : Nat), τ), J8).snd (189 : Nat), pv xx1.fst 0, Value.slice xx2.fst (iotaN (0 : Nat) m).length xx2.snd, pv xx1.fst 0, Value.slice xx3.fst (iotaN m m).length xx3.snd, tu, tu, tu, tu, tu, tu, tu, tu, tu, tu, tu, tu, tu, tu, tu, tu, tu, tu, tu, tu, tu, tu, tu, tu, tu, tu, tu, tu, tu, tu, tu, tu, tu] [6, 194, 195, 196, 197, 198, 199, 200, 201, 202, 203, 204, 205, 206, 207, 208, 209, 210, 211, 212, 213, 214, 215, 216, 217, 218, 219, 220, 221, 222, 223, 224, 225, 226] (((fun t => [(30, .int .i64 (t : Nat))]) : (Nat) → List (Nat × Go.Value)) x.1) x.2) (fun x => ((fun t => [I2 xx2.1 xx2.2 (iotaN 0 m), I2 xx3.1 xx3.2 (iotaN m m), A]) : (Nat) → List Go.Sl.HP) x.1) ((0), fun j9 => ([Value.slice a xs.length c, iv quota, iv many, tu, tu, tu, (((4 : Nat), τ), J8).snd (6 : Nat), iv (↑q : Int), iv (↑m : Int), pv xx1.fst 0, Value.slice xx1.snd.fst H.length xx1.snd.snd, Value.bool true, iv (↑xs.length : Int), J 13, J 14, J 15, J 16, J 17, J 18, J 19, J 20, J 21, J 22, J 23, J 24, iv 4, (((4 : Nat), τ), J8).snd (26 : Nat), (((4 : Nat), τ), J8).snd (27 : Nat), Value.slice xx2.fst (iotaN (0 : Nat) m).length xx2.snd, Value.slice xx3.fst (iotaN m m).length xx3.snd, iv 0, iv quota, iv (↑q : Int), iv many, iv (↑(pickN many (6 : Nat)) : Int), iv (↑m : Int), Value.tuple #[pv xx1.fst 0, Value.slice xx1.snd.fst (4 : Nat) xx1.snd.snd, Value.bool true], iv (↑m : Int), iv (↑q : Int), Value.tuple #[pv xx1.fst 0, Value.slice xx1.snd.fst (4 : Nat) xx1.snd.snd, Value.bool true], pv xx1.fst 0, Value.slice xx1.snd.fst (4 : Nat) xx1.snd.snd, Value.bool true, Value.bool true, Value.bool false, iv (↑xs.length : Int), Value.slice a xs.length c, iv (↑xs.length : Int), Value.bool (decide ((↑xs.length : Int) < (↑xs.length : Int))), Value.bool false, tu, tu, Value.bool false, J 53, J 54, J 55, J 56, J 57, J 58, J 59, J 60, J 61, J 62, J 63, J 64, J 65, J 66, J 67, J 68, J 69, J 70, J 71, J 72, J 73, J 74, J 75, J 76, J 77, J 78, J 79, J 80, J 81, J 82, J 83, J 84, J 85, J 86, J 87, J 88, J 89, J 90, J 91, J 92, J 93, J 94, J 95, J 96, J 97, J 98, J 99, J 100, J 101, J 102, J 103, J 104, J 105, J 106, J 107, J 108, J 109, J 110, J 111, J 112, J 113, J 114, J 115, J 116, J 117, J 118, J 119, J 120, J 121, J 122, J 123, J 124, J 125, J 126, J 127, J 128, J 129, J 130, J 131, J 132, J 133, J 134, J 135, J 136, J 137, J 138, J 139, J 140, J 141, J 142, J 143, J 144, J 145, J 146, J 147, J 148, J 149, J 150, J 151, J 152, J 153, J 154, J 155, J 156, J 157, J 158, J 159, J 160, J 161, J 162, J 163, J 164, J 165, J 166, J 167, J 168, J 169, J 170, J 171, J 172, J 173, iv 4, Value.bool false, (((4 : Nat), τ), J8).snd (176 : Nat), (((4 : Nat), τ), J8).snd (177 : Nat), (((4 : Nat), τ), J8).snd (178 : Nat), (((4 : Nat), τ), J8).snd (179 : Nat), (((4 : Nat), τ), J8).snd (180 : Nat), (((4 : Nat), τ), J8).snd (181 : Nat), (((4 : Nat), τ), J8).snd (182 : Nat), (((4 : Nat), τ), J8).snd (183 : Nat), (((4 : Nat), τ), J8).snd (184 : Nat), (((4 : Nat), τ), J8).snd (185 : Nat), (((4 : Nat), τ), J8).snd (186 : Nat), (((4 : Nat), τ), J8).snd (187 : Nat), (((4 : Nat), τ), J8).snd (188 : Nat), (((4 : Nat), τ), J8).snd (189 : Nat), pv xx1.fst 0, Value.slice xx2.fst (iotaN (0 : Nat) m).length xx2.snd, pv xx1.fst 0, Value.slice xx3.fst (iotaN m m).length xx3.snd, tu, tu, tu, tu, tu, tu, tu, tu, tu, tu, tu, tu, tu, tu, tu, tu, tu, tu, tu, tu, tu, tu, tu, tu, tu, tu, tu, tu, tu, tu, tu, tu, tu] : List Value).getD j9 undef) (by kernel_rfl) (by kernel_rfl) ?_ ?_)
        · exact Nat.zero_le _
        rintro ⟨t, J9⟩ ht ih9
        dsimp only at ht
        (focus
          refine Xg.At.same (T' := [Value.slice a xs.length c, iv quota, iv many, tu, tu, tu, J9 6, iv (↑q : Int), iv (↑m : Int), pv xx1.fst 0, Value.slice xx1.snd.fst H.length xx1.snd.snd, Value.bool true, iv (↑xs.length : Int), J 13, J 14, J 15, J 16, J 17, J 18, J 19, J 20, J 21, J 22, J 23, J 24, iv 4, (((4 : Nat), τ), J8).snd (26 : Nat), (((4 : Nat), τ), J8).snd (27 : Nat), Value.slice xx2.fst (iotaN (0 : Nat) m).length xx2.snd, Value.slice xx3.fst (iotaN m m).length xx3.snd, iv (↑t : Int), iv quota, iv (↑q : Int), iv many, iv (↑(pickN many (6 : Nat)) : Int), iv (↑m : Int), Value.tuple #[pv xx1.fst 0, Value.slice xx1.snd.fst (4 : Nat) xx1.snd.snd, Value.bool true], iv (↑m : Int), iv (↑q : Int), Value.tuple #[pv xx1.fst 0, Value.slice xx1.snd.fst (4 : Nat) xx1.snd.snd, Value.bool true], pv xx1.fst 0, Value.slice xx1.snd.fst (4 : Nat) xx1.snd.snd, Value.bool true, Value.bool true, Value.bool false, iv (↑xs.length : Int), Value.slice a xs.length c, iv (↑xs.length : Int), Value.bool (decide ((↑xs.length : Int) < (↑xs.length : Int))), Value.bool false, tu, tu, Value.bool false, J 53, J 54, J 55, J 56, J 57, J 58, J 59, J 60, J 61, J 62, J 63, J 64, J 65, J 66, J 67, J 68, J 69, J 70, J 71, J 72, J 73, J 74, J 75, J 76, J 77, J 78, J 79, J 80, J 81, J 82, J 83, J 84, J 85, J 86, J 87, J 88, J 89, J 90, J 91, J 92, J 93, J 94, J 95, J 96, J 97, J 98, J 99, J 100, J 101, J 102, J 103, J 104, J 105, J 106, J 107, J 108, J 109, J 110, J 111, J 112, J 113, J 114, J 115, J 116, J 117, J 118, J 119, J 120, J 121, J 122, J 123, J 124, J 125, J 126, J 127, J 128, J 129, J 130, J 131, J 132, J 133, J 134, J 135, J 136, J 137, J 138, J 139, J 140, J 141, J 142, J 143, J 144, J 145, J 146, J 147, J 148, J 149, J 150, J 151, J 152, J 153, J 154, J 155, J 156, J 157, J 158, J 159, J 160, J 161, J 162, J 163, J 164, J 165, J 166, J 167, J 168, J 169, J 170, J 171, J 172, J 173, iv 4, Value.bool false, (((4 : Nat), τ), J8).snd (176 : Nat), (((4 : Nat), τ), J8).snd (177 : Nat), (((4 : Nat), τ), J8).snd (178 : Nat), (((4 : Nat), τ), J8).snd (179 : Nat), (((4 : Nat), τ), J8).snd (180 : Nat), (((4 : Nat), τ), J8).snd (181 : Nat), (((4 : Nat), τ), J8).snd (182 : Nat), (((4 : Nat), τ), J8).snd (183 : Nat), (((4 : Nat), τ), J8).snd (184 : Nat), (((4 : Nat), τ), J8).snd (185 : Nat), (((4 : Nat), τ), J8).snd (186 : Nat), (((4 : Nat), τ), J8).snd (187 : Nat), (((4 : Nat), τ), J8).snd (188 : Nat), (((4 : Nat), τ), J8).snd (189 : Nat), pv xx1.fst 0, Value.slice xx2.fst (iotaN (0 : Nat) m).length xx2.snd, pv xx1.fst 0, Value.slice xx3.fst (iotaN m m).length xx3.snd, J9 194, J9 195, J9 196, J9 197, J9 198, J9 199, J9 200, J9 201, J9 202, J9 203, J9 204, J9 205, J9 206, J9 207, J9 208, J9 209, J9 210, J9 211, J9 212, J9 213, J9 214, J9 215, J9 216, J9 217, J9 218, J9 219, J9 220, J9 221, J9 222, J9 223, J9 224, J9 225, J9 226]) (L' := [I2 xx2.fst xx2.snd (iotaN (0 : Nat) m), I2 xx3.fst xx3.snd (iotaN m m), A]) (by kernel_rfl) rfl ?_)
        by_cases htl : t < m
        · have hi0 := iotaN_get 0 m t htl
          have hi1 := iotaN_get m m t htl
          (focus
            refine Xg.at_seq ?_
            refine Xg.at_seq ?_
            refine Xg.at_region ?_
            refine Xg.ops_op (by kernel_rfl) (Xg.opx_pure ((iv (↑t : Int))) rfl (fun _ => by kernel_rfl) ?_)
            refine Xg.ops_op (by kernel_rfl) (Xg.opx_pure ((iv (↑m : Int))) rfl (fun _ => by kernel_rfl) ?_)
            refine Xg.ops_op (by kernel_rfl) (Xg.opx_pure (.bool (decide ((((↑t : Int)) : Int) < ((↑m : Int))))) rfl (fun _ => by kernel_rfl) ?_)
            refine Xg.ops_nil ?_
            refine Xg.at_true (t := decide (((↑t : Int) < (↑m : Int)))) (by kernel_rfl) (decide_eq_true (by omega)) ?_
            refine Xg.at_skip ?_
            refine Xg.at_seq ?_
            refine Xg.at_block ?_
            refine Xg.at_seq ?_
            refine Xg.at_region ?_
            refine Xg.ops_op (by kernel_rfl) (Xg.opx_pure ((Value.slice xx2.fst (iotaN (0 : Nat) m).length xx2.snd)) rfl (fun _ => by kernel_rfl) ?_)
            refine Xg.ops_op (by kernel_rfl) (Xg.opx_pure ((iv (↑(iotaN (0 : Nat) m).length : Int))) rfl (fun _ => by kernel_rfl) ?_)
            refine Xg.ops_op (by kernel_rfl) (Xg.opx_pure ((iv (↑m : Int))) rfl (fun _ => by kernel_rfl) ?_)
            refine Xg.ops_op (by kernel_rfl) (Xg.opx_pure (.bool (!decide ((((↑(iotaN (0 : Nat) m).length : Int)) : Int) = ((↑m : Int))))) rfl (fun _ => by kernel_rfl) ?_)
            refine Xg.ops_op (by kernel_rfl) (Xg.opx_pure ((Value.bool !decide ((↑(iotaN (0 : Nat) m).length : Int) = (↑m : Int)))) rfl (fun _ => by kernel_rfl) ?_)
            refine Xg.ops_flag (j := 203) (c := (!decide ((↑(iotaN (0 : Nat) m).length : Int) = (↑m : Int)))) (by kernel_rfl) (fun xh4 => absurd xh4 (by rw [decide_eq_true (p := ((↑(iotaN (0 : Nat) m).length : Int) = (↑m : Int))) (by omega)]; decide)) (fun _ => ?_)
            refine Xg.ops_op (by kernel_rfl) (Xg.opx_pure ((Value.slice xx3.fst (iotaN m m).length xx3.snd)) rfl (fun _ => by kernel_rfl) ?_)
            refine Xg.ops_op (by kernel_rfl) (Xg.opx_pure ((iv (↑(iotaN m m).length : Int))) rfl (fun _ => by kernel_rfl) ?_)
            refine Xg.ops_op (by kernel_rfl) (Xg.opx_pure ((iv (↑m : Int))) rfl (fun _ => by kernel_rfl) ?_)
            refine Xg.ops_op (by kernel_rfl) (Xg.opx_pure (.bool (!decide ((((↑(iotaN m m).length : Int)) : Int) = ((↑m : Int))))) rfl (fun _ => by kernel_rfl) ?_)
            refine Xg.ops_flag (j := 207) (c := (!decide ((↑(iotaN m m).length : Int) = (↑m : Int)))) (by kernel_rfl) (fun xh4 => absurd xh4 (by rw [decide_eq_true (p := ((↑(iotaN m m).length : Int) = (↑m : Int))) (by omega)]; decide)) (fun _ => ?_)
            refine Xg.ops_op (by kernel_rfl) (Xg.opx_pure ((Value.bool false)) rfl (fun _ => by kernel_rfl) ?_)
            refine Xg.ops_op (by kernel_rfl) (Xg.opx_pure ((Value.bool false)) rfl (fun _ => by kernel_rfl) ?_)
            refine Xg.ops_op (by kernel_rfl) (Xg.opx_pure ((Value.slice xx2.fst (iotaN (0 : Nat) m).length xx2.snd)) rfl (fun _ => by kernel_rfl) ?_)
            refine Xg.ops_op (by kernel_rfl) (Xg.opx_pure ((iv (↑t : Int))) rfl (fun _ => by kernel_rfl) ?_)
            refine Xg.ops_op (by kernel_rfl) (Xg.opx_ix_own (elem := 3) (kd := .i64) (e := ((↑t : Int))) 0 1 t t rfl (by kernel_rfl) (by kernel_rfl) (by kernel_rfl) (by kernel_rfl) rfl (by omega) (by omega) ?_)
            refine Xg.ops_op (by kernel_rfl) (Xg.opx_load_own (a := xx2.fst) (off := t) 0 (iv ((iotaN (0 : Nat) m).getD t (0 : Int))) rfl (by kernel_rfl) (Xg.get_ints (by omega)) (by kernel_rfl) ?_)
            refine Xg.ops_op (by kernel_rfl) (Xg.opx_pure ((iv (↑t : Int))) rfl (fun _ => by kernel_rfl) ?_)
            refine Xg.ops_op (by kernel_rfl) (Xg.opx_pure (.bool (!decide ((((iotaN (0 : Nat) m).getD t (0 : Int)) : Int) = ((↑t : Int))))) rfl (fun _ => by kernel_rfl) ?_)
            refine Xg.ops_flag (j := 215) (c := (!decide ((iotaN (0 : Nat) m).getD t (0 : Int) = (↑t : Int)))) (by kernel_rfl) (fun xh4 => absurd xh4 (by rw [decide_eq_true (p := ((iotaN (0 : Nat) m).getD t (0 : Int) = (↑t : Int))) (by omega)]; decide)) (fun _ => ?_)
            refine Xg.ops_op (by kernel_rfl) (Xg.opx_pure ((Value.bool false)) rfl (fun _ => by kernel_rfl) ?_)
            refine Xg.ops_op (by kernel_rfl) (Xg.opx_pure ((Value.bool false)) rfl (fun _ => by kernel_rfl) ?_)
            refine Xg.ops_op (by kernel_rfl) (Xg.opx_pure ((Value.slice xx3.fst (iotaN m m).length xx3.snd)) rfl (fun _ => by kernel_rfl) ?_)
            refine Xg.ops_op (by kernel_rfl) (Xg.opx_pure ((iv (↑t : Int))) rfl (fun _ => by kernel_rfl) ?_)
            refine Xg.ops_op (by kernel_rfl) (Xg.opx_ix_own (elem := 3) (kd := .i64) (e := ((↑t : Int))) 1 1 t t rfl (by kernel_rfl) (by kernel_rfl) (by kernel_rfl) (by kernel_rfl) rfl (by omega) (by omega) ?_)
            refine Xg.ops_op (by kernel_rfl) (Xg.opx_load_own (a := xx3.fst) (off := t) 1 (iv ((iotaN m m).getD t (0 : Int))) rfl (by kernel_rfl) (Xg.get_ints (by omega)) (by kernel_rfl) ?_)
            refine Xg.ops_op (by kernel_rfl) (Xg.opx_pure ((iv (↑m : Int))) rfl (fun _ => by kernel_rfl) ?_)
            refine Xg.ops_op (by kernel_rfl) (Xg.opx_pure ((iv (↑t : Int))) rfl (fun _ => by kernel_rfl) ?_)
            refine Xg.ops_op (by kernel_rfl) (Xg.opx_int .i64 (IntKind.wrap .i64 (((↑m : Int) + (↑t : Int)))) rfl (fun _ => by kernel_rfl) (Xg.wrap_i64_in (by omega)) ?_)
            refine Xg.ops_op (by kernel_rfl) (Xg.opx_pure (.bool (!decide ((((iotaN m m).getD t (0 : Int)) : Int) = ((↑m : Int) + (↑t : Int))))) rfl (fun _ => by kernel_rfl) ?_)
            refine Xg.ops_flag (j := 225) (c := (!decide ((iotaN m m).getD t (0 : Int) = (↑m : Int) + (↑t : Int)))) (by kernel_rfl) (fun xh4 => absurd xh4 (by rw [decide_eq_true (p := ((iotaN m m).getD t (0 : Int) = (↑m : Int) + (↑t : Int))) (by omega)]; decide)) (fun _ => ?_)
            refine Xg.ops_op (by kernel_rfl) (Xg.opx_pure ((Value.bool false)) rfl (fun _ => by kernel_rfl) ?_)
            refine Xg.ops_nil ?_
            refine Xg.at_false (t := false) (by kernel_rfl) rfl ?_
            refine Xg.at_skip ?_
            refine Xg.at_inBlock ?_
            refine Xg.at_region ?_
            refine Xg.ops_op (by kernel_rfl) (Xg.opx_pure ((iv (↑t : Int))) rfl (fun _ => by kernel_rfl) ?_)
            refine Xg.ops_op (by kernel_rfl) (Xg.opx_int .i64 (IntKind.wrap .i64 (((↑t : Int) + (1 : Int)))) rfl (fun _ => by kernel_rfl) (Xg.wrap_i64_in (by omega)) ?_)
            refine Xg.ops_op (by kernel_rfl) (Xg.opx_pure ((iv ((↑t : Int) + (1 : Int)))) rfl (fun _ => by kernel_rfl) ?_)
            refine Xg.ops_nil ?_
            refine Xg.at_inLoop ?_)
          (focus
            refine Xg.at_keep [0, 1, 2] (by kernel_rfl) ?_
            refine Xs.same ?_ (fun J9 => ih9 (((t + 1)), J9) ?_ ?_) (by kernel_rfl))
          · rfl
          · exact htl
          · dsimp only; omega
        · clear ih9
          (focus
            refine Xg.at_seq ?_
            refine Xg.at_seq ?_
            refine Xg.at_region ?_
            refine Xg.ops_op (by kernel_rfl) (Xg.opx_pure ((iv (↑t : Int))) rfl (fun _ => by kernel_rfl) ?_)
            refine Xg.ops_op (by kernel_rfl) (Xg.opx_pure ((iv (↑m : Int))) rfl (fun _ => by kernel_rfl) ?_)
            refine Xg.ops_op (by kernel_rfl) (Xg.opx_pure (.bool (decide ((((↑t : Int)) : Int) < ((↑m : Int))))) rfl (fun _ => by kernel_rfl) ?_)
            refine Xg.ops_nil ?_
            refine Xg.at_false (t := decide (((↑t : Int) < (↑m : Int)))) (by kernel_rfl) (decide_eq_false (by omega)) ?_
            refine Xg.at_exit rfl ?_
            refine Xg.at_seq ?_
            refine Xg.at_region ?_
            refine Xg.ops_op (by kernel_rfl) (Xg.opx_pure ((Value.bool true)) rfl (fun _ => by kernel_rfl) ?_)
            refine Xg.ops_nil ?_
            refine Xg.at_ret_ps (v := (Value.bool true)) [2] [A] Go.Proofs.Try.func8 (fun _ => by kernel_rfl) (by kernel_rfl) (by kernel_rfl) ?_
            exact ⟨by kernel_rfl, by kernel_rfl⟩)
end Go.Proofs.Ytmplimmcjdkhlaa
