/- The picture's functions: the last whole picture. -/
import Derived.Test.YtkfclamiendamaaKV19
import Derived.Test.YtkfclamiendamaaKS
namespace Go.Proofs.Ytkfclamiendamaa
open Go.Sl Go.Xg
set_option linter.unusedVariables false
set_option linter.unusedSimpArgs false
set_option maxHeartbeats 4000000
set_option maxRecDepth 100000

theorem frame_d (p : Nat) (σ : Pp) : Does Try.prog 43 [pt p] [PpR p σ]
    (RetE (fun x : Option Addr × Nat × List Int => x.2.2.length = 23040 ∧ ∀ i, i < 23040 → x.2.2.getD i 0 = σ.last i) (fun x => .slice x.1 x.2.2.length x.2.1) (fun x => [ints 5 .u8 x.1 x.2.1 x.2.2, PpR p σ])) := by
  obtain ⟨xs, hxs⟩ : ∃ xs : List Int, xs = (List.range 23040).map σ.last := ⟨_, rfl⟩
  have hlen : xs.length = 23040 := by rw [hxs, List.length_map, List.length_range]
  have hget : ∀ i, i < 23040 → xs.getD i 0 = σ.last i := fun i hi => by rw [hxs]; simp [List.getD, hi]
  have hseg : seg .u8 23040 σ.last = xs.map (Value.int .u8) := by rw [hxs, List.map_map]; rfl
  have hH : Has (ppc σ) 31407 (xs.map (Value.int .u8)) := by rw [← hseg]; exact h_last σ
  have hR : Reads (PpR p σ) 1 (.slice (some ⟨p, 31407, none⟩) 23040 23040) 23040 (xs.map (Value.int .u8)) := reads_row (by rw [List.length_map, hlen]) hH
  (focus
    refine Xg.spec_of Go.Proofs.Try.func43 rfl Go.Proofs.Try.ntmps43 fun g F => ?_)
  (focus
    refine Xg.at_seq ?_
    refine Xg.at_region ?_
    refine Xg.ops_op (by kernel_rfl) (Xg.opx_pure ((Value.slice none (0 : Nat) (0 : Nat))) rfl (fun _ => by kernel_rfl) ?_)
    refine Xg.ops_nil ?_
    refine Xg.at_seq ?_
    refine Xg.at_region ?_
    refine Xg.ops_op (by kernel_rfl) (Xg.opx_bs (elem := 5) 1 [] [] (by kernel_rfl) (by kernel_rfl) (by decide) rfl (by kernel_rfl) (by kernel_rfl) (by kernel_rfl) (by kernel_rfl) fun xb1 => ?_)
    refine Xg.ops_op (by kernel_rfl) (Xg.opx_pure ((pv p 0)) rfl (fun _ => by kernel_rfl) ?_)
    refine Xg.ops_op (by kernel_rfl) (Xg.opx_pure ((pv p 0)) rfl (fun _ => by kernel_rfl) ?_)
    refine Xg.ops_op (by kernel_rfl) (Xg.opx_pure ((pv p 31407)) rfl (fun _ => by kernel_rfl) ?_)
    refine Xg.ops_op (by kernel_rfl) (Xg.opx_pure (Value.slice (some (Addr.mk p (31407 : Nat) none)) (23040 : Nat) (23040 : Nat)) rfl (fun _ => by kernel_rfl) ?_)
    refine Xg.ops_row_ints 0 .u8 [] rfl rfl (Nat.le_of_ble_eq_true (by kernel_rfl)) ?_
    refine Xg.ops_op (by kernel_rfl) (Xg.opx_append_ints (kd := .u8) (yv := (Value.slice (some (Addr.mk p (31407 : Nat) none)) (23040 : Nat) (23040 : Nat))) (m := ((23040 : Nat))) (xs := []) (elem := 5) 0 1 xs rfl (by kernel_rfl) (by kernel_rfl) (by kernel_rfl) (by kernel_rfl) (by first | rfl | assumption | omega | (simp; done) | (simp; omega)) (fun _ hS => Xg.reads_rd hR 1 rfl hS) (by first | omega | (simp only [List.length_nil, List.length_cons]; omega) | (simp; omega)) (by first | omega | (simp only [List.length_nil, List.length_cons]; omega) | (simp; omega)) fun xa1 xc1 => ?_)
    have xl1 : ([] ++ xs : List Int).length = ([] : List Int).length + ((23040 : Nat)) := by first | (simp; done) | (simp; omega)
    refine Xg.ops_op (by kernel_rfl) (Xg.opx_pure ((Value.slice xa1 ([] ++ xs).length xc1)) rfl (fun _ => by kernel_rfl) ?_)
    refine Xg.ops_nil ?_
    refine Xg.at_ret_ps (v := (Value.slice xa1 ([] ++ xs).length xc1)) [0, 1] [ints (5 : TypeId) IntKind.u8 xa1 xc1 ([] ++ xs), PpR p σ] Go.Proofs.Try.func43 (fun _ => by kernel_rfl) (by kernel_rfl) (by kernel_rfl) ?_
    refine ⟨((xa1, xc1, [] ++ xs)), ?_, by kernel_rfl, by kernel_rfl⟩)
  exact ⟨hlen, hget⟩

/-- So many Ticks. -/
def ticks : Nat → Pp → Pp
  | 0, σ => σ
  | n + 1, σ => tickP (ticks n σ)
theorem ok_ticks {σ : Pp} (h : σ.Ok) (n : Nat) : (ticks n σ).Ok := by
  induction n with
  | zero => exact h
  | succ n ih => exact ok_tick ih

set_option maxHeartbeats 0 in
theorem one_d (p : Nat) (σ G : Pp) (hσ : σ.Ok) (hG : ticks 16416 σ = G) : Does Try.prog 39 [pt p] [PpR p σ]
    (RetE (fun x : Option Addr × Nat × List Int => x.2.2.length = 23040 ∧ ∀ i, i < 23040 → x.2.2.getD i 0 = G.last i) (fun x => .slice x.1 x.2.2.length x.2.1) (fun x => [ints 5 .u8 x.1 x.2.1 x.2.2, PpR p G])) := by
  (focus
    refine Xg.spec_of Go.Proofs.Try.func39 rfl Go.Proofs.Try.ntmps39 fun g F => ?_)
  (focus
    refine Xg.at_seq ?_
    refine Xg.at_region ?_
    refine Xg.ops_op (by kernel_rfl) (Xg.opx_pure ((Value.slice none (0 : Nat) (0 : Nat))) rfl (fun _ => by kernel_rfl) ?_)
    refine Xg.ops_nil ?_
    refine Xg.at_seq ?_
    refine Xg.at_seq ?_
    refine Xg.at_region ?_
    refine Xg.ops_op (by kernel_rfl) (Xg.opx_pure ((iv 0)) rfl (fun _ => by kernel_rfl) ?_)
    refine Xg.ops_nil ?_
    refine Xg.at_block ?_)
  (focus
    refine Xg.at_rounds_inv (α := (Nat × Pp) × (Nat → Value)) (fun x => ((fun x => x.1 ≤ 16416 ∧ x.2 = ticks x.1 σ ∧ x.2.Ok) : (Nat × Pp) → Prop) x.1) (fun x => ((fun x => 16416 - x.1) : (Nat × Pp) → Nat) x.1) (fun x => Xg.headT [pv p 0, tu, Value.slice none (0 : Nat) (0 : Nat), iv 0, tu, tu, tu, tu, tu, tu, tu, tu] [4, 5, 6, 7, 8, 9] (((fun x => [(3, .int .i64 (x.1 : Nat))]) : (Nat × Pp) → List (Nat × Go.Value)) x.1) x.2) (fun x => ((fun x => [PpR p x.2]) : (Nat × Pp) → List Go.Sl.HP) x.1) (((0, σ)), fun j => ([pv p 0, tu, Value.slice none (0 : Nat) (0 : Nat), iv 0, tu, tu, tu, tu, tu, tu, tu, tu] : List Value).getD j undef) (by kernel_rfl) (by kernel_rfl) ?_ ?_)
  · exact ⟨Nat.zero_le _, rfl, hσ⟩
  rintro ⟨⟨i, τ⟩, J⟩ ⟨hi, ht, hok⟩ ih
  dsimp only at hi ht hok
  (focus
    refine Xg.At.same (T' := [pv p 0, tu, Value.slice none (0 : Nat) (0 : Nat), iv (↑i : Int), J 4, J 5, J 6, J 7, J 8, J 9, tu, tu]) (L' := [PpR p ((i, τ), J).fst.snd]) (by kernel_rfl) rfl ?_)
  by_cases hlt : i < 16416
  · have htk : Does Try.prog 38 [pt p] [PpR p τ] (RetE (fun x : Pp × Int => x.1 = tickP τ ∧ x.1.Ok) (fun x => .int .i64 x.2) (fun x => [PpR p x.1])) :=
      (tick_d p τ hok).mono fun _ _ ⟨x, ⟨h1, _, h3, _⟩, e1, e2⟩ => ⟨x, ⟨h1, h3⟩, e1, e2⟩
    (focus
      refine Xg.at_seq ?_
      refine Xg.at_seq ?_
      refine Xg.at_region ?_
      refine Xg.ops_op (by kernel_rfl) (Xg.opx_pure ((iv (↑i : Int))) rfl (fun _ => by kernel_rfl) ?_)
      refine Xg.ops_op (by kernel_rfl) (Xg.opx_pure (.bool (decide ((((↑i : Int)) : Int) < ((16416 : Int))))) rfl (fun _ => by kernel_rfl) ?_)
      refine Xg.ops_nil ?_
      refine Xg.at_true (t := decide (((↑i : Int) < (16416 : Int)))) (by kernel_rfl) (decide_eq_true (by omega)) ?_
      refine Xg.at_skip ?_
      refine Xg.at_seq ?_
      refine Xg.at_block ?_
      refine Xg.at_region ?_
      refine Xg.ops_op (by kernel_rfl) (Xg.opx_pure ((pv p 0)) rfl (fun _ => by kernel_rfl) ?_)
      refine Xg.ops_op (by kernel_rfl) (Xg.opx_callE' [0] (fun xx1 => [PpR p xx1.fst]) (fun _ => by kernel_rfl) (@htk ) (by kernel_rfl) (by kernel_rfl) (by kernel_rfl) fun xx1 xh1 => ?_)
      try dsimp only at xh1
      obtain ⟨xh1_0, xh1_1⟩ := xh1
      refine Xg.ops_nil ?_
      refine Xg.at_inBlock ?_
      refine Xg.at_region ?_
      refine Xg.ops_op (by kernel_rfl) (Xg.opx_pure ((iv (↑i : Int))) rfl (fun _ => by kernel_rfl) ?_)
      refine Xg.ops_op (by kernel_rfl) (Xg.opx_int .i64 (IntKind.wrap .i64 (((↑i : Int) + (1 : Int)))) rfl (fun _ => by kernel_rfl) (Xg.wrap_i64_in (by omega)) ?_)
      refine Xg.ops_op (by kernel_rfl) (Xg.opx_pure ((iv ((↑i : Int) + (1 : Int)))) rfl (fun _ => by kernel_rfl) ?_)
      refine Xg.ops_nil ?_
      refine Xg.at_inLoop ?_)
    (focus
      refine Xg.at_keep [0] (by kernel_rfl) ?_
      refine Xs.same ?_ (fun J9 => ih (((i + 1, xx1.1)), J9) ?_ ?_) (by kernel_rfl))
    · rfl
    · exact ⟨by dsimp only; omega, by rw [show xx1.1 = tickP τ by assumption, ht]; rfl, by assumption⟩
    · dsimp only; omega
  · clear ih
    have hin : i = 16416 := by omega
    subst hin
    rw [hG] at ht
    subst ht
    (focus
      refine Xg.at_seq ?_
      refine Xg.at_seq ?_
      refine Xg.at_region ?_
      refine Xg.ops_op (by kernel_rfl) (Xg.opx_pure ((iv 16416)) rfl (fun _ => by kernel_rfl) ?_)
      refine Xg.ops_op (by kernel_rfl) (Xg.opx_pure ((Value.bool false)) rfl (fun _ => by kernel_rfl) ?_)
      refine Xg.ops_nil ?_
      refine Xg.at_false (t := false) (by kernel_rfl) rfl ?_
      refine Xg.at_exit rfl ?_
      refine Xg.at_seq ?_
      refine Xg.at_region ?_
      refine Xg.ops_op (by kernel_rfl) (Xg.opx_pure ((pv p 0)) rfl (fun _ => by kernel_rfl) ?_)
      refine Xg.ops_op (by kernel_rfl) (Xg.opx_callE' [0] (fun xx1 => [ints (5 : TypeId) IntKind.u8 xx1.fst xx1.snd.fst xx1.snd.snd, PpR p τ]) (fun _ => by kernel_rfl) (@Go.Proofs.Ytkfclamiendamaa.frame_d (p) (τ)) (by kernel_rfl) (by kernel_rfl) (by kernel_rfl) fun xx1 xh1 => ?_)
      try dsimp only at xh1
      obtain ⟨xh1_0, xh1_1⟩ := xh1
      refine Xg.ops_op (by kernel_rfl) (Xg.opx_pure ((Value.slice xx1.fst xx1.snd.snd.length xx1.snd.fst)) rfl (fun _ => by kernel_rfl) ?_)
      refine Xg.ops_nil ?_
      refine Xg.at_ret_ps (v := (Value.slice xx1.fst xx1.snd.snd.length xx1.snd.fst)) [0, 1] [ints (5 : TypeId) IntKind.u8 xx1.fst xx1.snd.fst xx1.snd.snd, PpR p τ] Go.Proofs.Try.func39 (fun _ => by kernel_rfl) (by kernel_rfl) (by kernel_rfl) ?_
      refine ⟨((xx1.fst, xx1.2.fst, xx1.2.snd)), ?_, ?_, ?_⟩
      rotate_left
      rotate_left)
    all_goals first | exact ⟨by assumption, by assumption⟩ | rfl

end Go.Proofs.Ytkfclamiendamaa
