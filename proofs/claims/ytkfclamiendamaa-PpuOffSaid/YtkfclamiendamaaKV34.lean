/- The law PpuOff: what it does. -/
import Derived.Test.YtkfclamiendamaaKV33
import Derived.Test.YtkfclamiendamaaKS
namespace Go.Proofs.Ytkfclamiendamaa
open Go.Sl Go.Xg
set_option linter.unusedVariables false
set_option linter.unusedSimpArgs false
set_option maxHeartbeats 4000000
set_option maxRecDepth 100000

theorem at4_new : Tm 145 0 0 0 newP := ⟨⟨ok_new, rfl, rfl, rfl⟩, rfl, rfl, rfl⟩
theorem stat3 {r0 y : Int} {i : Nat} {σ : Pp} (h : Tm r0 0 y i σ) : band .i64 (readI σ 65345) 3 = modeI σ := by
  have hb := modeI_bd σ
  rw [stat_read h, band_3]
  split <;> omega

set_option maxHeartbeats 0 in
theorem known_d : Does Try.prog 42 [] [] (Ret (.bool true) []) := by
  (focus
    refine Xg.spec_of Go.Proofs.Try.func42 rfl Go.Proofs.Try.ntmps42 fun g F => ?_)
  (focus
    refine Xg.at_seq ?_
    refine Xg.at_region ?_
    refine Xg.ops_op (by kernel_rfl) (Xg.opx_pure ((Value.bool false)) rfl (fun _ => by kernel_rfl) ?_)
    refine Xg.ops_nil ?_
    refine Xg.at_seq ?_
    refine Xg.at_region ?_
    refine Xg.ops_op (by kernel_rfl) (Xg.opx_callE' [] (fun xx1 => [PpR xx1.fst xx1.snd]) (fun _ => by kernel_rfl) (@Go.Proofs.Ytkfclamiendamaa.new_k ) (by kernel_rfl) (by kernel_rfl) (by kernel_rfl) fun xx1 xh1 => ?_)
    try dsimp only at xh1
    obtain ⟨xh1_0, xh1_1⟩ := xh1
    refine Xg.ops_op (by kernel_rfl) (Xg.opx_pure ((pv xx1.fst 0)) rfl (fun _ => by kernel_rfl) ?_)
    refine Xg.ops_nil ?_
    refine Xg.at_seq ?_
    refine Xg.at_seq ?_
    refine Xg.at_region ?_
    refine Xg.ops_op (by kernel_rfl) (Xg.opx_pure ((pv xx1.fst 0)) rfl (fun _ => by kernel_rfl) ?_)
    refine Xg.ops_op (by kernel_rfl) (Xg.opx_pure ((Value.bool false)) rfl (fun _ => by kernel_rfl) ?_)
    refine Xg.ops_nil ?_
    refine Xg.at_false (t := false) (by kernel_rfl) rfl ?_
    refine Xg.at_skip ?_
    refine Xg.at_seq ?_
    refine Xg.at_seq ?_
    refine Xg.at_region ?_
    refine Xg.ops_op (by kernel_rfl) (Xg.opx_pure ((iv 0)) rfl (fun _ => by kernel_rfl) ?_)
    refine Xg.ops_nil ?_
    refine Xg.at_block ?_)
  have t0 : Tm 145 0 0 0 xx1.2 := by rw [show xx1.2 = newP by assumption]; exact at4_new
  (focus
    refine Xg.at_rounds_inv (α := (Nat × Pp) × (Nat → Value)) (fun x => ((fun x => x.1 ≤ 130 ∧ Tm 145 0 0 x.1 x.2) : (Nat × Pp) → Prop) x.1) (fun x => ((fun x => 130 - x.1) : (Nat × Pp) → Nat) x.1) (fun x => Xg.headT [Value.bool false, pv xx1.fst 0, iv 0, tu, tu, tu, pv xx1.fst 0, pv xx1.fst 0, Value.bool false, tu, tu, tu, tu, tu, tu, tu, tu, tu, tu, tu, tu, tu, tu, tu, tu, tu, tu, tu, tu, tu, tu, tu, tu, tu, tu, tu, tu, tu, tu, tu, tu, tu, tu, tu] [9, 10, 11, 12, 13, 14] (((fun x => [(2, .int .i64 (x.1 : Nat))]) : (Nat × Pp) → List (Nat × Go.Value)) x.1) x.2) (fun x => ((fun x => [PpR xx1.1 x.2]) : (Nat × Pp) → List Go.Sl.HP) x.1) (((0, xx1.2)), fun j => ([Value.bool false, pv xx1.fst 0, iv 0, tu, tu, tu, pv xx1.fst 0, pv xx1.fst 0, Value.bool false, tu, tu, tu, tu, tu, tu, tu, tu, tu, tu, tu, tu, tu, tu, tu, tu, tu, tu, tu, tu, tu, tu, tu, tu, tu, tu, tu, tu, tu, tu, tu, tu, tu, tu, tu] : List Value).getD j undef) (by kernel_rfl) (by kernel_rfl) ?_ ?_)
  · exact ⟨Nat.zero_le _, t0⟩
  rintro ⟨⟨i, σ⟩, J⟩ ⟨hi, ht⟩ ih
  dsimp only at hi ht
  have hok := ht.at4.ok
  (focus
    refine Xg.At.same (T' := [Value.bool false, pv xx1.fst 0, iv (↑i : Int), tu, tu, tu, pv xx1.fst 0, pv xx1.fst 0, Value.bool false, J 9, J 10, J 11, J 12, J 13, J 14, tu, tu, tu, tu, tu, tu, tu, tu, tu, tu, tu, tu, tu, tu, tu, tu, tu, tu, tu, tu, tu, tu, tu, tu, tu, tu, tu, tu, tu]) (L' := [PpR xx1.fst ((i, σ), J).fst.snd]) (by kernel_rfl) rfl ?_)
  by_cases hlt : i < 130
  · have hn' := tm_next ht
    have htk : Does Try.prog 38 [pt xx1.1] [PpR xx1.1 σ] (RetE (fun x : Pp × Int => x.1 = tickP σ) (fun x => .int .i64 x.2) (fun x => [PpR xx1.1 x.1])) :=
      (tick_d xx1.1 σ hok).mono fun _ _ ⟨x, ⟨h1, _⟩, e1, e2⟩ => ⟨x, h1, e1, e2⟩
    (focus
      refine Xg.at_seq ?_
      refine Xg.at_seq ?_
      refine Xg.at_region ?_
      refine Xg.ops_op (by kernel_rfl) (Xg.opx_pure ((iv (↑i : Int))) rfl (fun _ => by kernel_rfl) ?_)
      refine Xg.ops_op (by kernel_rfl) (Xg.opx_pure (.bool (decide ((((↑i : Int)) : Int) < ((130 : Int))))) rfl (fun _ => by kernel_rfl) ?_)
      refine Xg.ops_nil ?_
      refine Xg.at_true (t := decide (((↑i : Int) < (130 : Int)))) (by kernel_rfl) (decide_eq_true (by omega)) ?_
      refine Xg.at_skip ?_
      refine Xg.at_seq ?_
      refine Xg.at_block ?_
      refine Xg.at_region ?_
      refine Xg.ops_op (by kernel_rfl) (Xg.opx_pure ((pv xx1.fst 0)) rfl (fun _ => by kernel_rfl) ?_)
      refine Xg.ops_op (by kernel_rfl) (Xg.opx_callE' [0] (fun xx2 => [PpR xx1.fst xx2.fst]) (fun _ => by kernel_rfl) (@htk ) (by kernel_rfl) (by kernel_rfl) (by kernel_rfl) fun xx2 xh2 => ?_)
      try dsimp only at xh2
      refine Xg.ops_nil ?_
      refine Xg.at_inBlock ?_
      refine Xg.at_region ?_
      refine Xg.ops_op (by kernel_rfl) (Xg.opx_pure ((iv (↑i : Int))) rfl (fun _ => by kernel_rfl) ?_)
      refine Xg.ops_op (by kernel_rfl) (Xg.opx_int .i64 (IntKind.wrap .i64 (((↑i : Int) + (1 : Int)))) rfl (fun _ => by kernel_rfl) (Xg.wrap_i64_in (by omega)) ?_)
      refine Xg.ops_op (by kernel_rfl) (Xg.opx_pure ((iv ((↑i : Int) + (1 : Int)))) rfl (fun _ => by kernel_rfl) ?_)
      refine Xg.ops_nil ?_
      refine Xg.at_inLoop ?_)
    (focus
      refine Xg.at_keep [0] (by kernel_rfl) ?_
      refine Xg.At.same (by kernel_rfl) ?_ (ih (((i + 1, xx2.1)), fun j => ([Value.bool false, pv xx1.fst 0, iv ((↑i : Int) + (1 : Int)), tu, tu, tu, pv xx1.fst 0, pv xx1.fst 0, Value.bool false, iv (↑i : Int), Value.bool (decide ((↑i : Int) < (130 : Int))), iv (↑i : Int), iv ((↑i : Int) + (1 : Int)), pv xx1.fst 0, iv xx2.snd, tu, tu, tu, tu, tu, tu, tu, tu, tu, tu, tu, tu, tu, tu, tu, tu, tu, tu, tu, tu, tu, tu, tu, tu, tu, tu, tu, tu, tu] : List Value).getD j undef) ?_ ?_))
    · rfl
    · exact ⟨by dsimp only; omega, by rw [show xx2.1 = tickP σ by assumption]; exact hn'⟩
    · dsimp only; omega
  · clear ih
    have hin : i = 130 := by omega
    subst hin
    have e1 : σ.regs 4 = 1 := ht.at4.ly
    have e2 : σ.clock = 64 := ht.at4.clk
    have e3 : modeI σ = 2 := mode_at ht.at4
    have h3 := stat3 ht
    rw [e3] at h3
    have rS := read_d xx1.1 σ hok.wf 65345 (by omega)
    obtain ⟨R, hR⟩ : ∃ R, readI σ 65345 = R := ⟨_, rfl⟩
    rw [hR] at h3 rS
    have rL := read_d xx1.1 σ hok.wf 65348 (by omega)
    rw [ly_read, e1] at rL
    have hln : Does Try.prog 41 [pt xx1.1] [PpR xx1.1 σ] (Ret (.tuple #[.int .i64 1, .int .i64 64]) [PpR xx1.1 σ]) := by
      have := line_d xx1.1 σ
      rwa [e1, e2] at this
    (focus
      refine Xg.at_seq ?_
      refine Xg.at_seq ?_
      refine Xg.at_region ?_
      refine Xg.ops_op (by kernel_rfl) (Xg.opx_pure ((iv 130)) rfl (fun _ => by kernel_rfl) ?_)
      refine Xg.ops_op (by kernel_rfl) (Xg.opx_pure ((Value.bool false)) rfl (fun _ => by kernel_rfl) ?_)
      refine Xg.ops_nil ?_
      refine Xg.at_false (t := false) (by kernel_rfl) rfl ?_
      refine Xg.at_exit rfl ?_
      refine Xg.at_seq ?_
      refine Xg.at_region ?_
      refine Xg.ops_op (by kernel_rfl) (Xg.opx_pure ((pv xx1.fst 0)) rfl (fun _ => by kernel_rfl) ?_)
      refine Xg.ops_op (by kernel_rfl) (Xg.opx_call1' [0] [PpR xx1.fst σ] (fun _ => by kernel_rfl) (@hln ) (by kernel_rfl) (by kernel_rfl) (by kernel_rfl) ?_)
      refine Xg.ops_op (by kernel_rfl) (Xg.opx_pure ((Value.tuple #[iv 1, iv 64])) rfl (fun _ => by kernel_rfl) ?_)
      refine Xg.ops_op (by kernel_rfl) (Xg.opx_pure ((iv 1)) rfl (fun _ => by kernel_rfl) ?_)
      refine Xg.ops_op (by kernel_rfl) (Xg.opx_pure ((iv 64)) rfl (fun _ => by kernel_rfl) ?_)
      refine Xg.ops_op (by kernel_rfl) (Xg.opx_pure ((iv 1)) rfl (fun _ => by kernel_rfl) ?_)
      refine Xg.ops_op (by kernel_rfl) (Xg.opx_pure ((iv 64)) rfl (fun _ => by kernel_rfl) ?_)
      refine Xg.ops_nil ?_
      refine Xg.at_seq ?_
      refine Xg.at_region ?_
      refine Xg.ops_op (by kernel_rfl) (Xg.opx_pure ((pv xx1.fst 0)) rfl (fun _ => by kernel_rfl) ?_)
      refine Xg.ops_op (by kernel_rfl) (Xg.opx_callE' [0] (fun xx2 => [ints (5 : TypeId) IntKind.u8 xx2.fst xx2.snd.fst xx2.snd.snd, PpR xx1.fst σ]) (fun _ => by kernel_rfl) (@Go.Proofs.Ytkfclamiendamaa.frame_d (xx1.fst) (σ)) (by kernel_rfl) (by kernel_rfl) (by kernel_rfl) fun xx2 xh2 => ?_)
      try dsimp only at xh2
      obtain ⟨xh2_0, xh2_1⟩ := xh2
      refine Xg.ops_op (by kernel_rfl) (Xg.opx_pure ((Value.slice xx2.fst xx2.snd.snd.length xx2.snd.fst)) rfl (fun _ => by kernel_rfl) ?_)
      refine Xg.ops_nil ?_
      refine Xg.at_seq ?_
      refine Xg.at_region ?_
      refine Xg.ops_op (by kernel_rfl) (Xg.opx_pure ((iv 1)) rfl (fun _ => by kernel_rfl) ?_)
      refine Xg.ops_op (by kernel_rfl) (Xg.opx_pure ((Value.bool true)) rfl (fun _ => by kernel_rfl) ?_)
      refine Xg.ops_op (by kernel_rfl) (Xg.opx_pure ((Value.bool true)) rfl (fun _ => by kernel_rfl) ?_)
      refine Xg.ops_op (by kernel_rfl) (Xg.opx_pure ((iv 64)) rfl (fun _ => by kernel_rfl) ?_)
      refine Xg.ops_op (by kernel_rfl) (Xg.opx_pure ((Value.bool true)) rfl (fun _ => by kernel_rfl) ?_)
      refine Xg.ops_op (by kernel_rfl) (Xg.opx_pure ((Value.bool true)) rfl (fun _ => by kernel_rfl) ?_)
      refine Xg.ops_op (by kernel_rfl) (Xg.opx_pure ((Value.bool true)) rfl (fun _ => by kernel_rfl) ?_)
      refine Xg.ops_op (by kernel_rfl) (Xg.opx_pure ((pv xx1.fst 0)) rfl (fun _ => by kernel_rfl) ?_)
      refine Xg.ops_op (by kernel_rfl) (Xg.opx_call1' [1] [PpR xx1.fst σ, ints (5 : TypeId) IntKind.u8 xx2.fst xx2.snd.fst xx2.snd.snd] (fun _ => by kernel_rfl) (@rL ) (by kernel_rfl) (by kernel_rfl) (by kernel_rfl) ?_)
      refine Xg.ops_op (by kernel_rfl) (Xg.opx_pure ((Value.bool true)) rfl (fun _ => by kernel_rfl) ?_)
      refine Xg.ops_op (by kernel_rfl) (Xg.opx_pure ((Value.bool true)) rfl (fun _ => by kernel_rfl) ?_)
      refine Xg.ops_op (by kernel_rfl) (Xg.opx_pure ((Value.bool true)) rfl (fun _ => by kernel_rfl) ?_)
      refine Xg.ops_op (by kernel_rfl) (Xg.opx_pure ((pv xx1.fst 0)) rfl (fun _ => by kernel_rfl) ?_)
      refine Xg.ops_op (by kernel_rfl) (Xg.opx_call1' [0] [PpR xx1.fst σ, ints (5 : TypeId) IntKind.u8 xx2.fst xx2.snd.fst xx2.snd.snd] (fun _ => by kernel_rfl) (@rS ) (by kernel_rfl) (by kernel_rfl) (by kernel_rfl) ?_)
      refine Xg.ops_op (by kernel_rfl) (Xg.opx_pure (.int .i64 (Xg.band .i64 (R) (((3 : Int))))) rfl (fun _ => by kernel_rfl) ?_)
      refine Xg.ops_op (by kernel_rfl) (Xg.opx_pure (.bool (decide (((band IntKind.i64 R (3 : Int)) : Int) = ((2 : Int))))) rfl (fun _ => by kernel_rfl) ?_)
      refine Xg.ops_flag (j := 37) (c := (decide (band IntKind.i64 R (3 : Int) = (2 : Int)))) (by kernel_rfl) (fun _ => ?_) (fun xh3 => absurd (of_decide_eq_false xh3) (by omega))
      refine Xg.ops_op (by kernel_rfl) (Xg.opx_pure ((Value.bool true)) rfl (fun _ => by kernel_rfl) ?_)
      refine Xg.ops_op (by kernel_rfl) (Xg.opx_pure ((Value.bool true)) rfl (fun _ => by kernel_rfl) ?_)
      refine Xg.ops_op (by kernel_rfl) (Xg.opx_pure ((Value.slice xx2.fst xx2.snd.snd.length xx2.snd.fst)) rfl (fun _ => by kernel_rfl) ?_)
      refine Xg.ops_op (by kernel_rfl) (Xg.opx_pure ((iv (↑xx2.snd.snd.length : Int))) rfl (fun _ => by kernel_rfl) ?_)
      refine Xg.ops_op (by kernel_rfl) (Xg.opx_pure (.bool (decide ((((↑xx2.snd.snd.length : Int)) : Int) = ((23040 : Int))))) rfl (fun _ => by kernel_rfl) ?_)
      refine Xg.ops_flag (j := 42) (c := (decide ((↑xx2.snd.snd.length : Int) = (23040 : Int)))) (by kernel_rfl) (fun _ => ?_) (fun xh3 => absurd (of_decide_eq_false xh3) (by omega))
      refine Xg.ops_op (by kernel_rfl) (Xg.opx_pure ((Value.bool true)) rfl (fun _ => by kernel_rfl) ?_)
      refine Xg.ops_op (by kernel_rfl) (Xg.opx_pure ((Value.bool true)) rfl (fun _ => by kernel_rfl) ?_)
      refine Xg.ops_nil ?_
      refine Xg.at_ret_ps (v := (Value.bool true)) [] [] Go.Proofs.Try.func42 (fun _ => by kernel_rfl) (by kernel_rfl) (by kernel_rfl) ?_
      exact ⟨by kernel_rfl, by kernel_rfl⟩)

/-- Off and on again. -/
structure Kp (s : Sn) (σ : Pp) : Prop where
  ok : σ.Ok
  r0 : σ.regs 0 = regI s 0
  r1 : ∀ i, i = 2 ∨ i = 3 ∨ (7 ≤ i ∧ i < 12) → σ.regs i = regI s i
  vram : σ.vram = putP newP.vram s.ps s.pn
  oam : ∀ i, i < 160 → σ.oam i = oamI s i
theorem reg0_bd (s : Sn) : 128 ≤ regI s 0 ∧ regI s 0 ≤ 255 := by
  unfold regI
  rw [if_pos rfl]
  exact or128 _ (by have := pickN_lt (s.rs.getD 0 0) 256 (by omega); split <;> omega)
theorem kp_done {s : Sn} {σ : Pp} (h : Done s newP.vram σ) : Kp s σ := ⟨h.ok, h.r0, h.r1, h.vram, h.oam⟩
theorem kp_on {s : Sn} {σ : Pp} (h : Kp s σ) : hasB (σ.regs 0) 7 = true := by
  have := reg0_bd s
  rw [h.r0]; unfold hasB; exact decide_eq_true (by omega)
theorem kp_tick {s : Sn} {σ : Pp} (h : Kp s σ) : Kp s (tickP σ) := by
  refine ⟨ok_tick h.ok, ?_, fun i hi => ?_, ?_, fun i hi => ?_⟩ <;> rw [tick_on (kp_on h)]
  · rw [next_regs _ _ (by omega)]; exact h.r0
  · rw [next_regs _ _ (by omega)]; exact h.r1 i hi
  · rw [next_vram]; exact h.vram
  · rw [next_oam]; exact h.oam i hi
theorem band127 (s : Sn) : band .i64 (regI s 0) 127 = regI s 0 - 128 := by
  have h := reg0_bd s
  have key : ∀ k : Fin 128, band .i64 (((k.val + 128 : Nat) : Int)) 127 = ((k.val + 128 : Nat) : Int) - 128 := by decide +kernel
  have := key ⟨(regI s 0 - 128).toNat, by omega⟩
  simp only at this
  rwa [show (((regI s 0 - 128).toNat + 128 : Nat) : Int) = regI s 0 from by omega] at this

theorem w_stat (τ : Pp) (v : Int) (hv : 0 ≤ v ∧ v ≤ 255) : writeP τ 65345 v = { τ with regs := upd τ.regs 1 (band .i64 v 120) } := by
  unfold writeP setP
  rw [if_neg (by omega), if_neg (by omega), if_neg (by omega), if_neg (by omega), if_pos (by omega), show v % 256 = v from by omega]
/-- It is off. -/
structure Of (s : Sn) (σ : Pp) : Prop where
  ok : σ.Ok
  off : hasB (σ.regs 0) 7 = false
  r0 : σ.regs 0 = regI s 0 - 128
  s1 : σ.regs 1 = 120
  ly : σ.regs 4 = 0
  clk : σ.clock = 0
  last : ∀ i, σ.last i = 0
  r1 : ∀ i, i = 2 ∨ i = 3 ∨ (7 ≤ i ∧ i < 12) → σ.regs i = regI s i
  vram : σ.vram = putP newP.vram s.ps s.pn
  oam : ∀ i, i < 160 → σ.oam i = oamI s i
theorem of_kp {s : Sn} {σ : Pp} (h : Kp s σ) : Of s (writeP (writeP σ 65345 120) 65344 (regI s 0 - 128)) := by
  have ok := ok_write (ok_write h.ok 65345 120) 65344 (regI s 0 - 128)
  have hb := reg0_bd s
  have hon := kp_on h
  rw [w_stat σ 120 (by omega), show band .i64 120 120 = 120 from by decide] at ok ⊢
  have hoff : hasB (regI s 0 - 128) 7 = false := by unfold hasB; exact decide_eq_false (by omega)
  have e : writeP { σ with regs := upd σ.regs 1 120 } 65344 (regI s 0 - 128) = { begP { σ with regs := upd (upd σ.regs 1 120) 0 (regI s 0 - 128) } with last := fun _ => 0, now := fun _ => 0 } := by
    unfold writeP setP
    rw [if_neg (by omega), if_neg (by omega), if_neg (by omega), if_neg (by omega), if_neg (by omega), if_pos (by omega), show (regI s 0 - 128) % 256 = regI s 0 - 128 from by omega]
    rw [if_neg (by show ¬ hasB (upd σ.regs 1 120 0) 7 = _; rw [upd_ne (by omega), hon, hoff]; decide), if_pos (by show hasB (upd σ.regs 1 120 0) 7 = true; rw [upd_ne (by omega)]; exact hon)]
  rw [e] at ok ⊢
  refine ⟨ok, ?_, ?_, ?_, ?_, rfl, fun _ => rfl, fun i hi => ?_, h.vram, h.oam⟩
  · show hasB (upd (upd (upd σ.regs 1 120) 0 (regI s 0 - 128)) 4 0 0) 7 = false; rw [upd_ne (by omega), upd_same]; exact hoff
  · show upd (upd (upd σ.regs 1 120) 0 (regI s 0 - 128)) 4 0 0 = _; rw [upd_ne (by omega), upd_same]
  · show upd (upd (upd σ.regs 1 120) 0 (regI s 0 - 128)) 4 0 1 = _; rw [upd_ne (by omega), upd_ne (by omega), upd_same]
  · show upd (upd (upd σ.regs 1 120) 0 (regI s 0 - 128)) 4 0 4 = _; rw [upd_same]
  · show upd (upd (upd σ.regs 1 120) 0 (regI s 0 - 128)) 4 0 i = _; rw [upd_ne (by omega), upd_ne (by omega), upd_ne (by omega)]; exact h.r1 i hi
theorem of_tick {s : Sn} {σ : Pp} (h : Of s σ) : tickP σ = σ ∧ tickA σ = 0 := by
  unfold tickP tickA
  rw [h.off]
  exact ⟨if_neg (by decide), if_neg (by decide)⟩
theorem of_stat {s : Sn} {σ : Pp} (h : Of s σ) : band .i64 (readI σ 65345) 3 = 0 := by
  unfold readI
  rw [if_neg (by omega), if_neg (by omega), if_neg (by omega), if_pos rfl, h.s1, mode_off h.off]
  split <;> decide
theorem r0_read (σ : Pp) : readI σ 65344 = σ.regs 0 := by
  unfold readI
  rw [if_neg (by omega), if_neg (by omega), if_neg (by omega), if_neg (by omega)]
  rfl
theorem of_done {s : Sn} {σ : Pp} (h : Of s σ) : Done s newP.vram (writeP (writeP σ 65345 0) 65344 (regI s 0)) := by
  have ok := ok_write (ok_write h.ok 65345 0) 65344 (regI s 0)
  have hb := reg0_bd s
  rw [w_stat σ 0 (by omega), show band .i64 0 120 = 0 from by decide] at ok ⊢
  have hon : hasB (regI s 0) 7 = true := by unfold hasB; exact decide_eq_true (by omega)
  have e : writeP { σ with regs := upd σ.regs 1 0 } 65344 (regI s 0) = begP { σ with regs := upd (upd σ.regs 1 0) 0 (regI s 0) } := by
    unfold writeP setP
    rw [if_neg (by omega), if_neg (by omega), if_neg (by omega), if_neg (by omega), if_neg (by omega), if_pos (by omega), show regI s 0 % 256 = regI s 0 from by omega]
    rw [if_neg (by show ¬ hasB (upd σ.regs 1 0 0) 7 = _; rw [upd_ne (by omega), hon, h.off]; decide), if_neg (by show ¬ hasB (upd σ.regs 1 0 0) 7 = true; rw [upd_ne (by omega), h.off]; decide)]
  rw [e] at ok ⊢
  refine ⟨ok, ?_, fun i hi => ?_, ?_, rfl, rfl, rfl, h.vram, h.oam⟩
  · show upd (upd (upd σ.regs 1 0) 0 (regI s 0)) 4 0 0 = _; rw [upd_ne (by omega), upd_same]
  · show upd (upd (upd σ.regs 1 0) 0 (regI s 0)) 4 0 i = _; rw [upd_ne (by omega), upd_ne (by omega), upd_ne (by omega)]; exact h.r1 i hi
  · show upd (upd (upd σ.regs 1 0) 0 (regI s 0)) 4 0 4 = 0; rw [upd_same]

end Go.Proofs.Ytkfclamiendamaa
