/- The picture's laws: where it is behind Ticks (plain). -/
import Derived.Test.YtkfclamiendamaaKV16
import Derived.Test.YtkfclamiendamaaKS
namespace Go.Proofs.Ytkfclamiendamaa
open Go.Sl Go.Xg
set_option linter.unusedVariables false
set_option linter.unusedSimpArgs false
set_option maxHeartbeats 4000000
set_option maxRecDepth 100000

theorem next_ly (σ : Pp) (h : σ.Ok) : (nextP σ).regs 4 = (if σ.clock = 452 then (if σ.regs 4 = 153 then 0 else σ.regs 4 + 1) else σ.regs 4) := by
  unfold nextP
  (repeat' split) <;> first | rfl | (exfalso; omega) | (show upd _ 4 _ 4 = _; rw [upd_same]; done) | (show upd _ 4 _ 4 = _; rw [upd_same]; omega)
theorem next_clock (σ : Pp) (h : σ.Ok) : (nextP σ).clock = (if σ.clock = 452 then 0 else σ.clock + 4) := by
  unfold nextP
  (repeat' split) <;> first | rfl | (exfalso; omega)
theorem next_regs (σ : Pp) (i : Nat) (hi : i ≠ 4) : (nextP σ).regs i = σ.regs i := by
  unfold nextP
  (repeat' split) <;> first | rfl | (show upd _ 4 _ i = _; rw [upd_ne hi]; done) | (show upd (upd _ 4 _) 4 _ i = _; rw [upd_ne hi, upd_ne hi])
theorem next_vram (σ : Pp) : (nextP σ).vram = σ.vram := by
  unfold nextP
  (repeat' split) <;> rfl
theorem next_oam (σ : Pp) : (nextP σ).oam = σ.oam := by
  unfold nextP
  (repeat' split) <;> rfl
theorem tick_on {σ : Pp} (h : hasB (σ.regs 0) 7 = true) : tickP σ = nextP σ := by unfold tickP; rw [if_pos h]

/-- Behind i Ticks of frames that began: line and clock. -/
structure At4 (i : Nat) (σ : Pp) : Prop where
  ok : σ.Ok
  on : hasB (σ.regs 0) 7 = true
  ly : σ.regs 4 = ((i / 114 % 154 : Nat) : Int)
  clk : σ.clock = ((i % 114 * 4 : Nat) : Int)
theorem at4_next {i : Nat} {σ : Pp} (h : At4 i σ) : At4 (i + 1) (tickP σ) := by
  rw [tick_on h.on]
  have h1 := next_ly σ h.ok
  have h2 := next_clock σ h.ok
  have e1 := h.ly
  have e2 := h.clk
  refine ⟨ok_next h.ok, by rw [next_regs σ 0 (by omega)]; exact h.on, ?_, ?_⟩
  · rw [h1]; split
    · split <;> omega
    · omega
  · rw [h2]; split <;> omega
theorem at4_ask {i : Nat} {σ : Pp} (h : At4 i σ) : tickA σ % 2 = ((((i + 1) + 1140) / 17556 - (i + 1140) / 17556 : Nat) : Int) := by
  have e1 := h.ly
  have e2 := h.clk
  unfold tickA
  rw [if_pos h.on]
  (repeat' split) <;> omega

/-- The same, with registers that stay. -/
structure Tm (r0 r1 y : Int) (i : Nat) (σ : Pp) : Prop where
  at4 : At4 i σ
  r0 : σ.regs 0 = r0
  r1 : σ.regs 1 = r1
  r5 : σ.regs 5 = y
theorem tm_next {r0 r1 y : Int} {i : Nat} {σ : Pp} (h : Tm r0 r1 y i σ) : Tm r0 r1 y (i + 1) (tickP σ) := by
  refine ⟨at4_next h.at4, ?_, ?_, ?_⟩ <;> rw [tick_on h.at4.on, next_regs σ _ (by omega)]
  · exact h.r0
  · exact h.r1
  · exact h.r5
theorem tm_new (y : Int) (hy : 0 ≤ y ∧ y ≤ 255) : Tm 145 0 y 0 (writeP newP 65349 y) := by
  have e : writeP newP 65349 y = { newP with regs := upd newP.regs 5 y } := by
    unfold writeP setP
    rw [if_neg (by omega), if_neg (by omega), if_neg (by omega), if_neg (by omega), if_neg (by omega), if_neg (by omega), show y % 256 = y from by omega]
    rfl
  refine ⟨⟨ok_write ok_new _ _, ?_, ?_, ?_⟩, ?_, ?_, ?_⟩
  · rw [e]; rfl
  · rw [e]; rfl
  · rw [e]; rfl
  · rw [e]; rfl
  · rw [e]; rfl
  · rw [e]; show upd newP.regs 5 y 5 = y; exact upd_same _ _ _

/-- What STAT reads as. -/
theorem stat_read {r0 y : Int} {i : Nat} {σ : Pp} (h : Tm r0 0 y i σ) : readI σ 65345 = 128 + modeI σ + (if σ.regs 4 = y then 4 else 0) := by
  unfold readI
  rw [if_neg (by omega), if_neg (by omega), if_neg (by omega), if_pos rfl, h.r1, h.r5]
  have hb := modeI_bd σ
  rcases (by omega : modeI σ = 0 ∨ modeI σ = 1 ∨ modeI σ = 2 ∨ modeI σ = 3) with e | e | e | e <;> rw [e] <;> split <;> decide
theorem ly_read (σ : Pp) : readI σ 65348 = σ.regs 4 := by
  unfold readI
  rw [if_neg (by omega), if_neg (by omega), if_neg (by omega), if_neg (by omega)]
  rfl
theorem mode_at {i : Nat} {σ : Pp} (h : At4 i σ) : modeI σ = (if i / 114 % 154 ≥ 144 then 1 else if i % 114 * 4 < 80 then 2 else if i % 114 * 4 < 252 then 3 else 0) := by
  have e1 := h.ly
  have e2 := h.clk
  unfold modeI
  rw [if_pos h.on]
  (repeat' split) <;> omega

end Go.Proofs.Ytkfclamiendamaa
