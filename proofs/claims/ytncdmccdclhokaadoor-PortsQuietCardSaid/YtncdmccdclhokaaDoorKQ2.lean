/- The ports: what a transfer does, clock by clock. No program in sight. -/
import Derived.Test.YtncdmccdclhokaaDoorKP10
namespace Go.Proofs.YtncdmccdclhokaaDoor
open Go.Sl Go.Xg
set_option linter.unusedVariables false
set_option linter.unusedSimpArgs false
set_option maxRecDepth 100000

/-- Bit 3 of the requests. -/
theorem ask2_b3 {r : Int} (h : 0 ≤ r ∧ r ≤ 31) : band .i64 (askI r 2) 8 = band .i64 r 8 := by
  obtain ⟨n, rfl⟩ := nat_of h.1
  have : ∀ r : Fin 32, band .i64 (askI (r.val : Nat) 2) 8 = band .i64 (r.val : Nat) 8 := by decide +kernel
  exact this ⟨n, by omega⟩
theorem ask3_b3 {r : Int} (h : 0 ≤ r ∧ r ≤ 31) : band .i64 (askI r 3) 8 = 8 := by
  obtain ⟨n, rfl⟩ := nat_of h.1
  have : ∀ r : Fin 32, band .i64 (askI (r.val : Nat) 3) 8 = 8 := by decide +kernel
  exact this ⟨n, by omega⟩
theorem take3_b3 {r : Int} (h : 0 ≤ r ∧ r ≤ 31) : band .i64 (takeI r 3) 8 = 0 := by
  obtain ⟨n, rfl⟩ := nat_of h.1
  have : ∀ r : Fin 32, band .i64 (takeI (r.val : Nat) 3) 8 = 0 := by decide +kernel
  exact this ⟨n, by omega⟩

theorem driven_rest (b : Bool) (σ : Po) : (driven b σ).shift = σ.shift ∧ (driven b σ).line = σ.line ∧ (driven b σ).requests = σ.requests ∧ (driven b σ).transfer = σ.transfer ∧ (driven b σ).sending = σ.sending := by
  unfold driven ticked; split <;> (try split) <;> (try split) <;> exact ⟨rfl, rfl, rfl, rfl, rfl⟩

theorem counted_rest (σ : Po) : (counted (alarmed σ)).shift = σ.shift ∧ (counted (alarmed σ)).line = σ.line ∧ (counted (alarmed σ)).transfer = σ.transfer ∧ (counted (alarmed σ)).sending = σ.sending ∧
    ((counted (alarmed σ)).requests = σ.requests ∨ (counted (alarmed σ)).requests = askI σ.requests 2) := by
  obtain ⟨h1, h2, h3, h4, h5⟩ := driven_rest (driveB (alarmed σ)) { alarmed σ with counter := ((alarmed σ).counter + 1) % 65536 }
  have e : counted (alarmed σ) = driven (driveB (alarmed σ)) { alarmed σ with counter := ((alarmed σ).counter + 1) % 65536 } := rfl
  rw [e, h1, h2, h3, h4, h5]
  dsimp only
  unfold alarmed
  split
  · split
    · exact ⟨rfl, rfl, rfl, rfl, .inr rfl⟩
    · exact ⟨rfl, rfl, rfl, rfl, .inl rfl⟩
  · exact ⟨rfl, rfl, rfl, rfl, .inl rfl⟩

/-- The transfer's part of the state. -/
structure Se (sh li tr se b : Int) (σ : Po) : Prop where
  wf : σ.Wf
  shift : σ.shift = sh
  line : σ.line = li
  transfer : σ.transfer = tr
  sending : σ.sending = se
  bit : band .i64 σ.requests 8 = b

theorem Se.cnt {sh li tr se b : Int} {σ : Po} (h : Se sh li tr se b σ) : Se sh li tr se b (counted (alarmed σ)) := by
  obtain ⟨w, h1, h2, h3, h4, h5⟩ := h
  obtain ⟨c1, c2, c3, c4, c5⟩ := counted_rest σ
  refine ⟨counted_wf (alarmed_wf w), c1.trans h1, c2.trans h2, c3.trans h3, c4.trans h4, ?_⟩
  rcases c5 with c5 | c5 <;> rw [c5]
  · exact h5
  · rw [ask2_b3 w.requests]; exact h5

/-- One clock, the transfer not at its end. -/
theorem Se.goes {sh li tr se b : Int} {x : Po × List Int} (h : Se sh li tr se b x.1) (ht : tr ≠ 1) : Se sh li (if tr > 0 then tr - 1 else tr) se b (clk 1 x).1 ∧ (clk 1 x).2 = x.2 := by
  have hc := h.cnt
  have h3 := h.transfer
  have hw := h.wf.transfer
  show Se sh li _ se b (clockP x.1) ∧ clockX x.1 x.2 = x.2
  unfold clockP clockX
  rw [h3]
  by_cases h0 : tr > 0
  · simp only [if_pos h0, if_neg (show ¬ tr - 1 = 0 by omega)]
    refine ⟨⟨⟨hc.wf.buttons, hc.wf.rows, hc.wf.shift, hc.wf.line, hc.wf.counter, hc.wf.timer, hc.wf.again, hc.wf.control, hc.wf.requests, hc.wf.alarm, by dsimp only; omega, hc.wf.sending⟩, hc.shift, hc.line, rfl, hc.sending, hc.bit⟩, trivial⟩
  · simp only [if_neg h0]
    exact ⟨hc, trivial⟩

theorem clk_one (n : Nat) (x : Po × List Int) : clk (n + 1) x = clk 1 (clk n x) := rfl

/-- Some clocks within a transfer. -/
theorem Se.within {sh li tr se b : Int} {x : Po × List Int} (h : Se sh li tr se b x.1) (n : Nat) (hn : (n : Int) < tr) : Se sh li (tr - n) se b (clk n x).1 ∧ (clk n x).2 = x.2 := by
  induction n with
  | zero =>
    rw [show tr - ((0 : Nat) : Int) = tr from by simp]
    exact ⟨h, rfl⟩
  | succ n ih =>
    obtain ⟨i1, i2⟩ := ih (by omega)
    obtain ⟨g1, g2⟩ := i1.goes (by omega)
    rw [if_pos (by omega)] at g1
    rw [clk_one, g2, i2]
    have e : tr - n - 1 = tr - ((n + 1 : Nat) : Int) := by omega
    rw [e] at g1
    exact ⟨g1, rfl⟩

/-- Some clocks with nothing to send. -/
theorem Se.none {sh li se b : Int} {x : Po × List Int} (h : Se sh li 0 se b x.1) (n : Nat) : Se sh li 0 se b (clk n x).1 ∧ (clk n x).2 = x.2 := by
  induction n with
  | zero => exact ⟨h, rfl⟩
  | succ n ih =>
    obtain ⟨i1, i2⟩ := ih
    obtain ⟨g1, g2⟩ := i1.goes (by omega)
    rw [if_neg (by omega)] at g1
    rw [clk_one, g2, i2]
    exact ⟨g1, rfl⟩

/-- The last clock of a transfer. -/
theorem Se.ends {sh se b : Int} {x : Po × List Int} (h : Se sh 129 1 se b x.1) : Se 255 1 0 0 8 (clk 1 x).1 ∧ (clk 1 x).2 = endsX se x.2 := by
  have hc := h.cnt
  have h3 := h.transfer
  show Se 255 1 0 0 8 (clockP x.1) ∧ clockX x.1 x.2 = endsX se x.2
  have hwf := clockP_wf h.wf
  revert hwf
  unfold clockP clockX
  rw [h3, h.sending]
  simp only [if_pos (show (1 : Int) > 0 by omega), if_pos (show (1 : Int) - 1 = 0 by omega)]
  intro hwf
  refine ⟨⟨hwf, rfl, ?_, rfl, rfl, ask3_b3 hc.wf.requests⟩, trivial⟩
  show bclr .u8 (counted (alarmed x.1)).line 128 = 1
  rw [hc.line]; decide

/-- The last 256. -/
def last (xs : List Int) : List Int := xs.drop (xs.length - 256)
theorem last_id {xs : List Int} (h : xs.length ≤ 256) : last xs = xs := by
  unfold last
  rw [show xs.length - 256 = 0 from by omega]; rfl
theorem last_len (xs : List Int) : (last xs).length ≤ 256 := by unfold last; simp; omega
theorem ends_last (x : Int) (ws : List Int) : endsX x (last ws) = last (ws ++ [x]) := by
  unfold endsX last
  have e : List.drop (ws.length - 256) ws ++ [x] = List.drop (ws.length - 256) (ws ++ [x]) := by
    rw [List.drop_append_of_le_length (by omega)]
  rw [e, List.drop_drop]
  congr 1
  simp
  omega

end Go.Proofs.YtncdmccdclhokaaDoor
