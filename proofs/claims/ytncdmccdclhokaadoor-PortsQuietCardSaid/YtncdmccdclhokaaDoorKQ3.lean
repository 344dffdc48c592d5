/- The ports: what always holds; what was sent behind a start. No program in sight. -/
import Derived.Test.YtncdmccdclhokaaDoorKP18
import Derived.Test.YtncdmccdclhokaaDoorKQ2
namespace Go.Proofs.YtncdmccdclhokaaDoor
open Go.Sl Go.Xg
set_option linter.unusedVariables false
set_option linter.unusedSimpArgs false
set_option maxRecDepth 100000

structure Po.Inv (σ : Po) : Prop where
  wf : σ.Wf
  rows : bclr .u8 σ.rows 48 = 0
  line : bclr .u8 σ.line 129 = 0
  tr : σ.transfer > 0 ↔ σ.line = 129
  se : σ.transfer = 0 → σ.sending = 0

theorem bclr48 {v : Int} (h : 0 ≤ v ∧ v ≤ 255) : bclr .u8 (band .u8 v 48) 48 = 0 := by
  obtain ⟨n, rfl⟩ := nat_of h.1
  have : ∀ v : Fin 256, bclr .u8 (band .u8 (v.val : Nat) 48) 48 = 0 := by decide +kernel
  exact this ⟨n, by omega⟩
theorem bclr129 {v : Int} (h : 0 ≤ v ∧ v ≤ 255) : bclr .u8 (band .u8 v 129) 129 = 0 := by
  obtain ⟨n, rfl⟩ := nat_of h.1
  have : ∀ v : Fin 256, bclr .u8 (band .u8 (v.val : Nat) 129) 129 = 0 := by decide +kernel
  exact this ⟨n, by omega⟩
theorem bclr_small {v : Int} (h : 0 ≤ v ∧ v ≤ 7) : bclr .u8 v 7 = 0 := by
  obtain ⟨n, rfl⟩ := nat_of h.1
  have : ∀ v : Fin 8, bclr .u8 (v.val : Nat) 7 = 0 := by decide +kernel
  exact this ⟨n, by omega⟩
theorem bclr_31 {v : Int} (h : 0 ≤ v ∧ v ≤ 31) : bclr .u8 v 31 = 0 := by
  obtain ⟨n, rfl⟩ := nat_of h.1
  have : ∀ v : Fin 32, bclr .u8 (v.val : Nat) 31 = 0 := by decide +kernel
  exact this ⟨n, by omega⟩

theorem driven_rows (b : Bool) (σ : Po) : (driven b σ).rows = σ.rows := by unfold driven ticked; split <;> (try split) <;> (try split) <;> rfl
theorem alarmed_rows (σ : Po) : (alarmed σ).rows = σ.rows := by unfold alarmed; split <;> (try split) <;> rfl

theorem inv_of {σ σ' : Po} (h : σ.Inv) (hw : σ'.Wf) (h1 : σ'.rows = σ.rows) (h2 : σ'.line = σ.line) (h3 : σ'.transfer = σ.transfer) (h4 : σ'.sending = σ.sending) : σ'.Inv :=
  ⟨hw, by rw [h1]; exact h.rows, by rw [h2]; exact h.line, by rw [h2, h3]; exact h.tr, by rw [h3, h4]; exact h.se⟩

theorem inv_driven {σ : Po} (h : σ.Inv) (b : Bool) {σ' : Po} (hw : σ'.Wf) (h1 : σ'.rows = σ.rows) (h2 : σ'.line = σ.line) (h3 : σ'.transfer = σ.transfer) (h4 : σ'.sending = σ.sending) : (driven b σ').Inv := by
  obtain ⟨_, d2, _, d4, d5⟩ := driven_rest b σ'
  exact inv_of h (driven_wf hw b) ((driven_rows b σ').trans h1) (d2.trans h2) (d4.trans h3) (d5.trans h4)

theorem inv_clock {σ : Po} (h : σ.Inv) : (clockP σ).Inv := by
  have hw := clockP_wf h.wf
  obtain ⟨c1, c2, c3, c4, _⟩ := counted_rest σ
  have hr : (counted (alarmed σ)).rows = σ.rows := (driven_rows _ _).trans (alarmed_rows σ)
  have ht := h.wf.transfer
  revert hw
  unfold clockP
  split
  · rename_i h0
    split
    · rename_i h1
      intro hw
      have hl : σ.line = 129 := h.tr.1 h0
      refine ⟨hw, hr ▸ h.rows, ?_, ?_, fun _ => rfl⟩
      · show bclr .u8 (bclr .u8 (counted (alarmed σ)).line 128) 129 = 0
        rw [c2, hl]; decide
      · show σ.transfer - 1 > 0 ↔ bclr .u8 (counted (alarmed σ)).line 128 = 129
        rw [c2, hl]
        constructor
        · intro h; omega
        · intro h; exact absurd h (by decide)
    · rename_i h1
      intro hw
      refine ⟨hw, hr ▸ h.rows, ?_, ?_, ?_⟩
      · show bclr .u8 (counted (alarmed σ)).line 129 = 0
        rw [c2]; exact h.line
      · show σ.transfer - 1 > 0 ↔ (counted (alarmed σ)).line = 129
        rw [c2, ← h.tr]; omega
      · intro hz
        have hz' : σ.transfer - 1 = 0 := hz
        exact absurd hz' h1
  · intro hw
    exact inv_of h hw hr c2 c3 c4

theorem inv_clk {x : Po × List Int} (h : x.1.Inv) (n : Nat) : (clk n x).1.Inv := by
  induction n with
  | zero => exact h
  | succ n ih => exact inv_clock ih

theorem inv_pressed {σ σ' : Po} (h : σ'.Inv) : (pressed σ σ').Inv := by
  have hw := pressed_wf (σ := σ) h.wf
  revert hw
  unfold pressed
  split
  · intro _; exact h
  · intro hw; exact ⟨hw, h.rows, h.line, h.tr, h.se⟩

theorem inv_wr {σ : Po} (h : σ.Inv) (i : Nat) {v : Int} (hv : 0 ≤ v ∧ v ≤ 255) : (wrI i σ v).Inv := by
  have hw := wrI_wf h.wf i hv
  have h48 := band8_le v 48 (by omega)
  match i with
  | 0 => exact inv_pressed ⟨⟨h.wf.buttons, ⟨h48.1, Int.le_trans h48.2 (by decide)⟩, h.wf.shift, h.wf.line, h.wf.counter, h.wf.timer, h.wf.again, h.wf.control, h.wf.requests, h.wf.alarm, h.wf.transfer, h.wf.sending⟩, bclr48 hv, h.line, h.tr, h.se⟩
  | 1 => exact ⟨hw, h.rows, h.line, h.tr, h.se⟩
  | 2 =>
    revert hw
    show (if band .u8 v 129 = 129 then ({ σ with line := band .u8 v 129, transfer := 4096, sending := σ.shift } : Po) else { σ with line := band .u8 v 129, transfer := 0, sending := 0 }).Wf →
      (if band .u8 v 129 = 129 then ({ σ with line := band .u8 v 129, transfer := 4096, sending := σ.shift } : Po) else { σ with line := band .u8 v 129, transfer := 0, sending := 0 }).Inv
    split
    · rename_i he
      intro hw
      exact ⟨hw, h.rows, bclr129 hv, ⟨fun _ => he, fun _ => by show (4096 : Int) > 0; omega⟩, fun hz => absurd hz (by show ¬ (4096 : Int) = 0; omega)⟩
    · rename_i he
      intro hw
      exact ⟨hw, h.rows, bclr129 hv, ⟨fun hz => absurd hz (by show ¬ (0 : Int) > 0; omega), fun hz => absurd hz he⟩, fun _ => rfl⟩
  | 3 => exact inv_driven h _ ⟨h.wf.buttons, h.wf.rows, h.wf.shift, h.wf.line, ⟨Int.le_refl 0, by show (0 : Int) ≤ 65535; omega⟩, h.wf.timer, h.wf.again, h.wf.control, h.wf.requests, h.wf.alarm, h.wf.transfer, h.wf.sending⟩ rfl rfl rfl rfl
  | 4 => exact ⟨hw, h.rows, h.line, h.tr, h.se⟩
  | 5 => exact ⟨hw, h.rows, h.line, h.tr, h.se⟩
  | 6 =>
    have h7 := band8_le v 7 (by omega)
    exact inv_driven h _ ⟨h.wf.buttons, h.wf.rows, h.wf.shift, h.wf.line, h.wf.counter, h.wf.timer, h.wf.again, ⟨h7.1, Int.le_trans h7.2 (by decide)⟩, h.wf.requests, h.wf.alarm, h.wf.transfer, h.wf.sending⟩ rfl rfl rfl rfl
  | i + 7 => exact ⟨hw, h.rows, h.line, h.tr, h.se⟩

theorem inv_act {x : Po × List Int} (h : x.1.Inv) (t : Act) : (doAct x t).1.Inv := by
  unfold doAct
  split
  · exact inv_clk h _
  · split
    · exact inv_wr h _ (by have := pickN_lt t.b 256 (by omega); omega)
    · split
      · have := pickN_lt t.a 256 (by omega)
        exact inv_pressed ⟨⟨by dsimp only; omega, h.wf.rows, h.wf.shift, h.wf.line, h.wf.counter, h.wf.timer, h.wf.again, h.wf.control, h.wf.requests, h.wf.alarm, h.wf.transfer, h.wf.sending⟩, h.rows, h.line, h.tr, h.se⟩
      · exact ⟨wfT h.wf _, h.rows, h.line, h.tr, h.se⟩

theorem inv_doN {x : Po × List Int} (h : x.1.Inv) (l : List Act) (n : Nat) : (doN l n x).1.Inv := by
  induction n with
  | zero => exact h
  | succ n ih => exact inv_act ih _

theorem inv_new0 : new0.Inv := ⟨new0_wf, by decide, by decide, by decide, by decide⟩

/-- What State tells is what Load takes. -/
theorem load_state {σ : Po} (h : σ.Inv) : LoadOK (stL σ) ∧ ldP (stL σ) = σ ∧ isB (stL σ) := by
  obtain ⟨⟨h1, h2, h3, h4, h5, h6, h7, h8, h9, h10, h11, h12⟩, i1, i2, i3, i4⟩ := h
  have hg : goesI (stL σ) = σ.transfer := by
    show bor .i64 (σ.transfer % 256) (σ.transfer / 256 * 256) = _
    obtain ⟨t, ht⟩ := nat_of h11.1
    rw [ht] at h11 ⊢
    have := bor_add (k := .i64) (lo := t % 256) (hi := t / 256) (by omega) (.inr ⟨rfl, by omega⟩)
    rw [show ((t % 256 : Nat) : Int) = (t : Int) % 256 from by simp, show ((t / 256 : Nat) : Int) = (t : Int) / 256 from by simp] at this
    rw [this]; omega
  have hc : bor .u16 (σ.counter % 256) (σ.counter / 256 * 256) = σ.counter := by
    obtain ⟨t, ht⟩ := nat_of h5.1
    rw [ht] at h5 ⊢
    have := bor_add (k := .u16) (lo := t % 256) (hi := t / 256) (by omega) (.inl ⟨rfl, by omega⟩)
    rw [show ((t % 256 : Nat) : Int) = (t : Int) % 256 from by simp, show ((t / 256 : Nat) : Int) = (t : Int) / 256 from by simp] at this
    rw [this]; omega
  refine ⟨⟨rfl, i1, i2, bclr_small h8, bclr_31 h9, h10.2, by rw [hg]; exact h11.2, by rw [hg]; exact i3, by rw [hg]; exact i4, ?_⟩, ?_, ?_⟩
  · intro i hi
    match i, hi with
    | 0, _ => rfl
    | 1, _ => rfl
    | 2, _ => rfl
    | 3, _ => rfl
    | 4, _ => rfl
  · unfold ldP
    rw [hg]
    show Po.mk σ.buttons σ.rows σ.shift σ.line (bor .u16 (σ.counter % 256) (σ.counter / 256 * 256)) σ.timer σ.again σ.control σ.requests σ.alarm σ.transfer σ.sending = σ
    rw [hc]
  · unfold stL
    repeat (first | exact isB_nil | refine isB_cons (by omega) ?_)

/-- What is sent behind a start does not hang on what was sent ahead. -/
theorem sent_clk {σ : Po} (n : Nat) (ys : List Int) : ∃ ws, (∀ xs, xs.length ≤ 256 → (clk n (σ, last (xs ++ ys))) = ((clk n (σ, [])).1, last (xs ++ ws))) := by
  induction n with
  | zero => exact ⟨ys, fun xs _ => rfl⟩
  | succ n ih =>
    obtain ⟨ws, ih⟩ := ih
    have e1 : ∀ zs : List Int, (clk n (σ, zs)).1 = (clk n (σ, [])).1 := by
      intro zs
      induction n with
      | zero => rfl
      | succ n _ =>
        have : ∀ m (a b : List Int), (clk m (σ, a)).1 = (clk m (σ, b)).1 := by
          intro m a b
          induction m with
          | zero => rfl
          | succ m ih => show clockP _ = clockP _; rw [ih]
        exact this _ _ _
    by_cases hs : (clk n (σ, [])).1.transfer > 0 ∧ (clk n (σ, [])).1.transfer - 1 = 0
    · refine ⟨ws ++ [(clk n (σ, [])).1.sending], fun xs hx => ?_⟩
      show (clockP (clk n (σ, last (xs ++ ys))).1, clockX (clk n (σ, last (xs ++ ys))).1 (clk n (σ, last (xs ++ ys))).2) = _
      rw [ih xs hx]
      dsimp only
      show _ = (clockP (clk n (σ, [])).1, _)
      unfold clockX
      rw [if_pos hs.1, if_pos hs.2, ends_last, List.append_assoc]
    · refine ⟨ws, fun xs hx => ?_⟩
      show (clockP (clk n (σ, last (xs ++ ys))).1, clockX (clk n (σ, last (xs ++ ys))).1 (clk n (σ, last (xs ++ ys))).2) = _
      rw [ih xs hx]
      dsimp only
      show _ = (clockP (clk n (σ, [])).1, _)
      unfold clockX
      by_cases h1 : (clk n (σ, [])).1.transfer > 0
      · rw [if_pos h1, if_neg (fun h2 => hs ⟨h1, h2⟩)]
      · rw [if_neg h1]

theorem clk_fst (n : Nat) (σ : Po) (a b : List Int) : (clk n (σ, a)).1 = (clk n (σ, b)).1 := by
  induction n with
  | zero => rfl
  | succ n ih => show clockP _ = clockP _; rw [ih]

theorem act_fst (σ : Po) (t : Act) (a b : List Int) : (doAct (σ, a) t).1 = (doAct (σ, b) t).1 := by
  unfold doAct
  split
  · exact clk_fst _ _ _ _
  · split
    · rfl
    · split <;> rfl

theorem sent_act {σ : Po} (t : Act) (ys : List Int) : ∃ ws, ∀ xs, xs.length ≤ 256 → (doAct (σ, last (xs ++ ys)) t).2 = last (xs ++ ws) := by
  by_cases h : pickN t.kind 6 ≤ 1
  · obtain ⟨ws, hws⟩ := sent_clk (σ := σ) (pickN t.a 5000) ys
    refine ⟨ws, fun xs hx => ?_⟩
    unfold doAct
    rw [if_pos h, hws xs hx]
  · refine ⟨ys, fun xs hx => ?_⟩
    unfold doAct
    rw [if_neg h]
    split
    · rfl
    · split <;> rfl

theorem doN_fst (l : List Act) (n : Nat) (σ : Po) (a b : List Int) : (doN l n (σ, a)).1 = (doN l n (σ, b)).1 := by
  induction n with
  | zero => rfl
  | succ n ih =>
    show (doAct (doN l n (σ, a)) _).1 = (doAct (doN l n (σ, b)) _).1
    obtain ⟨p, q⟩ : ∃ x : Po × List Int, doN l n (σ, a) = x := ⟨_, rfl⟩
    rw [show doN l n (σ, a) = ((doN l n (σ, a)).1, (doN l n (σ, a)).2) from rfl, show doN l n (σ, b) = ((doN l n (σ, b)).1, (doN l n (σ, b)).2) from rfl, ih]
    exact act_fst _ _ _ _

theorem sent_doN (l : List Act) (n : Nat) (σ : Po) : ∃ ws, ∀ xs, xs.length ≤ 256 → (doN l n (σ, xs)).2 = last (xs ++ ws) := by
  induction n with
  | zero => exact ⟨[], fun xs hx => by rw [List.append_nil, last_id hx]; rfl⟩
  | succ n ih =>
    obtain ⟨ws, ih⟩ := ih
    obtain ⟨us, hus⟩ := sent_act (σ := (doN l n (σ, [])).1) (l.getD n default) ws
    refine ⟨us, fun xs hx => ?_⟩
    show (doAct (doN l n (σ, xs)) _).2 = _
    rw [show doN l n (σ, xs) = ((doN l n (σ, xs)).1, (doN l n (σ, xs)).2) from rfl, ih xs hx, doN_fst l n σ xs []]
    exact hus xs hx

/-- The law's own words: what was sent ahead, then what was sent behind. -/
theorem sent_law (l : List Act) (n : Nat) (σ : Po) {xs : List Int} (hx : xs.length ≤ 256) : (doN l n (σ, [])).2.length ≤ (doN l n (σ, xs)).2.length ∧
    (xs.length + (doN l n (σ, [])).2.length ≤ 256 → (doN l n (σ, xs)).2 = xs ++ (doN l n (σ, [])).2) := by
  obtain ⟨ws, h⟩ := sent_doN l n σ
  have h0 := h [] (by simp)
  have h1 := h xs hx
  rw [List.nil_append] at h0
  rw [h0, h1]
  unfold last
  refine ⟨by simp; omega, fun hl => ?_⟩
  simp only [List.length_drop] at hl
  have hw : ws.length ≤ 256 ∨ 256 < ws.length := by omega
  rcases hw with hw | hw
  · rw [show ws.length - 256 = 0 from by omega, List.drop_zero]
    rw [show (xs ++ ws).length - 256 = 0 from by simp; omega, List.drop_zero]
  · obtain rfl : xs = [] := by
      have : xs.length = 0 := by omega
      exact List.eq_nil_of_length_eq_zero this
    simp

end Go.Proofs.YtncdmccdclhokaaDoor
