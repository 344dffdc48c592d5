/- The picture's laws: what a frame shows (plain). -/
import Derived.Test.YtkfclamiendamaaKV25
import Derived.Test.YtkfclamiendamaaKS
import Derived.Test.YtkfclamiendamaaKV21
namespace Go.Proofs.Ytkfclamiendamaa
open Go.Sl Go.Xg
set_option linter.unusedVariables false
set_option linter.unusedSimpArgs false
set_option maxHeartbeats 4000000
set_option maxRecDepth 100000

def winOK (σ : Pp) : Bool := hasB (σ.regs 0) 5 && decide (σ.regs 11 ≤ 166)
/-- As it is when a line is drawn, of a frame that began so. -/
def lineSt (σ : Pp) (y : Nat) : Pp := { σ with regs := upd σ.regs 4 y, seen := decide (σ.regs 10 ≤ (y : Int)), rows := if winOK σ = true ∧ σ.regs 10 ≤ (y : Int) then (y : Int) - σ.regs 10 else 0 }
/-- A point of the picture. -/
def PIC (σ : Pp) (y x : Nat) : Int := pixI (lineSt σ y) (sprL (lineSt σ y) (y : Int)) (x : Int)

theorem ovN_like (σ : Pp) (c : Int) (n l : Nat → Int) (y x : Int) (L : List Spr) (k : Nat) : ovN { σ with clock := c, now := n, last := l } y x L k = ovN σ y x L k := by
  induction k with
  | zero => rfl
  | succ k ih => rw [ovN, ovN, ih]; rfl
theorem pixI_like (σ : Pp) (c : Int) (n l : Nat → Int) (L : List Spr) (x : Int) : pixI { σ with clock := c, now := n, last := l } L x = pixI σ L x := by
  unfold pixI overI
  rw [ovN_like]
  rfl
theorem selN_like (σ : Pp) (c : Int) (n l : Nat → Int) (y : Int) (k : Nat) : selN { σ with clock := c, now := n, last := l } y k = selN σ y k := by
  induction k with
  | zero => rfl
  | succ k ih => rw [selN, selN, ih]; rfl
theorem sprL_like (σ : Pp) (c : Int) (n l : Nat → Int) (y : Int) : sprL { σ with clock := c, now := n, last := l } y = sprL σ y := by
  unfold sprL
  rw [selN_like]

/-- Behind i Ticks of a frame. -/
structure Fr (σ : Pp) (i : Nat) (τ : Pp) : Prop where
  at4 : At4 i τ
  regs : ∀ r, r ≠ 4 → τ.regs r = σ.regs r
  vram : τ.vram = σ.vram
  oam : τ.oam = σ.oam
  seen : i / 114 < 144 → τ.seen = decide (σ.regs 10 < ((i / 114 : Nat) : Int) ∨ (σ.regs 10 = ((i / 114 : Nat) : Int) ∧ 20 ≤ i % 114))
  rows : i / 114 < 144 → τ.rows = if winOK σ = true ∧ σ.regs 10 < (((i + 51) / 114 : Nat) : Int) then (((i + 51) / 114 : Nat) : Int) - σ.regs 10 else 0
  now : ∀ y x, y < (i + 51) / 114 → y < 144 → x < 160 → τ.now (160 * y + x) = PIC σ y x
  last : i = 16416 → ∀ y x, y < 144 → x < 160 → τ.last (160 * y + x) = PIC σ y x

theorem fr_zero {σ : Pp} (h : At4 0 σ) (hs : σ.seen = false) (hr : σ.rows = 0) : Fr σ 0 σ := by
  have h10 := h.ok.wf.regs 10
  refine ⟨h, fun _ _ => rfl, rfl, rfl, fun _ => ?_, fun _ => ?_, fun y x hy => ?_, fun e => ?_⟩
  · rw [hs]; symm; exact decide_eq_false (by omega)
  · rw [hr, if_neg (fun hh => by have := hh.2; omega)]
  · omega
  · omega

theorem fr_next {σ : Pp} (hσ : σ.Ok) {i : Nat} (hi : i < 16416) {τ : Pp} (h : Fr σ i τ) : Fr σ (i + 1) (tickP τ) := by
  have hn := at4_next h.at4
  have h10 := hσ.wf.regs 10
  have hclk := h.at4.clk
  have hly := h.at4.ly
  have h10' := h.regs 10 (by omega)
  have h11' := h.regs 11 (by omega)
  have h0' := h.regs 0 (by omega)
  rw [tick_on h.at4.on] at hn ⊢
  have hreg : ∀ r, r ≠ 4 → (nextP τ).regs r = σ.regs r := fun r hr => (next_regs τ r hr).trans (h.regs r hr)
  have hv := (next_vram τ).trans h.vram
  have ho := (next_oam τ).trans h.oam
  have hyl : i / 114 < 144 := by omega
  have hseen := h.seen hyl
  have hrows := h.rows hyl
  by_cases c1 : i % 114 = 19
  · -- WY is looked at
    have e : nextP τ = (if τ.regs 4 < 144 ∧ τ.regs 4 = τ.regs 10 then { τ with clock := τ.clock + 4, seen := true } else { τ with clock := τ.clock + 4 }) := by
      unfold nextP; rw [if_pos (by omega)]
    have er : (nextP τ).rows = τ.rows := by rw [e]; split <;> rfl
    have en : (nextP τ).now = τ.now := by rw [e]; split <;> rfl
    refine ⟨hn, hreg, hv, ho, fun _ => ?_, fun _ => ?_, fun y x hy hy2 hx => ?_, fun e => by omega⟩
    · rw [e, show (i + 1) / 114 = i / 114 from by omega, show (i + 1) % 114 = 20 from by omega]
      split
      · symm; exact decide_eq_true (by omega)
      · show τ.seen = _
        rw [hseen]
        exact decide_eq_decide.mpr (by omega)
    · rw [er, hrows, show (i + 1 + 51) / 114 = (i + 51) / 114 from by omega]
    · rw [en]; exact h.now y x (by omega) hy2 hx
  · by_cases c2 : i % 114 = 62
    · -- the line is drawn
      have e : nextP τ = drawP { τ with clock := τ.clock + 4 } := by
        unfold nextP; rw [if_neg (by omega), if_pos (by omega), if_pos (by omega)]
      have hs2 : τ.seen = decide (σ.regs 10 ≤ ((i / 114 : Nat) : Int)) := by
        rw [hseen]; exact decide_eq_decide.mpr (by omega)
      have hr2 : τ.rows = (if winOK σ = true ∧ σ.regs 10 ≤ ((i / 114 : Nat) : Int) then ((i / 114 : Nat) : Int) - σ.regs 10 else 0) := by
        have eqd : (i + 51) / 114 = i / 114 := by omega
        rw [hrows, eqd]
        by_cases hw : winOK σ = true
        · by_cases hlt : σ.regs 10 < ((i / 114 : Nat) : Int)
          · rw [if_pos ⟨hw, hlt⟩, if_pos ⟨hw, by omega⟩]
          · rw [if_neg (fun hh => hlt hh.2)]
            split
            · rename_i hh; have := hh.2; omega
            · rfl
        · rw [if_neg (fun hh => hw hh.1), if_neg (fun hh => hw hh.1)]
      have hst : ({ τ with clock := τ.clock + 4 } : Pp) = { lineSt σ (i / 114) with clock := τ.clock + 4, now := τ.now, last := τ.last } := by
        have hrg : τ.regs = upd σ.regs 4 ((i / 114 : Nat) : Int) := by
          funext r
          by_cases hr : r = 4
          · subst hr; rw [upd_same, hly]; omega
          · rw [upd_ne hr]; exact h.regs r hr
        unfold lineSt
        rw [← hrg, ← h.vram, ← h.oam, ← hs2, ← hr2]
      have hlyd : τ.regs 4 = ((i / 114 : Nat) : Int) := by rw [hly]; omega
      have hwin : winB { τ with clock := τ.clock + 4 } = (winOK σ && decide (σ.regs 10 ≤ ((i / 114 : Nat) : Int))) := by
        unfold winB winOK
        show (hasB (τ.regs 0) 5 && (τ.seen && decide (τ.regs 11 ≤ 166))) = _
        rw [h0', h11', hs2]
        cases hasB (σ.regs 0) 5 <;> cases decide (σ.regs 11 ≤ 166) <;> cases decide (σ.regs 10 ≤ ((i / 114 : Nat) : Int)) <;> rfl
      refine ⟨hn, hreg, hv, ho, fun _ => ?_, fun _ => ?_, fun y x hy hy2 hx => ?_, fun e => by omega⟩
      · rw [e, show (i + 1) / 114 = i / 114 from by omega, show (i + 1) % 114 = 63 from by omega]
        show τ.seen = _
        rw [hs2]
        exact decide_eq_decide.mpr (by omega)
      · rw [e, show (i + 1 + 51) / 114 = i / 114 + 1 from by omega]
        show (if winB { τ with clock := τ.clock + 4 } = true then τ.rows + 1 else τ.rows) = _
        rw [hwin, hr2]
        cases hw : winOK σ
        · simp
        · by_cases hle : σ.regs 10 ≤ ((i / 114 : Nat) : Int)
          · simp [hle]
            rw [if_pos (by omega)]
            omega
          · simp [hle]
            omega
      · rw [e]
        show drawF { τ with clock := τ.clock + 4 } (sprL { τ with clock := τ.clock + 4 } (τ.regs 4)) 160 (160 * y + x) = _
        unfold drawF
        have hyn : τ.regs 4 = ((i / 114 : Nat) : Int) := hlyd
        by_cases hyy : y = i / 114
        · rw [if_pos (by show 160 * (τ.regs 4).toNat ≤ 160 * y + x ∧ 160 * y + x < 160 * (τ.regs 4).toNat + 160; omega)]
          rw [show (((160 * y + x : Nat) : Int) - 160 * ({ τ with clock := τ.clock + 4 } : Pp).regs 4) = (x : Int) from by show ((160 * y + x : Nat) : Int) - 160 * τ.regs 4 = (x : Int); omega]
          rw [hst, pixI_like, sprL_like, hyn, ← hyy]
          rfl
        · rw [if_neg (by show ¬ (160 * (τ.regs 4).toNat ≤ 160 * y + x ∧ 160 * y + x < 160 * (τ.regs 4).toNat + 160); omega)]
          exact h.now y x (by omega) hy2 hx
    · by_cases c3 : i % 114 = 113
      · -- the next line
        have e1 : (nextP τ).seen = τ.seen ∧ (nextP τ).rows = τ.rows ∧ (nextP τ).now = τ.now := by
          unfold nextP
          rw [if_neg (by omega), if_neg (by omega), if_pos (by omega)]
          split
          · exact ⟨rfl, rfl, rfl⟩
          · rw [if_neg (by omega)]; exact ⟨rfl, rfl, rfl⟩
        have e2 : i + 1 = 16416 → (nextP τ).last = τ.now := fun hh => by
          unfold nextP
          rw [if_neg (by omega), if_neg (by omega), if_pos (by omega), if_pos (by omega)]
        refine ⟨hn, hreg, hv, ho, fun _ => ?_, fun _ => ?_, fun y x hy hy2 hx => ?_, fun hh y x hy hx => ?_⟩
        · rw [e1.1, hseen]
          exact decide_eq_decide.mpr (by omega)
        · rw [e1.2.1, hrows, show (i + 1 + 51) / 114 = (i + 51) / 114 from by omega]
        · rw [e1.2.2]; exact h.now y x (by omega) hy2 hx
        · rw [e2 hh]; exact h.now y x (by omega) hy hx
      · have e : nextP τ = { τ with clock := τ.clock + 4 } := by
          unfold nextP
          rw [if_neg (by omega), if_neg (by omega), if_neg (by omega)]
        refine ⟨hn, hreg, hv, ho, fun _ => ?_, fun _ => ?_, fun y x hy hy2 hx => ?_, fun e => by omega⟩
        · rw [e]
          show τ.seen = _
          rw [hseen]
          exact decide_eq_decide.mpr (by omega)
        · rw [e]
          show τ.rows = _
          rw [hrows, show (i + 1 + 51) / 114 = (i + 51) / 114 from by omega]
        · rw [e]; exact h.now y x (by omega) hy2 hx

theorem fr_ticks {σ : Pp} (h : At4 0 σ) (hs : σ.seen = false) (hr : σ.rows = 0) (i : Nat) (hi : i ≤ 16416) : Fr σ i (ticks i σ) := by
  induction i with
  | zero => exact fr_zero h hs hr
  | succ i ih => exact fr_next h.ok (by omega) (ih (by omega))
/-- A frame shows its points. -/
theorem shows {σ : Pp} (h : At4 0 σ) (hs : σ.seen = false) (hr : σ.rows = 0) (y x : Nat) (hy : y < 144) (hx : x < 160) : (ticks 16416 σ).last (160 * y + x) = PIC σ y x :=
  (fr_ticks h hs hr 16416 (Nat.le_refl _)).last rfl y x hy hx

end Go.Proofs.Ytkfclamiendamaa
