/- The picture's laws: ten sprites a line (plain). -/
import Derived.Test.YtkfclamiendamaaKV37
import Derived.Test.YtkfclamiendamaaKS
namespace Go.Proofs.Ytkfclamiendamaa
open Go.Sl Go.Xg
set_option linter.unusedVariables false
set_option linter.unusedSimpArgs false
set_option maxHeartbeats 4000000
set_option maxRecDepth 100000

/-- Ten sprites of one row stand first; behind them there are others of that row, or none at all. -/
structure Ten (r : Int) (σ : Pp) : Prop where
  first : ∀ j, j < 10 → σ.oam (4 * j) = r
  rest : ∀ j, j < 40 → σ.oam (4 * j) = r ∨ σ.oam (4 * j) = 0
  low : σ.regs 0 = 130
theorem ten_height {r : Int} {σ : Pp} (h : Ten r σ) : heightI σ = 8 := by unfold heightI; rw [h.low]; exact if_neg (by decide)
/-- Who is on the line: the first ten, or nobody. -/
theorem ten_sel {r : Int} {σ : Pp} (h : Ten r σ) (y : Int) (hy : 0 ≤ y) (k : Nat) (hk : k ≤ 40) :
    selN σ y k = if r - 16 ≤ y ∧ y < r - 16 + 8 then (List.range (min k 10)).map (sprA σ) else [] := by
  have hh := ten_height h
  induction k with
  | zero => rw [selN]; split <;> rfl
  | succ k ih =>
    have ih := ih (by omega)
    rw [selN, hh, ih]
    by_cases c : r - 16 ≤ y ∧ y < r - 16 + 8
    · rw [if_pos c]
      by_cases hlt : k < 10
      · have e : (sprA σ k).row = r - 16 := by show σ.oam (4 * k) - 16 = _; rw [h.first k hlt]
        rw [if_pos ⟨by simp; omega, by rw [e]; exact c⟩, if_pos c, show min (k + 1) 10 = k + 1 from by omega, show min k 10 = k from by omega, List.range_succ, List.map_append]
        rfl
      · rw [if_neg (fun hh2 => by have := hh2.1; simp at this; omega), if_pos c, show min (k + 1) 10 = 10 from by omega, show min k 10 = 10 from by omega]
    · rw [if_neg c]
      have hr : ¬ ((sprA σ k).row ≤ y ∧ y < (sprA σ k).row + 8) := by
        show ¬ (σ.oam (4 * k) - 16 ≤ y ∧ y < σ.oam (4 * k) - 16 + 8)
        rcases h.rest k (by omega) with e | e <;> rw [e] <;> omega
      rw [if_neg (fun hh2 => hr hh2.2), if_neg c]

/-- Two pictures of which the first ten sprites are the same, on rows alike. -/
theorem ten_pic {r : Int} {σ τ : Pp} (h : Ten r σ) (h2 : Ten r τ) (e : ∀ i, i < 40 → τ.oam i = σ.oam i) (er : ∀ i, i = 0 ∨ i = 2 ∨ i = 3 ∨ (7 ≤ i ∧ i < 12) → τ.regs i = σ.regs i) (ev : τ.vram = σ.vram) (y x : Nat) : PIC τ y x = PIC σ y x := by
  -- one that has both's registers and VRAM, and the sprites of the first
  have hl : Like { σ with oam := τ.oam } τ := ⟨er 0 (by omega), er 2 (by omega), er 3 (by omega), fun i hi => er i (by omega), ev, fun _ _ => rfl⟩
  rw [like_pic hl]
  obtain ⟨υ, hυ⟩ : ∃ υ : Pp, ({ σ with oam := τ.oam } : Pp) = υ := ⟨_, rfl⟩
  have ho : υ.oam = τ.oam := by rw [← hυ]
  have h3 : Ten r (lineSt υ y) := ⟨fun j hj => by show υ.oam _ = _; rw [ho]; exact h2.first j hj, fun j hj => by show υ.oam _ = _ ∨ υ.oam _ = _; rw [ho]; exact h2.rest j hj, by
    show upd υ.regs 4 y 0 = 130; rw [upd_ne (by omega), ← hυ]; exact h.low⟩
  have h1 : Ten r (lineSt σ y) := ⟨h.first, h.rest, by show upd σ.regs 4 y 0 = 130; rw [upd_ne (by omega)]; exact h.low⟩
  have eq : lineSt υ y = { lineSt σ y with oam := υ.oam } := by rw [← hυ]; rfl
  have hs : sprL (lineSt υ y) (y : Int) = sprL (lineSt σ y) (y : Int) := by
    unfold sprL
    rw [h3.low, h1.low, if_pos (by decide), if_pos (by decide), ten_sel h3 y (by omega) 40 (by omega), ten_sel h1 y (by omega) 40 (by omega)]
    split
    · apply List.map_congr_left
      intro j hj
      simp at hj
      have eo : ∀ i, i < 40 → (lineSt υ y).oam i = (lineSt σ y).oam i := fun i hi => by show υ.oam i = σ.oam i; rw [ho]; exact e i hi
      unfold sprA
      rw [eo _ (by omega), eo _ (by omega), eo _ (by omega), eo _ (by omega)]
    · rfl
  rw [hυ]
  unfold PIC
  rw [hs, eq]
  have hov : ∀ (l : List Spr) (k : Nat), ovN { lineSt σ y with oam := υ.oam } (y : Int) (x : Int) l k = ovN (lineSt σ y) (y : Int) (x : Int) l k := fun l k => by
    induction k with
    | zero => rfl
    | succ k ih => rw [ovN, ovN, ih]; rfl
  have h4 : (lineSt σ y).regs 4 = (y : Int) := by show upd σ.regs 4 y 4 = (y : Int); exact upd_same _ _ _
  unfold pixI overI
  show mixI { lineSt σ y with oam := υ.oam } _ (ovN { lineSt σ y with oam := υ.oam } ((lineSt σ y).regs 4) (x : Int) _ _) = _
  rw [h4, hov]
  rfl

end Go.Proofs.Ytkfclamiendamaa
