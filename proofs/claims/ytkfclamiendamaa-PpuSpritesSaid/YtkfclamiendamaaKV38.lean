/- The picture's laws: the picture of one sprite (plain). -/
import Derived.Test.YtkfclamiendamaaKV37
import Derived.Test.YtkfclamiendamaaKS
namespace Go.Proofs.Ytkfclamiendamaa
open Go.Sl Go.Xg
set_option linter.unusedVariables false
set_option linter.unusedSimpArgs false
set_option maxHeartbeats 4000000
set_option maxRecDepth 100000

/-- The number of a point of a tile. -/
def tn (ts : List Int) (v h : Nat) : Int := ts.getD (2 * v) 0 / 2 ^ (7 - h) % 2 + 2 * (ts.getD (2 * v + 1) 0 / 2 ^ (7 - h) % 2)
theorem tn_bd (ts : List Int) (v h : Nat) : 0 ≤ tn ts v h ∧ tn ts v h ≤ 3 := by unfold tn; omega

/-- The tile 1 of such a scene. -/
theorem lone_vram (b pb : Nat) (ta : Option Addr) (tc : Nat) (ts : List Int) (oa : Option Addr) (on oc : Nat) (os : List Int) (j : Nat) (hj : j < 16) : (scP (loneS b pb ta tc ts oa on oc os)).vram (16 + j) = ts.getD j 0 := by
  show putP newP.vram [⟨16, ta, 16, tc, ts⟩] 1 (16 + j) = _
  rw [putP]
  show putB (putP newP.vram _ 0) ⟨16, ta, 16, tc, ts⟩ 16 (16 + j) = _
  have hsp : ∀ k : Nat, k < 16 → spotI 16 k = 32784 + (k : Int) := fun k hk => by
    unfold spotI
    rw [show pickN 16 8192 = 16 from rfl, if_pos (by omega)]
    omega
  have key : ∀ k : Nat, k ≤ 16 → j < k → putB (putP newP.vram [⟨16, ta, 16, tc, ts⟩] 0) ⟨16, ta, 16, tc, ts⟩ k (16 + j) = ts.getD j 0 := by
    intro k
    induction k with
    | zero => intro _ h; omega
    | succ k ih =>
      intro h1 h2
      rw [putB]
      show (if 32768 ≤ spotI 16 k then upd _ (spotI 16 k - 32768).toNat (ts.getD k 0) else _) (16 + j) = _
      rw [hsp k (by omega), if_pos (by omega), show (32784 + (k : Int) - 32768).toNat = 16 + k from by omega]
      by_cases e : j = k
      · subst e; exact upd_same _ _ _
      · rw [upd_ne (by omega)]; exact ih (by omega) (by omega)
  exact key 16 (Nat.le_refl _) hj

theorem band_flag (k : Int) (hk : 0 ≤ k ∧ k ≤ 255) : (band .i64 k 16 = 0 ↔ k / 16 % 2 = 0) := by
  have key : ∀ n : Fin 256, (band .i64 ((n.val : Nat) : Int) 16 = 0 ↔ ((n.val : Nat) : Int) / 16 % 2 = 0) := by decide +kernel
  obtain ⟨n, rfl⟩ := nat_of hk.1
  exact key ⟨n, by omega⟩

/-- A point of one sprite's picture: out of it there is nothing, in it its tile's point, by its palette. -/
theorem one_pic (b pb : Nat) (ta : Option Addr) (tc : Nat) (ts : List Int) (oa : Option Addr) (oc : Nat) (r c k : Int) (hr : 0 ≤ r ∧ r ≤ 255) (hc : 0 ≤ c ∧ c ≤ 255) (hk : 0 ≤ k ∧ k ≤ 255) (y x : Nat) (hy : y < 144) (hx : x < 160) :
    PIC (scP (loneS b pb ta tc ts oa 4 oc [r, c, 1, k])) y x =
      (if 0 ≤ (y : Int) + 16 - r ∧ (y : Int) + 16 - r < 8 ∧ 0 ≤ (x : Int) + 8 - c ∧ (x : Int) + 8 - c < 8 then
        (fun n : Int => if n > 0 then (if band .i64 k 16 = 0 then 228 else 27) / 2 ^ (2 * n).toNat % 4 else 0)
          (tn ts (if band .i64 k 64 = 0 then (y : Int) + 16 - r else 7 - ((y : Int) + 16 - r)).toNat (if band .i64 k 32 = 0 then (x : Int) + 8 - c else 7 - ((x : Int) + 8 - c)).toNat)
      else 0) := by
  obtain ⟨S, hS⟩ : ∃ S, loneS b pb ta tc ts oa 4 oc [r, c, 1, k] = S := ⟨_, rfl⟩
  have e0 : regI S 0 = 130 := by rw [← hS]; exact reg_zero 130 (by show 0 < 12; omega) rfl (by omega)
  have e7 : regI S 7 = 0 := by rw [← hS]; exact reg_pick 0 (by omega) (by show 7 < 12; omega) rfl (by omega)
  have e8 : regI S 8 = 228 := by rw [← hS]; exact reg_pick 228 (by omega) (by show 8 < 12; omega) rfl (by omega)
  have e9 : regI S 9 = 27 := by rw [← hS]; exact reg_pick 27 (by omega) (by show 9 < 12; omega) rfl (by omega)
  have ev : ∀ j, j < 16 → (scP S).vram (16 + j) = ts.getD j 0 := fun j hj => by rw [← hS]; exact lone_vram _ _ _ _ _ _ _ _ _ j hj
  have eo : ∀ i, (scP S).oam i = if i < 4 then [r, c, 1, k].getD i 0 else 0 := fun i => by rw [← hS]; rfl
  rw [hS]
  have g0 := (scP_reg S 0 (by omega)).trans e0
  have g7 := (scP_reg S 7 (by omega)).trans e7
  have g8 := (scP_reg S 8 (by omega)).trans e8
  have g9 := (scP_reg S 9 (by omega)).trans e9
  obtain ⟨σ, hσ⟩ : ∃ σ, scP S = σ := ⟨_, rfl⟩
  rw [hσ] at g0 g7 g8 g9 ev eo ⊢
  have l0 : (lineSt σ y).regs 0 = 130 := by show upd σ.regs 4 y 0 = _; rw [upd_ne (by omega), g0]
  have l7 : (lineSt σ y).regs (7 : Int).toNat = 0 := by show upd σ.regs 4 y 7 = _; rw [upd_ne (by omega), g7]
  have l8 : (lineSt σ y).regs 8 = 228 := by show upd σ.regs 4 y 8 = _; rw [upd_ne (by omega), g8]
  have l9 : (lineSt σ y).regs 9 = 27 := by show upd σ.regs 4 y 9 = _; rw [upd_ne (by omega), g9]
  have l4 : (lineSt σ y).regs 4 = (y : Int) := by show upd σ.regs 4 y 4 = (y : Int); exact upd_same _ _ _
  have lv : ∀ j, j < 16 → (lineSt σ y).vram (16 + j) = ts.getD j 0 := ev
  have lo : ∀ i, (lineSt σ y).oam i = if i < 4 then [r, c, 1, k].getD i 0 else 0 := eo
  obtain ⟨τ, hτ⟩ : ∃ τ, lineSt σ y = τ := ⟨_, rfl⟩
  unfold PIC
  rw [hτ] at l0 l7 l8 l9 l4 lv lo ⊢
  have hh : heightI τ = 8 := by unfold heightI; rw [l0]; exact if_neg (by decide)
  have s0 : sprA τ 0 = ⟨r - 16, c - 8, 1, k⟩ := by unfold sprA; rw [lo, lo, lo, lo]; rfl
  have sj : ∀ j, 1 ≤ j → sprA τ j = ⟨-16, -8, 0, 0⟩ := fun j hj => by
    unfold sprA; rw [lo, lo, lo, lo, if_neg (by omega), if_neg (by omega), if_neg (by omega), if_neg (by omega)]; rfl
  have hsel : ∀ j : Nat, selN τ (y : Int) (j + 1) = if r - 16 ≤ (y : Int) ∧ (y : Int) < r - 16 + 8 then [⟨r - 16, c - 8, 1, k⟩] else [] := by
    intro j
    induction j with
    | zero =>
      rw [selN, s0, hh]
      show (if (selN τ (y : Int) 0).length < 10 ∧ r - 16 ≤ (y : Int) ∧ (y : Int) < r - 16 + 8 then selN τ (y : Int) 0 ++ [_] else selN τ (y : Int) 0) = _
      by_cases h : r - 16 ≤ (y : Int) ∧ (y : Int) < r - 16 + 8
      · rw [if_pos ⟨by show 0 < 10; omega, h⟩, if_pos h]; rfl
      · rw [if_neg (fun hh => h hh.2), if_neg h]; rfl
    | succ j ih =>
      rw [selN, sj (j + 1) (by omega), hh, ih]
      rw [if_neg (fun h => by have := h.2.2; simp only at this; omega)]
  have hspr : sprL τ (y : Int) = if r - 16 ≤ (y : Int) ∧ (y : Int) < r - 16 + 8 then [⟨r - 16, c - 8, 1, k⟩] else [] := by
    unfold sprL
    rw [l0, if_pos (by decide)]
    exact hsel 39
  have hg : groundI τ (x : Int) = 0 := by unfold groundI; rw [l0, if_neg (by decide)]
  unfold pixI
  rw [hspr, hg, l4]
  have h7 : palI τ 7 0 = 0 := by unfold palI; rw [l7]; rfl
  have hnone : mixI τ 0 ov0 = 0 := by unfold mixI; rw [if_neg (by unfold ov0; simp)]; exact h7
  by_cases c1 : r - 16 ≤ (y : Int) ∧ (y : Int) < r - 16 + 8
  · rw [if_pos c1]
    have hov : overI τ (y : Int) (x : Int) [⟨r - 16, c - 8, 1, k⟩] = ovS τ (y : Int) (x : Int) ov0 ⟨r - 16, c - 8, 1, k⟩ := rfl
    rw [hov]
    unfold ovS
    by_cases c2 : 0 ≤ (x : Int) + 8 - c ∧ (x : Int) + 8 - c < 8
    · rw [if_neg (by show ¬ ((x : Int) < c - 8 ∨ (x : Int) ≥ c - 8 + 8 ∨ ((0 : Int) > 0 ∧ _)); omega), if_pos (show 0 ≤ (y : Int) + 16 - r ∧ (y : Int) + 16 - r < 8 ∧ 0 ≤ (x : Int) + 8 - c ∧ (x : Int) + 8 - c < 8 from ⟨by omega, by omega, c2⟩)]
      have hp : pointI τ ⟨r - 16, c - 8, 1, k⟩ ((y : Int) - (r - 16)) ((x : Int) - (c - 8)) = tn ts (if band .i64 k 64 = 0 then (y : Int) + 16 - r else 7 - ((y : Int) + 16 - r)).toNat (if band .i64 k 32 = 0 then (x : Int) + 8 - c else 7 - ((x : Int) + 8 - c)).toNat := by
        unfold pointI rowI colI
        rw [l0, if_neg (by decide), hh]
        show numI τ (16 * 1 + 2 * ((if band .i64 k 64 = 0 then (y : Int) - (r - 16) else 8 - 1 - ((y : Int) - (r - 16))) % 8)).toNat (if band .i64 k 32 = 0 then (x : Int) - (c - 8) else 7 - ((x : Int) - (c - 8))) = _
        rw [show (y : Int) - (r - 16) = (y : Int) + 16 - r from by omega, show (x : Int) - (c - 8) = (x : Int) + 8 - c from by omega, show (8 : Int) - 1 = 7 from rfl]
        obtain ⟨V, hV⟩ : ∃ V, (if band .i64 k 64 = 0 then (y : Int) + 16 - r else 7 - ((y : Int) + 16 - r)) = V := ⟨_, rfl⟩
        obtain ⟨H, hH⟩ : ∃ H, (if band .i64 k 32 = 0 then (x : Int) + 8 - c else 7 - ((x : Int) + 8 - c)) = H := ⟨_, rfl⟩
        have bV : 0 ≤ V ∧ V < 8 := by rw [← hV]; split <;> omega
        have bH : 0 ≤ H ∧ H < 8 := by rw [← hH]; split <;> omega
        rw [hV, hH]
        unfold numI bitL tn
        rw [show (16 * 1 + 2 * (V % 8)).toNat = 16 + 2 * V.toNat from by omega, lv _ (by omega), show 16 + 2 * V.toNat + 1 = 16 + (2 * V.toNat + 1) from rfl, lv _ (by omega), show (7 - H % 8).toNat = 7 - H.toNat from by omega]
      show mixI τ 0 (if pointI τ ⟨r - 16, c - 8, 1, k⟩ ((y : Int) - (r - 16)) ((x : Int) - (c - 8)) > 0 then (_, pointI τ ⟨r - 16, c - 8, 1, k⟩ ((y : Int) - (r - 16)) ((x : Int) - (c - 8))) else ov0) = _
      rw [hp]
      obtain ⟨n, hn⟩ : ∃ n, tn ts (if band .i64 k 64 = 0 then (y : Int) + 16 - r else 7 - ((y : Int) + 16 - r)).toNat (if band .i64 k 32 = 0 then (x : Int) + 8 - c else 7 - ((x : Int) + 8 - c)).toNat = n := ⟨_, rfl⟩
      rw [hn]
      by_cases c3 : n > 0
      · rw [if_pos c3]
        dsimp only
        rw [if_pos c3]
        unfold mixI
        dsimp only
        rw [if_pos ⟨c3, .inr rfl⟩]
        unfold palI
        have hf := band_flag k hk
        by_cases c4 : band .i64 k 16 = 0
        · rw [if_pos c4, hf.mp c4, show (8 + (0 : Int)).toNat = 8 from rfl, l8]
        · have : k / 16 % 2 = 1 := by
            have h1 : ¬ k / 16 % 2 = 0 := fun h => c4 (hf.mpr h)
            omega
          rw [if_neg c4, this, show (8 + (1 : Int)).toNat = 9 from rfl, l9]
      · rw [if_neg c3]
        dsimp only
        rw [if_neg c3]
        exact hnone
    · rw [if_pos (by show (x : Int) < c - 8 ∨ (x : Int) ≥ c - 8 + 8 ∨ ((0 : Int) > 0 ∧ _); omega), if_neg (fun h => c2 h.2.2)]
      exact hnone
  · rw [if_neg c1, if_neg (fun h => c1 (by omega))]
    exact hnone

end Go.Proofs.Ytkfclamiendamaa
