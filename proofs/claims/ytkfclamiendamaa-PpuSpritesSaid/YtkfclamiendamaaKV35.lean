/- The picture's laws: points of plain scenes (plain). -/
import Derived.Test.YtkfclamiendamaaKV29
import Derived.Test.YtkfclamiendamaaKS
namespace Go.Proofs.Ytkfclamiendamaa
open Go.Sl Go.Xg
set_option linter.unusedVariables false
set_option linter.unusedSimpArgs false
set_option maxHeartbeats 4000000
set_option maxRecDepth 100000

theorem pickN_in (c : Int) (n : Nat) (h : 0 ≤ c ∧ c < (n : Int)) : pickN c n = c.toNat := by
  unfold pickN
  rw [if_neg (by omega), Int.emod_eq_of_lt h.1 h.2]
theorem pickN_nat (c n : Nat) (h : 0 < n) : pickN (c : Int) n = c % n := by
  unfold pickN
  rw [if_neg (by omega)]
  omega

/-- The number of the background's point, of tiles from 32768 on and the first map. -/
def groundT (s : Sn) (r c : Int) : Int := tileI { zeroP with regs := fun _ => 145, vram := putP newP.vram s.ps s.pn } false r c
theorem groundT_bd (s : Sn) (r c : Int) : 0 ≤ groundT s r c ∧ groundT s r c ≤ 3 := numI_bd _ _ _

theorem reg_pick {s : Sn} {i : Nat} (v : Int) (hi : i ≠ 0) (hn : i < s.rn) (e : s.rs.getD i 0 = v) (hv : 0 ≤ v ∧ v ≤ 255) : regI s i = v := by
  unfold regI
  rw [if_neg hi, if_pos hn, e, pickN_in v 256 (by omega)]
  omega
theorem reg_zero {s : Sn} (v : Int) (hn : 0 < s.rn) (e : s.rs.getD 0 0 = v) (hv : 128 ≤ v ∧ v ≤ 255) : regI s 0 = v := by
  unfold regI
  rw [if_pos rfl, if_pos hn, e, pickN_in v 256 (by omega)]
  have key : ∀ k : Fin 128, bor .i64 (((k.val + 128 : Nat) : Int)) 128 = ((k.val + 128 : Nat) : Int) := by decide +kernel
  have := key ⟨(v - 128).toNat, by omega⟩
  simp only at this
  rw [show (((v - 128).toNat + 128 : Nat) : Int) = v from by omega] at this
  rw [show ((v.toNat : Nat) : Int) = v from by omega]
  exact this

/-- A point of a plain scene's picture. -/
theorem plain_pic (s : Sn) (b : Nat) (Y X p r4 r5 r6 r8 r9 r10 r11 : Int) (hY : 0 ≤ Y ∧ Y ≤ 255) (hX : 0 ≤ X ∧ X ≤ 255) (hp : 0 ≤ p ∧ p ≤ 255) (y x : Nat) :
    PIC (scP (regS b 145 0 Y X r4 r5 r6 p r8 r9 r10 r11 s)) y x = p / 2 ^ (2 * groundT s (((y : Int) + Y) % 256) (((x : Int) + X) % 256)).toNat % 4 := by
  obtain ⟨S, hS⟩ : ∃ S, regS b 145 0 Y X r4 r5 r6 p r8 r9 r10 r11 s = S := ⟨_, rfl⟩
  have e0 : regI S 0 = 145 := by rw [← hS]; exact reg_zero 145 (by show 0 < 12; omega) rfl (by omega)
  have e2 : regI S 2 = Y := by rw [← hS]; exact reg_pick Y (by omega) (by show 2 < 12; omega) rfl hY
  have e3 : regI S 3 = X := by rw [← hS]; exact reg_pick X (by omega) (by show 3 < 12; omega) rfl hX
  have e7 : regI S 7 = p := by rw [← hS]; exact reg_pick p (by omega) (by show 7 < 12; omega) rfl hp
  have ep : S.ps = s.ps ∧ S.pn = s.pn := by rw [← hS]; exact ⟨rfl, rfl⟩
  rw [hS]
  have g0 := (scP_reg S 0 (by omega)).trans e0
  have g2 := (scP_reg S 2 (by omega)).trans e2
  have g3 := (scP_reg S 3 (by omega)).trans e3
  have g7 := (scP_reg S 7 (by omega)).trans e7
  have gv : (scP S).vram = putP newP.vram s.ps s.pn := by show putP newP.vram S.ps S.pn = _; rw [ep.1, ep.2]
  obtain ⟨σ, hσ⟩ : ∃ σ, scP S = σ := ⟨_, rfl⟩
  rw [hσ] at g0 g2 g3 g7 gv ⊢
  have l0 : (lineSt σ y).regs 0 = 145 := by show upd σ.regs 4 y 0 = _; rw [upd_ne (by omega), g0]
  have l2 : (lineSt σ y).regs 2 = Y := by show upd σ.regs 4 y 2 = _; rw [upd_ne (by omega), g2]
  have l3 : (lineSt σ y).regs 3 = X := by show upd σ.regs 4 y 3 = _; rw [upd_ne (by omega), g3]
  have l7 : (lineSt σ y).regs (7 : Int).toNat = p := by show upd σ.regs 4 y 7 = _; rw [upd_ne (by omega), g7]
  have l4 : (lineSt σ y).regs 4 = (y : Int) := by show upd σ.regs 4 y 4 = (y : Int); exact upd_same _ _ _
  have lv : (lineSt σ y).vram = putP newP.vram s.ps s.pn := gv
  obtain ⟨τ, hτ⟩ : ∃ τ, lineSt σ y = τ := ⟨_, rfl⟩
  unfold PIC
  rw [hτ] at l0 l2 l3 l7 l4 lv ⊢
  have hspr : sprL τ (y : Int) = [] := by unfold sprL; rw [l0]; exact if_neg (by decide)
  have hw : winB τ = false := by unfold winB; rw [l0]; rfl
  rw [hspr]
  unfold pixI
  have hov : overI τ (τ.regs 4) (x : Int) [] = ov0 := rfl
  have hg : groundI τ (x : Int) = groundT s (((y : Int) + Y) % 256) (((x : Int) + X) % 256) := by
    unfold groundI
    rw [l0, if_pos (by decide), if_neg (by rw [hw]; simp), l2, l3, l4, show hasB 145 3 = false from by decide]
    unfold groundT tileI placeI numI
    rw [l0, lv]
  rw [hov, hg]
  unfold mixI
  rw [if_neg (by unfold ov0; simp)]
  unfold palI
  rw [l7]

/-- A point with the background off. -/
theorem none_pic (s : Sn) (b : Nat) (Y X p r4 r5 r6 r8 r9 r10 r11 : Int) (hp : 0 ≤ p ∧ p ≤ 255) (y x : Nat) :
    PIC (scP (regS b 144 0 Y X r4 r5 r6 p r8 r9 r10 r11 s)) y x = p % 4 := by
  obtain ⟨S, hS⟩ : ∃ S, regS b 144 0 Y X r4 r5 r6 p r8 r9 r10 r11 s = S := ⟨_, rfl⟩
  have e0 : regI S 0 = 144 := by rw [← hS]; exact reg_zero 144 (by show 0 < 12; omega) rfl (by omega)
  have e7 : regI S 7 = p := by rw [← hS]; exact reg_pick p (by omega) (by show 7 < 12; omega) rfl hp
  rw [hS]
  have g0 := (scP_reg S 0 (by omega)).trans e0
  have g7 := (scP_reg S 7 (by omega)).trans e7
  obtain ⟨σ, hσ⟩ : ∃ σ, scP S = σ := ⟨_, rfl⟩
  rw [hσ] at g0 g7 ⊢
  have l0 : (lineSt σ y).regs 0 = 144 := by show upd σ.regs 4 y 0 = _; rw [upd_ne (by omega), g0]
  have l7 : (lineSt σ y).regs (7 : Int).toNat = p := by show upd σ.regs 4 y 7 = _; rw [upd_ne (by omega), g7]
  obtain ⟨τ, hτ⟩ : ∃ τ, lineSt σ y = τ := ⟨_, rfl⟩
  unfold PIC
  rw [hτ] at l0 l7 ⊢
  have hspr : sprL τ (y : Int) = [] := by unfold sprL; rw [l0]; exact if_neg (by decide)
  rw [hspr]
  unfold pixI
  have hov : overI τ (τ.regs 4) (x : Int) [] = ov0 := rfl
  have hg : groundI τ (x : Int) = 0 := by
    unfold groundI
    rw [l0, if_neg (by decide)]
  rw [hov, hg]
  unfold mixI
  rw [if_neg (by unfold ov0; simp)]
  unfold palI
  rw [l7]
  simp
theorem pal228 {n : Int} (h : 0 ≤ n ∧ n ≤ 3) : (228 : Int) / 2 ^ (2 * n).toNat % 4 = n := by
  rcases (by omega : n = 0 ∨ n = 1 ∨ n = 2 ∨ n = 3) with e | e | e | e <;> subst e <;> rfl
theorem split_i (i : Nat) : 160 * (i / 160) + i % 160 = i := by omega

/-- A point with the window. -/
theorem win_pic (s : Sn) (b : Nat) (Y X wy wx r4 r5 r6 r8 r9 : Int) (hY : 0 ≤ Y ∧ Y ≤ 255) (hX : 0 ≤ X ∧ X ≤ 255) (hwy : 0 ≤ wy ∧ wy ≤ 255) (hwx : 7 ≤ wx ∧ wx ≤ 166) (y x : Nat) (hy : y < 144) :
    PIC (scP (regS b 177 0 Y X r4 r5 r6 228 r8 r9 wy wx s)) y x = (if wy ≤ (y : Int) ∧ wx ≤ (x : Int) + 7 then groundT s ((y : Int) - wy) ((x : Int) + 7 - wx) else groundT s (((y : Int) + Y) % 256) (((x : Int) + X) % 256)) := by
  obtain ⟨S, hS⟩ : ∃ S, regS b 177 0 Y X r4 r5 r6 228 r8 r9 wy wx s = S := ⟨_, rfl⟩
  have e0 : regI S 0 = 177 := by rw [← hS]; exact reg_zero 177 (by show 0 < 12; omega) rfl (by omega)
  have e2 : regI S 2 = Y := by rw [← hS]; exact reg_pick Y (by omega) (by show 2 < 12; omega) rfl hY
  have e3 : regI S 3 = X := by rw [← hS]; exact reg_pick X (by omega) (by show 3 < 12; omega) rfl hX
  have e7 : regI S 7 = 228 := by rw [← hS]; exact reg_pick 228 (by omega) (by show 7 < 12; omega) rfl (by omega)
  have e10 : regI S 10 = wy := by rw [← hS]; exact reg_pick wy (by omega) (by show 10 < 12; omega) rfl hwy
  have e11 : regI S 11 = wx := by rw [← hS]; exact reg_pick wx (by omega) (by show 11 < 12; omega) rfl (by omega)
  have ep : S.ps = s.ps ∧ S.pn = s.pn := by rw [← hS]; exact ⟨rfl, rfl⟩
  rw [hS]
  have g0 := (scP_reg S 0 (by omega)).trans e0
  have g2 := (scP_reg S 2 (by omega)).trans e2
  have g3 := (scP_reg S 3 (by omega)).trans e3
  have g7 := (scP_reg S 7 (by omega)).trans e7
  have g10 := (scP_reg S 10 (by omega)).trans e10
  have g11 := (scP_reg S 11 (by omega)).trans e11
  have gv : (scP S).vram = putP newP.vram s.ps s.pn := by show putP newP.vram S.ps S.pn = _; rw [ep.1, ep.2]
  obtain ⟨σ, hσ⟩ : ∃ σ, scP S = σ := ⟨_, rfl⟩
  rw [hσ] at g0 g2 g3 g7 g10 g11 gv ⊢
  have hwo : winOK σ = true := by unfold winOK; rw [g0, g11, decide_eq_true (by omega : wx ≤ 166)]; rfl
  have l0 : (lineSt σ y).regs 0 = 177 := by show upd σ.regs 4 y 0 = _; rw [upd_ne (by omega), g0]
  have l2 : (lineSt σ y).regs 2 = Y := by show upd σ.regs 4 y 2 = _; rw [upd_ne (by omega), g2]
  have l3 : (lineSt σ y).regs 3 = X := by show upd σ.regs 4 y 3 = _; rw [upd_ne (by omega), g3]
  have l7 : (lineSt σ y).regs (7 : Int).toNat = 228 := by show upd σ.regs 4 y 7 = _; rw [upd_ne (by omega), g7]
  have l11 : (lineSt σ y).regs 11 = wx := by show upd σ.regs 4 y 11 = _; rw [upd_ne (by omega), g11]
  have l4 : (lineSt σ y).regs 4 = (y : Int) := by show upd σ.regs 4 y 4 = (y : Int); exact upd_same _ _ _
  have lv : (lineSt σ y).vram = putP newP.vram s.ps s.pn := gv
  have ls : (lineSt σ y).seen = decide (wy ≤ (y : Int)) := by show decide (σ.regs 10 ≤ (y : Int)) = _; rw [g10]
  have lr : (lineSt σ y).rows = if wy ≤ (y : Int) then (y : Int) - wy else 0 := by
    show (if winOK σ = true ∧ σ.regs 10 ≤ (y : Int) then (y : Int) - σ.regs 10 else 0) = _
    rw [hwo, g10]
    simp
  obtain ⟨τ, hτ⟩ : ∃ τ, lineSt σ y = τ := ⟨_, rfl⟩
  unfold PIC
  rw [hτ] at l0 l2 l3 l7 l11 l4 lv ls lr ⊢
  have hspr : sprL τ (y : Int) = [] := by unfold sprL; rw [l0]; exact if_neg (by decide)
  have hw : winB τ = decide (wy ≤ (y : Int)) := by
    unfold winB
    rw [l0, ls, l11, decide_eq_true (by omega : wx ≤ 166), Bool.and_true, show hasB 177 5 = true from by decide, Bool.true_and]
  have ht : ∀ r c : Int, tileI τ false r c = groundT s r c := fun r c => by
    unfold groundT tileI placeI numI
    rw [l0, lv]
    rfl
  rw [hspr]
  unfold pixI
  have hov : overI τ (τ.regs 4) (x : Int) [] = ov0 := rfl
  have hg : groundI τ (x : Int) = (if wy ≤ (y : Int) ∧ wx ≤ (x : Int) + 7 then groundT s ((y : Int) - wy) ((x : Int) + 7 - wx) else groundT s (((y : Int) + Y) % 256) (((x : Int) + X) % 256)) := by
    unfold groundI
    rw [l0, if_pos (by decide), hw, l2, l3, l4, l11, show hasB 177 3 = false from by decide, show hasB 177 6 = false from by decide, ht, ht]
    by_cases c1 : wy ≤ (y : Int)
    · rw [lr, if_pos c1]
      by_cases c2 : wx ≤ (x : Int) + 7
      · rw [if_pos ⟨decide_eq_true c1, c2⟩, if_pos ⟨c1, c2⟩]
      · rw [if_neg (fun h => c2 h.2), if_neg (fun h => c2 h.2)]
    · rw [if_neg (fun h => c1 (of_decide_eq_true h.1)), if_neg (fun h => c1 h.1)]
  rw [hov, hg]
  unfold mixI
  rw [if_neg (by unfold ov0; simp)]
  unfold palI
  rw [l7]
  exact pal228 (by split <;> exact groundT_bd _ _ _)

end Go.Proofs.Ytkfclamiendamaa
