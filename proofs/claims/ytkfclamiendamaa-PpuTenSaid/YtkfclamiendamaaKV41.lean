/- The law PpuTen: what it does. -/
import Derived.Test.YtkfclamiendamaaKV40
import Derived.Test.YtkfclamiendamaaKS
import Derived.Test.YtkfclamiendamaaG13
namespace Go.Proofs.Ytkfclamiendamaa
open Go.Sl Go.Xg
set_option linter.unusedVariables false
set_option linter.unusedSimpArgs false
set_option maxHeartbeats 4000000
set_option maxRecDepth 100000

/-- Ten sprites of a row, by their columns; others behind them. -/
def tenL (R : Int) (cs : List Int) (n : Nat) : Nat → List Int
  | 0 => []
  | i + 1 => tenL R cs n i ++ [R, if i < n then cs.getD i 0 else 0, 1, 0]
def moreL (R : Int) (ms : List Int) : Nat → List Int
  | 0 => []
  | i + 1 => moreL R ms i ++ [R, ms.getD i 0, 1, 16]
theorem tenL_len (R : Int) (cs : List Int) (n i : Nat) : (tenL R cs n i).length = 4 * i := by
  induction i with
  | zero => rfl
  | succ i ih => rw [tenL, List.length_append, ih]; rfl
theorem moreL_len (R : Int) (ms : List Int) (i : Nat) : (moreL R ms i).length = 4 * i := by
  induction i with
  | zero => rfl
  | succ i ih => rw [moreL, List.length_append, ih]; rfl
theorem getD_app_l (l1 l2 : List Int) (i : Nat) (h : i < l1.length) : (l1 ++ l2).getD i 0 = l1.getD i 0 := by
  simp [List.getD, List.getElem?_append_left h]
theorem getD_app_r (l1 l2 : List Int) (i : Nat) (h : l1.length ≤ i) : (l1 ++ l2).getD i 0 = l2.getD (i - l1.length) 0 := by
  simp [List.getD, List.getElem?_append_right h]
theorem tenL_row (R : Int) (cs : List Int) (n i j : Nat) (hj : j < i) : (tenL R cs n i).getD (4 * j) 0 = R := by
  induction i with
  | zero => omega
  | succ i ih =>
    have hl := tenL_len R cs n i
    rw [tenL]
    by_cases e : j < i
    · rw [getD_app_l _ _ _ (by omega)]; exact ih e
    · rw [getD_app_r _ _ _ (by omega), show 4 * j - (tenL R cs n i).length = 0 from by omega]; rfl
theorem moreL_row (R : Int) (ms : List Int) (i j : Nat) (hj : j < i) : (moreL R ms i).getD (4 * j) 0 = R := by
  induction i with
  | zero => omega
  | succ i ih =>
    have hl := moreL_len R ms i
    rw [moreL]
    by_cases e : j < i
    · rw [getD_app_l _ _ _ (by omega)]; exact ih e
    · rw [getD_app_r _ _ _ (by omega), show 4 * j - (moreL R ms i).length = 0 from by omega]; rfl
theorem tenL_bd (R : Int) (hR : 0 ≤ R ∧ R ≤ 255) (cs : List Int) (n : Nat) (hc : ∀ i, i < n → 0 ≤ cs.getD i 0 ∧ cs.getD i 0 ≤ 255) (i : Nat) : ∀ x ∈ tenL R cs n i, 0 ≤ x ∧ x ≤ 255 := by
  induction i with
  | zero => intro x hx; cases hx
  | succ i ih =>
    intro x hx
    rw [tenL] at hx
    rcases List.mem_append.mp hx with h | h
    · exact ih x h
    · simp only [List.mem_cons, List.not_mem_nil, or_false] at h
      rcases h with h | h | h | h
      · omega
      · rw [h]; split
        · exact hc i (by assumption)
        · omega
      · omega
      · omega
theorem moreL_bd (R : Int) (hR : 0 ≤ R ∧ R ≤ 255) (ms : List Int) (n : Nat) (hc : ∀ i, i < n → 0 ≤ ms.getD i 0 ∧ ms.getD i 0 ≤ 255) (i : Nat) (hi : i ≤ n) : ∀ x ∈ moreL R ms i, 0 ≤ x ∧ x ≤ 255 := by
  induction i with
  | zero => intro x hx; cases hx
  | succ i ih =>
    intro x hx
    rw [moreL] at hx
    rcases List.mem_append.mp hx with h | h
    · exact ih (by omega) x h
    · simp only [List.mem_cons, List.not_mem_nil, or_false] at h
      rcases h with h | h | h | h
      · omega
      · rw [h]; exact hc i (by omega)
      · omega
      · omega
theorem getD_bd {l : List Int} (h : ∀ x ∈ l, 0 ≤ x ∧ x ≤ 255) (i : Nat) (hi : i < l.length) : 0 ≤ l.getD i 0 ∧ l.getD i 0 ≤ 255 := h _ (by simp [List.getD, hi])

/-- The first ten alone, or with others behind them: the same picture. -/
theorem ten_same (R : Int) (hR : 0 ≤ R ∧ R ≤ 255) (cs ms : List Int) (n m : Nat) (hm : m ≤ 30) (b1 p1 b2 p2 : Nat) (t1 t2 : Option Addr) (d1 d2 : Nat) (ts : List Int) (o1 o2 : Option Addr) (q1 q2 : Nat) (l1 l2 : List Int) (h1 : l1 = tenL R cs n 10) (h2 : l2 = tenL R cs n 10 ++ moreL R ms m) (xs ys : List Int)
    (hx : Shot (loneS b1 p1 t1 d1 ts o1 l1.length q1 l1) xs) (hy : Shot (loneS b2 p2 t2 d2 ts o2 l2.length q2 l2) ys) : xs = ys := by
  have k1 : l1.length = 40 := by rw [h1, tenL_len]
  have k2 : l2.length = 40 + 4 * m := by rw [h2, List.length_append, tenL_len, moreL_len]
  obtain ⟨S1, e1⟩ : ∃ S, loneS b1 p1 t1 d1 ts o1 l1.length q1 l1 = S := ⟨_, rfl⟩
  obtain ⟨S2, e2⟩ : ∃ S, loneS b2 p2 t2 d2 ts o2 l2.length q2 l2 = S := ⟨_, rfl⟩
  have a1 : ∀ i, (scP S1).oam i = if i < 40 then l1.getD i 0 else 0 := fun i => by rw [← e1]; show (if i < l1.length then l1.getD i 0 else 0) = _; rw [k1]
  have a2 : ∀ i, (scP S2).oam i = if i < 40 + 4 * m then l2.getD i 0 else 0 := fun i => by rw [← e2]; show (if i < l2.length then l2.getD i 0 else 0) = _; rw [k2]
  have g1 : (scP S1).regs 0 = 130 := (scP_reg S1 0 (by omega)).trans (by rw [← e1]; exact reg_zero 130 (by show 0 < 12; omega) rfl (by omega))
  have g2 : (scP S2).regs 0 = 130 := (scP_reg S2 0 (by omega)).trans (by rw [← e2]; exact reg_zero 130 (by show 0 < 12; omega) rfl (by omega))
  have T1 : Ten R (scP S1) := ⟨fun j hj => by rw [a1, if_pos (by omega), h1]; exact tenL_row R cs n 10 j hj, fun j hj => by
    rw [a1]; split
    · left; rw [h1]; exact tenL_row R cs n 10 j (by omega)
    · right; rfl, g1⟩
  have fst : ∀ i, i < 40 → l2.getD i 0 = l1.getD i 0 := fun i hi => by rw [h2, h1]; exact getD_app_l _ _ _ (by rw [tenL_len]; omega)
  have T2 : Ten R (scP S2) := ⟨fun j hj => by rw [a2, if_pos (by omega), fst _ (by omega), h1]; exact tenL_row R cs n 10 j hj, fun j hj => by
    rw [a2]; split
    · left
      by_cases hlt : j < 10
      · rw [fst _ (by omega), h1]; exact tenL_row R cs n 10 j hlt
      · rw [h2, getD_app_r _ _ _ (by rw [tenL_len]; omega), tenL_len, show 4 * j - 4 * 10 = 4 * (j - 10) from by omega]
        exact moreL_row R ms m (j - 10) (by omega)
    · right; rfl, g2⟩
  have er : ∀ i, i = 0 ∨ i = 2 ∨ i = 3 ∨ (7 ≤ i ∧ i < 12) → (scP S2).regs i = (scP S1).regs i := fun i hi => by
    rw [scP_reg _ _ hi, scP_reg _ _ hi, ← e1, ← e2]; rfl
  have ev : (scP S2).vram = (scP S1).vram := by
    rw [← e1, ← e2]
    show putP newP.vram [⟨16, t2, 16, d2, ts⟩] 1 = putP newP.vram [⟨16, t1, 16, d1, ts⟩] 1
    have hb : ∀ k : Nat, putB newP.vram ⟨16, t2, 16, d2, ts⟩ k = putB newP.vram ⟨16, t1, 16, d1, ts⟩ k := fun k => by
      induction k with
      | zero => rfl
      | succ k ih => rw [putB, putB, ih]
    exact hb 16
  rw [e1] at hx
  rw [e2] at hy
  apply List.ext_getElem (by rw [hx.len, hy.len])
  intro i hi1 hi2
  have hi : i < 23040 := by rw [← hx.len]; exact hi1
  have p1 := hx.pic (i / 160) (i % 160) (by omega) (by omega)
  have p2 := hy.pic (i / 160) (i % 160) (by omega) (by omega)
  rw [split_i] at p1 p2
  rw [ten_pic T1 T2 (fun i hi => by rw [a1, a2, if_pos hi, if_pos (by omega)]; exact fst i hi) er ev] at p2
  have := p1.trans p2.symm
  simpa [List.getD, hi1, hi2] using this

end Go.Proofs.Ytkfclamiendamaa
