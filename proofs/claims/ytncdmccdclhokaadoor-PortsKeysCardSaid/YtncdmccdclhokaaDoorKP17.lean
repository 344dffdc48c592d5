/- The ports' laws: buttons. -/
import Derived.Test.YtncdmccdclhokaaDoorKP14
namespace Go.Proofs.YtncdmccdclhokaaDoor
open Go.Sl Go.Xg
set_option linter.unusedVariables false
set_option linter.unusedSimpArgs false
set_option maxHeartbeats 4000000
set_option maxRecDepth 100000
variable {te : TypeId}

theorem band64_1 {x : Int} (h : 0 ≤ x ∧ x < 4611686018427387904) : band .i64 x 1 = x % 2 := by
  obtain ⟨n, rfl⟩ := nat_of h.1
  have := band64 (x := n) (y := 1) (by omega) (by omega)
  rw [Nat.and_one_is_mod] at this
  have e : ((1 : Nat) : Int) = 1 := rfl
  rw [e] at this
  omega

/-- The j-th key is down. -/
def keyDn (k a j : Nat) : Bool := (k % 2 == 0 && a / 2 ^ j % 2 == 1) || (k / 2 == 0 && a / 2 ^ (4 + j) % 2 == 1)

theorem key_bits : ∀ k : Fin 4, ∀ a : Fin 256, ∀ j : Fin 4, keysI (a.val : Nat) (16 * (k.val : Nat)) / 2 ^ j.val % 2 = if keyDn k.val a.val j.val then 0 else 1 := by decide +kernel
theorem key_or : ∀ k : Fin 4, ∀ q : Fin 16, bor .u8 (bor .u8 192 (16 * (k.val : Nat))) (q.val : Nat) = 192 + 16 * (k.val : Nat) + (q.val : Nat) := by decide +kernel
theorem fell_bits : ∀ p q : Fin 16, bclr .u8 (p.val : Nat) (q.val : Nat) = 0 ↔ ∀ j : Fin 4, ¬ (p.val / 2 ^ j.val % 2 = 1 ∧ q.val / 2 ^ j.val % 2 = 0) := by decide +kernel

def fellN (k a b : Nat) : Nat → Bool
  | 0 => false
  | j + 1 => fellN k a b j || (keyDn k b j && !keyDn k a j)

theorem fellN_iff (k a b n : Nat) : fellN k a b n = true ↔ ∃ j, j < n ∧ keyDn k b j = true ∧ keyDn k a j = false := by
  induction n with
  | zero => simp [fellN]
  | succ n ih =>
    simp only [fellN, Bool.or_eq_true, Bool.and_eq_true, Bool.not_eq_true', ih]
    constructor
    · rintro (⟨j, h1, h2⟩ | h)
      · exact ⟨j, by omega, h2⟩
      · exact ⟨n, by omega, h⟩
    · rintro ⟨j, h1, h2⟩
      rcases Nat.lt_or_ge j n with h | h
      · exact .inl ⟨j, h, h2⟩
      · obtain rfl : j = n := by omega
        exact .inr h2

theorem keys_nat (a r : Int) : ∃ q : Fin 16, keysI a r = (q.val : Nat) := by
  have := keysI_bd a r
  exact ⟨⟨(keysI a r).toNat, by omega⟩, by dsimp only; omega⟩

theorem fell_law {k a b : Nat} (hk : k < 4) (ha : a < 256) (hb : b < 256) : bclr .u8 (keysI (a : Nat) (16 * (k : Nat))) (keysI (b : Nat) (16 * (k : Nat))) = 0 ↔ fellN k a b 4 = false := by
  obtain ⟨p, hp⟩ := keys_nat (a : Nat) (16 * (k : Nat))
  obtain ⟨q, hq⟩ := keys_nat (b : Nat) (16 * (k : Nat))
  have kp : ∀ j : Fin 4, p.val / 2 ^ j.val % 2 = if keyDn k a j.val then 0 else 1 := fun j => by
    have := key_bits ⟨k, hk⟩ ⟨a, ha⟩ j
    dsimp only at this
    rw [hp] at this
    have e : (((p.val / 2 ^ j.val % 2 : Nat)) : Int) = (p.val : Int) / 2 ^ j.val % 2 := by simp
    rw [← e] at this
    split at this <;> rename_i h <;> simp [h] <;> omega
  have kq : ∀ j : Fin 4, q.val / 2 ^ j.val % 2 = if keyDn k b j.val then 0 else 1 := fun j => by
    have := key_bits ⟨k, hk⟩ ⟨b, hb⟩ j
    dsimp only at this
    rw [hq] at this
    have e : (((q.val / 2 ^ j.val % 2 : Nat)) : Int) = (q.val : Int) / 2 ^ j.val % 2 := by simp
    rw [← e] at this
    split at this <;> rename_i h <;> simp [h] <;> omega
  rw [hp, hq, fell_bits]
  have hf := fellN_iff k a b 4
  constructor
  · intro h
    cases hc : fellN k a b 4 with
    | false => rfl
    | true =>
      obtain ⟨j, h1, h2, h3⟩ := hf.1 hc
      exact absurd ⟨by rw [kp ⟨j, h1⟩]; simp [h3], by rw [kq ⟨j, h1⟩]; simp [h2]⟩ (h ⟨j, h1⟩)
  · intro h j ⟨h1, h2⟩
    rw [kp j] at h1
    rw [kq j] at h2
    have h3 : keyDn k a j.val = false := by cases hx : keyDn k a j.val with
      | false => rfl
      | true => simp [hx] at h1
    have h4 : keyDn k b j.val = true := by cases hx : keyDn k b j.val with
      | true => rfl
      | false => simp [hx] at h2
    have := hf.2 ⟨j.val, j.isLt, h4, h3⟩
    rw [h] at this; cases this

/-- What the key port reads, bit by bit. -/
theorem rd0_law {k a : Nat} (hk : k < 4) (ha : a < 256) {σ : Po} (hr : σ.rows = 16 * (k : Nat)) (hb : σ.buttons = (a : Nat)) :
    ∃ X : Int, rdI 0 σ = X ∧ 192 + 16 * (k : Int) ≤ X ∧ X < 192 + 16 * (k : Int) + 16 ∧ ∀ j : Nat, j < 4 → X / 2 ^ j % 2 = if keyDn k a j then 0 else 1 := by
  obtain ⟨q, hq⟩ := keys_nat (a : Nat) (16 * (k : Nat))
  refine ⟨192 + 16 * (k : Int) + (q.val : Nat), ?_, by omega, by omega, fun j hj => ?_⟩
  · show bor .u8 (bor .u8 192 σ.rows) (keysI σ.buttons σ.rows) = _
    rw [hr, hb, hq]
    exact key_or ⟨k, hk⟩ q
  · have := key_bits ⟨k, hk⟩ ⟨a, ha⟩ ⟨j, hj⟩
    dsimp only at this
    rw [hq] at this
    rw [← this]
    match j, hj with
    | 0, _ => simp; omega
    | 1, _ => simp; omega
    | 2, _ => omega
    | 3, _ => omega

theorem b4_take {r : Int} (h : 0 ≤ r ∧ r ≤ 31) : band .i64 (takeI r 4) 16 = 0 := by
  obtain ⟨n, rfl⟩ := nat_of h.1
  have : ∀ r : Fin 32, band .i64 (takeI (r.val : Nat) 4) 16 = 0 := by decide +kernel
  exact this ⟨n, by omega⟩
theorem b4_ask {r : Int} (h : 0 ≤ r ∧ r ≤ 31) : band .i64 (askI r 4) 16 = 16 := by
  obtain ⟨n, rfl⟩ := nat_of h.1
  have : ∀ r : Fin 32, band .i64 (askI (r.val : Nat) 4) 16 = 16 := by decide +kernel
  exact this ⟨n, by omega⟩
theorem band48 : ∀ k : Fin 4, band .u8 (16 * (k.val : Nat)) 48 = 16 * (k.val : Nat) := by decide +kernel

theorem pressed_f (σ σ' : Po) : (pressed σ σ').buttons = σ'.buttons ∧ (pressed σ σ').rows = σ'.rows := by
  unfold pressed; split <;> exact ⟨rfl, rfl⟩

theorem write_0K (p : Nat) (σ : Po) (hσ : σ.Wf) (s : Value) (k : Nat) (hk : k < 4) : Does Tryd.prog 15 [pt p, .int .i64 65280, .int .i64 ((k : Nat) * 16)] [PoR p σ s, (Drv te)] (RetE (fun x : Po => x.rows = 16 * (k : Nat) ∧ x.Wf) (fun _ => .int .i64 0) (fun x => [PoR p x s, (Drv te)])) := by
  refine (write_0 p σ s ((k : Nat) * 16) (by omega)).mono fun _ _ ⟨e1, e2⟩ => ⟨wrI 0 σ ((k : Nat) * 16), ⟨?_, wrI_wf hσ 0 (by omega)⟩, e1, e2⟩
  refine (pressed_f _ _).2.trans ?_
  show band .u8 ((k : Nat) * 16) 48 = _
  rw [Int.mul_comm]
  exact band48 ⟨k, hk⟩
theorem press_K (p : Nat) (σ : Po) (hσ : σ.Wf) (s : Value) (a : Nat) (ha : a < 256) : Does Tryd.prog 20 [pt p, .int .i64 (a : Nat)] [PoR p σ s]
    (RetE (fun x : Po => x = pressed σ { σ with buttons := (a : Nat) } ∧ x.buttons = (a : Nat) ∧ x.rows = σ.rows ∧ x.Wf ∧ 0 ≤ x.requests ∧ x.requests ≤ 31) (fun _ => .int .i64 0) (fun x => [PoR p x s])) := by
  refine (press_d p σ s (a : Nat) (by omega)).mono fun _ _ ⟨e1, e2⟩ => ⟨pressed σ { σ with buttons := (a : Nat) }, ?_, e1, e2⟩
  have hw : (pressed σ { σ with buttons := (a : Nat) }).Wf := pressed_wf ⟨by dsimp only; omega, hσ.rows, hσ.shift, hσ.line, hσ.counter, hσ.timer, hσ.again, hσ.control, hσ.requests, hσ.alarm, hσ.transfer, hσ.sending⟩
  exact ⟨rfl, (pressed_f _ _).1, (pressed_f _ _).2, hw, hw.requests.1, hw.requests.2⟩
theorem read_0K (p : Nat) (σ : Po) (hσ : σ.Wf) (s : Value) : Does Tryd.prog 19 [pt p, .int .i64 65280] [PoR p σ s] (RetE (fun x : Int => x = rdI 0 σ) (fun x => .tuple #[.int .i64 x, .int .i64 0]) (fun _ => [PoR p σ s])) :=
  (read_0 p σ hσ s).mono fun _ _ ⟨e1, e2⟩ => ⟨_, rfl, e1, e2⟩
theorem take_4E (p : Nat) (σ : Po) (hσ : σ.Wf) (s : Value) : Does Tryd.prog 16 [pt p, .int .i64 4] [PoR p σ s] (RetE (fun x : Po => x = { σ with requests := takeI σ.requests 4 } ∧ x.Wf) (fun _ => .int .i64 0) (fun x => [PoR p x s])) :=
  (take_d p σ s 4 (by omega)).mono fun _ _ ⟨e1, e2⟩ => ⟨_, ⟨rfl, wfT hσ 4⟩, e1, e2⟩

/-- The bits, as the law's text reads them. -/
theorem bit_at {x : Int} (h : 0 ≤ x ∧ x < 4611686018427387904) (i : Int) (j : Nat) (hi : i.toNat = j) (hj : j < 60) : band .i64 (Int.fdiv x (2 ^ min (Int.toNat i) (IntKind.bits .i64))) 1 = x / 2 ^ j % 2 := by
  rw [hi, show min j (IntKind.bits .i64) = j from Nat.min_eq_left (by show j ≤ 64; omega)]
  rw [show Int.fdiv x (2 ^ j) = x / 2 ^ j from shr_div x _ (Int.pow_pos (by omega))]
  have hp : (0 : Int) < 2 ^ j := Int.pow_pos (by omega)
  have h2 : x / 2 ^ j ≤ x := Int.ediv_le_self _ h.1
  exact band64_1 ⟨Int.ediv_nonneg h.1 (Int.le_of_lt hp), by omega⟩

theorem band16_k : ∀ k : Fin 4, (band .i64 ((k.val : Nat) * 16) 16 = 0 ∧ k.val % 2 = 0) ∨ (band .i64 ((k.val : Nat) * 16) 16 = 16 ∧ k.val % 2 = 1) := by decide +kernel
theorem band32_k : ∀ k : Fin 4, (band .i64 ((k.val : Nat) * 16) 32 = 0 ∧ k.val / 2 = 0) ∨ (band .i64 ((k.val : Nat) * 16) 32 = 32 ∧ k.val / 2 = 1) := by decide +kernel
theorem band240 : ∀ k : Fin 4, ∀ q : Fin 16, band .i64 (192 + 16 * (k.val : Nat) + (q.val : Nat)) 240 = 192 + 16 * (k.val : Nat) := by decide +kernel

/-- One round's facts. -/
theorem round_facts {k a j : Nat} (hk : k < 4) (ha : a < 256) (hj : j < 4) {X : Int} (hX1 : 192 + 16 * (k : Int) ≤ X) (hX2 : X < 192 + 16 * (k : Int) + 16) (hXb : ∀ j : Nat, j < 4 → X / 2 ^ j % 2 = if keyDn k a j then 0 else 1) :
    ∃ x0 a0 a4 : Int, band .i64 (Int.fdiv X (2 ^ min (Int.toNat (j : Int)) (IntKind.bits .i64))) 1 = x0 ∧ band .i64 (Int.fdiv (a : Int) (2 ^ min (Int.toNat (j : Int)) (IntKind.bits .i64))) 1 = a0 ∧
      band .i64 (Int.fdiv (a : Int) (2 ^ min (Int.toNat (4 + (j : Int))) (IntKind.bits .i64))) 1 = a4 ∧
      ((x0 = 0 ∧ ((band .i64 ((k : Nat) * 16) 16 = 0 ∧ a0 = 1) ∨ (band .i64 ((k : Nat) * 16) 32 = 0 ∧ a4 = 1))) ∨ (x0 = 1 ∧ ¬ (band .i64 ((k : Nat) * 16) 16 = 0 ∧ a0 = 1) ∧ ¬ (band .i64 ((k : Nat) * 16) 32 = 0 ∧ a4 = 1))) ∧
      keyDn k a j = decide (x0 = 0) ∧ 0 ≤ a0 ∧ a0 ≤ 1 ∧ 0 ≤ a4 ∧ a4 ≤ 1 := by
  refine ⟨X / 2 ^ j % 2, (a : Int) / 2 ^ j % 2, (a : Int) / 2 ^ (4 + j) % 2, bit_at (by omega) _ j (by omega) (by omega), bit_at (by omega) _ j (by omega) (by omega), bit_at (by omega) _ (4 + j) (by omega) (by omega), ?_, ?_, by omega, by omega, by omega, by omega⟩
  · rw [hXb j hj]
    have e1 : (a : Int) / 2 ^ j % 2 = ((a / 2 ^ j % 2 : Nat) : Int) := by simp
    have e2 : (a : Int) / 2 ^ (4 + j) % 2 = ((a / 2 ^ (4 + j) % 2 : Nat) : Int) := by simp
    rw [e1, e2]
    have h16 := band16_k ⟨k, hk⟩
    have h32 := band32_k ⟨k, hk⟩
    dsimp only at h16 h32
    clear e1 e2
    obtain ⟨u, hu⟩ : ∃ u, a / 2 ^ j % 2 = u := ⟨_, rfl⟩
    obtain ⟨w, hw⟩ : ∃ w, a / 2 ^ (4 + j) % 2 = w := ⟨_, rfl⟩
    rw [hu, hw]
    by_cases hd : keyDn k a j = true
    · left
      rw [if_pos hd]
      unfold keyDn at hd
      rw [hu, hw] at hd
      clear hu hw
      simp only [Bool.or_eq_true, Bool.and_eq_true, beq_iff_eq] at hd
      omega
    · right
      rw [if_neg hd]
      unfold keyDn at hd
      rw [hu, hw] at hd
      clear hu hw
      simp only [Bool.or_eq_true, Bool.and_eq_true, beq_iff_eq] at hd
      omega
  · rw [hXb j hj]
    cases keyDn k a j <;> simp

end Go.Proofs.YtncdmccdclhokaaDoor
