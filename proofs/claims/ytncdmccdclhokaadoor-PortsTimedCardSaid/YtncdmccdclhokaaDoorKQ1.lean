/- The ports: what the timer does, clock by clock. No program in sight. -/
import Derived.Test.YtncdmccdclhokaaDoorKP10
namespace Go.Proofs.YtncdmccdclhokaaDoor
open Go.Sl Go.Xg
set_option linter.unusedVariables false
set_option linter.unusedSimpArgs false
set_option maxRecDepth 100000

theorem clockP_fields (σ : Po) : (clockP σ).counter = (counted (alarmed σ)).counter ∧ (clockP σ).timer = (counted (alarmed σ)).timer ∧ (clockP σ).again = (counted (alarmed σ)).again ∧
    (clockP σ).control = (counted (alarmed σ)).control ∧ (clockP σ).alarm = (counted (alarmed σ)).alarm ∧
    ((clockP σ).requests = (counted (alarmed σ)).requests ∨ (clockP σ).requests = askI (counted (alarmed σ)).requests 3) := by
  unfold clockP endsP
  split
  · split
    · exact ⟨rfl, rfl, rfl, rfl, rfl, .inr rfl⟩
    · exact ⟨rfl, rfl, rfl, rfl, rfl, .inl rfl⟩
  · exact ⟨rfl, rfl, rfl, rfl, rfl, .inl rfl⟩

theorem ticked_fields (σ : Po) : (ticked σ).counter = σ.counter ∧ (ticked σ).again = σ.again ∧ (ticked σ).control = σ.control ∧ (ticked σ).requests = σ.requests ∧ (ticked σ).timer = (σ.timer + 1) % 256 ∧
    (ticked σ).alarm = if (σ.timer + 1) % 256 = 0 then 4 else σ.alarm := by
  unfold ticked
  split <;> exact ⟨rfl, rfl, rfl, rfl, rfl, rfl⟩

def dU (k : Nat) : Int := [(1024 : Int), 16, 64, 256].getD k 0

theorem band1_u16 {x : Int} (h : 0 ≤ x ∧ x ≤ 65535) : band .u16 x 1 = x % 2 := by
  obtain ⟨n, rfl⟩ := nat_of h.1
  show IntKind.u16.wrap _ = _
  rw [wrap_u16_mod]
  show ((BitVec.ofInt 16 (n : Int) &&& BitVec.ofInt 16 ((1 : Nat) : Int)).toNat : Int) % 65536 = _
  rw [ofInt_nat, ofInt_nat, BitVec.toNat_and, BitVec.toNat_ofNat, BitVec.toNat_ofNat, Nat.mod_eq_of_lt (by omega)]
  rw [show 1 % 2 ^ 16 = 1 from rfl, Nat.and_one_is_mod]
  omega

theorem fdiv_pow (x : Int) (d : Nat) : Int.fdiv x (2 ^ d) = x / 2 ^ d := shr_div x _ (Int.pow_pos (by omega))

/-- The drive, of control 4 + k. -/
theorem drive_k {σ : Po} {k : Nat} (hk : k < 4) (hc : σ.control = 4 + (k : Int)) (hw : 0 ≤ σ.counter ∧ σ.counter ≤ 65535) : driveB σ = decide (dU k / 2 ≤ σ.counter % dU k) := by
  unfold driveB drvI
  rw [hc]
  have key : ∀ (d : Nat) (U : Int), U = 2 * 2 ^ d → band .u16 (Int.fdiv σ.counter (2 ^ d)) 1 = (σ.counter / 2 ^ d) % 2 := fun d U _ => by
    rw [fdiv_pow]
    have hp : (0 : Int) < 2 ^ d := Int.pow_pos (by omega)
    have h1 : 0 ≤ σ.counter / 2 ^ d := Int.ediv_nonneg hw.1 (Int.le_of_lt hp)
    have h2 : σ.counter / 2 ^ d ≤ σ.counter := Int.ediv_le_self _ hw.1
    exact band1_u16 ⟨h1, by omega⟩
  match k, hk with
  | 0, _ =>
    show (!decide (band .u8 4 4 = 0) && decide (band .u16 (Int.fdiv σ.counter (2 ^ 9)) 1 = 1)) = _
    rw [key 9 1024 rfl, show (!decide (band .u8 4 4 = 0)) = true from by decide, Bool.true_and]
    show decide (σ.counter / 512 % 2 = 1) = decide (512 ≤ σ.counter % 1024)
    exact decide_eq_decide.2 (by omega)
  | 1, _ =>
    show (!decide (band .u8 5 4 = 0) && decide (band .u16 (Int.fdiv σ.counter (2 ^ 3)) 1 = 1)) = _
    rw [key 3 16 rfl, show (!decide (band .u8 5 4 = 0)) = true from by decide, Bool.true_and]
    show decide (σ.counter / 8 % 2 = 1) = decide (8 ≤ σ.counter % 16)
    exact decide_eq_decide.2 (by omega)
  | 2, _ =>
    show (!decide (band .u8 6 4 = 0) && decide (band .u16 (Int.fdiv σ.counter (2 ^ 5)) 1 = 1)) = _
    rw [key 5 64 rfl, show (!decide (band .u8 6 4 = 0)) = true from by decide, Bool.true_and]
    show decide (σ.counter / 32 % 2 = 1) = decide (32 ≤ σ.counter % 64)
    exact decide_eq_decide.2 (by omega)
  | 3, _ =>
    show (!decide (band .u8 7 4 = 0) && decide (band .u16 (Int.fdiv σ.counter (2 ^ 7)) 1 = 1)) = _
    rw [key 7 256 rfl, show (!decide (band .u8 7 4 = 0)) = true from by decide, Bool.true_and]
    show decide (σ.counter / 128 % 2 = 1) = decide (128 ≤ σ.counter % 256)
    exact decide_eq_decide.2 (by omega)

theorem dU_cases {k : Nat} (hk : k < 4) : dU k = 1024 ∨ dU k = 16 ∨ dU k = 64 ∨ dU k = 256 := by
  match k, hk with
  | 0, _ => exact .inl rfl
  | 1, _ => exact .inr (.inl rfl)
  | 2, _ => exact .inr (.inr (.inl rfl))
  | 3, _ => exact .inr (.inr (.inr rfl))

theorem counted_k {σ : Po} {k : Nat} (hk : k < 4) (hc : σ.control = 4 + (k : Int)) (hw : 0 ≤ σ.counter ∧ σ.counter ≤ 65535) :
    (σ.counter % dU k = dU k - 1 → counted σ = ticked { σ with counter := (σ.counter + 1) % 65536 } ∧ ((σ.counter + 1) % 65536) % dU k = 0) ∧
    (σ.counter % dU k ≠ dU k - 1 → counted σ = { σ with counter := (σ.counter + 1) % 65536 } ∧ ((σ.counter + 1) % 65536) % dU k = σ.counter % dU k + 1) := by
  have h1 := drive_k hk hc hw
  have h2 := drive_k (σ := { σ with counter := (σ.counter + 1) % 65536 }) hk hc (by dsimp only; omega)
  dsimp only at h2
  have hu := dU_cases hk
  unfold counted driven
  rw [h1, h2]
  generalize dU k = U at *
  constructor
  · intro h
    have e : (σ.counter + 1) % 65536 % U = 0 := by rcases hu with rfl | rfl | rfl | rfl <;> omega
    refine ⟨?_, e⟩
    rw [if_pos (by rw [decide_eq_true_eq]; rcases hu with rfl | rfl | rfl | rfl <;> omega), if_neg (by rw [decide_eq_true_eq, e]; rcases hu with rfl | rfl | rfl | rfl <;> omega)]
  · intro h
    have e : (σ.counter + 1) % 65536 % U = σ.counter % U + 1 := by rcases hu with rfl | rfl | rfl | rfl <;> omega
    refine ⟨?_, e⟩
    by_cases hb : U / 2 ≤ σ.counter % U
    · rw [if_pos (by rw [decide_eq_true_eq]; exact hb), if_pos (by rw [decide_eq_true_eq, e]; omega)]
    · rw [if_neg (by rw [decide_eq_true_eq]; exact hb)]

/-- Bit 2 of the requests. -/
def b2 (σ : Po) : Int := band .i64 σ.requests 4
theorem ask3_b2 {r : Int} (h : 0 ≤ r ∧ r ≤ 31) : band .i64 (askI r 3) 4 = band .i64 r 4 := by
  obtain ⟨n, rfl⟩ := nat_of h.1
  have : ∀ r : Fin 32, band .i64 (askI (r.val : Nat) 3) 4 = band .i64 (r.val : Nat) 4 := by decide +kernel
  exact this ⟨n, by omega⟩
theorem ask2_b2 {r : Int} (h : 0 ≤ r ∧ r ≤ 31) : band .i64 (askI r 2) 4 = 4 := by
  obtain ⟨n, rfl⟩ := nat_of h.1
  have : ∀ r : Fin 32, band .i64 (askI (r.val : Nat) 2) 4 = 4 := by decide +kernel
  exact this ⟨n, by omega⟩
theorem take2_b2 {r : Int} (h : 0 ≤ r ∧ r ≤ 31) : band .i64 (takeI r 2) 4 = 0 := by
  obtain ⟨n, rfl⟩ := nat_of h.1
  have : ∀ r : Fin 32, band .i64 (takeI (r.val : Nat) 2) 4 = 0 := by decide +kernel
  exact this ⟨n, by omega⟩

/-- The timer's part of the state. -/
structure Tm (k : Nat) (a t al c b : Int) (σ : Po) : Prop where
  wf : σ.Wf
  control : σ.control = 4 + (k : Int)
  again : σ.again = a
  timer : σ.timer = t
  alarm : σ.alarm = al
  counter : σ.counter = c
  bit : b2 σ = b

/-- One clock, no alarm, no tick. -/
theorem Tm.quiet {k : Nat} {a t c b : Int} {σ : Po} (hk : k < 4) (h : Tm k a t 0 c b σ) (hc : c % dU k ≠ dU k - 1) : Tm k a t 0 ((c + 1) % 65536) b (clockP σ) ∧ ((c + 1) % 65536) % dU k = c % dU k + 1 := by
  obtain ⟨w, h1, h2, h3, h4, h5, h6⟩ := h
  have hal : alarmed σ = σ := by unfold alarmed; rw [if_neg (by omega)]
  obtain ⟨f1, f2, f3, f4, f5, f6⟩ := clockP_fields σ
  rw [hal] at f1 f2 f3 f4 f5 f6
  obtain ⟨e, e2⟩ := (counted_k hk h1 w.counter).2 (by rw [h5]; exact hc)
  rw [e] at f1 f2 f3 f4 f5 f6
  dsimp only at f1 f2 f3 f4 f5 f6
  rw [h5] at e2 f1
  refine ⟨⟨clockP_wf w, by rw [f4, h1], by rw [f3, h2], by rw [f2, h3], by rw [f5, h4], f1, ?_⟩, e2⟩
  unfold b2 at h6 ⊢
  rcases f6 with f6 | f6 <;> rw [f6]
  · exact h6
  · rw [ask3_b2 w.requests]; exact h6

/-- One clock, no alarm, a tick. -/
theorem Tm.tick {k : Nat} {a t c b : Int} {σ : Po} (hk : k < 4) (h : Tm k a t 0 c b σ) (hc : c % dU k = dU k - 1) : Tm k a ((t + 1) % 256) (if (t + 1) % 256 = 0 then 4 else 0) ((c + 1) % 65536) b (clockP σ) ∧ ((c + 1) % 65536) % dU k = 0 := by
  obtain ⟨w, h1, h2, h3, h4, h5, h6⟩ := h
  have hal : alarmed σ = σ := by unfold alarmed; rw [if_neg (by omega)]
  obtain ⟨f1, f2, f3, f4, f5, f6⟩ := clockP_fields σ
  rw [hal] at f1 f2 f3 f4 f5 f6
  obtain ⟨e, e2⟩ := (counted_k hk h1 w.counter).1 (by rw [h5]; exact hc)
  obtain ⟨g1, g2, g3, g4, g5, g6⟩ := ticked_fields { σ with counter := (σ.counter + 1) % 65536 }
  dsimp only at g1 g2 g3 g4 g5 g6
  rw [e] at f1 f2 f3 f4 f5 f6
  rw [g1] at f1
  rw [g5] at f2
  rw [g2] at f3
  rw [g3] at f4
  rw [g6] at f5
  rw [g4] at f6
  rw [h5] at e2 f1
  rw [h3] at f2 f5
  rw [h4] at f5
  refine ⟨⟨clockP_wf w, by rw [f4, h1], by rw [f3, h2], f2, f5, f1, ?_⟩, e2⟩
  unfold b2 at h6 ⊢
  rcases f6 with f6 | f6 <;> rw [f6]
  · exact h6
  · rw [ask3_b2 w.requests]; exact h6

/-- One clock of an alarm, no tick. -/
theorem Tm.alarm1 {k : Nat} {a t c b al : Int} {σ : Po} (hk : k < 4) (h : Tm k a t al c b σ) (ha : 1 ≤ al) (hc : c % dU k ≠ dU k - 1) :
    Tm k a (if al - 1 = 0 then a else t) (al - 1) ((c + 1) % 65536) (if al - 1 = 0 then 4 else b) (clockP σ) ∧ ((c + 1) % 65536) % dU k = c % dU k + 1 := by
  obtain ⟨w, h1, h2, h3, h4, h5, h6⟩ := h
  have wa := alarmed_wf w
  have ca : (alarmed σ).control = σ.control ∧ (alarmed σ).counter = σ.counter ∧ (alarmed σ).again = σ.again ∧ (alarmed σ).alarm = al - 1 ∧ (alarmed σ).timer = (if al - 1 = 0 then a else t) ∧ (alarmed σ).requests = (if al - 1 = 0 then askI σ.requests 2 else σ.requests) := by
    unfold alarmed
    rw [if_pos (by omega)]
    by_cases h0 : σ.alarm - 1 = 0
    · rw [if_pos h0]
      rw [h4] at h0
      simp [h0, h2, h4]
    · rw [if_neg h0]
      rw [h4] at h0
      simp [h0, h3, h4]
  obtain ⟨c1, c2, c3, c4, c5, c6⟩ := ca
  obtain ⟨f1, f2, f3, f4, f5, f6⟩ := clockP_fields σ
  obtain ⟨e, e2⟩ := (counted_k hk (c1.trans h1) wa.counter).2 (by rw [c2, h5]; exact hc)
  rw [e] at f1 f2 f3 f4 f5 f6
  dsimp only at f1 f2 f3 f4 f5 f6
  rw [c2, h5] at e2 f1
  refine ⟨⟨clockP_wf w, by rw [f4, c1, h1], by rw [f3, c3, h2], by rw [f2, c5], by rw [f5, c4], f1, ?_⟩, e2⟩
  unfold b2 at h6 ⊢
  have hb : band .i64 (alarmed σ).requests 4 = if al - 1 = 0 then 4 else b := by
    rw [c6]
    split
    · exact ask2_b2 w.requests
    · exact h6
  rcases f6 with f6 | f6 <;> rw [f6]
  · exact hb
  · rw [ask3_b2 wa.requests]; exact hb

theorem clk_succ (n : Nat) (x : Po × List Int) : (clk (n + 1) x).1 = clockP (clk n x).1 := rfl
theorem clk_comp (a b : Nat) (x : Po × List Int) : clk (a + b) x = clk b (clk a x) := by
  induction b with
  | zero => rfl
  | succ b ih => rw [← Nat.add_assoc, clk, clk, ih]

/-- Some clocks without a tick. -/
theorem Tm.quiets {k : Nat} {a t c b : Int} {x : Po × List Int} (hk : k < 4) (h : Tm k a t 0 c b x.1) (n : Nat) (hn : c % dU k + n < dU k) : Tm k a t 0 ((c + n) % 65536) b (clk n x).1 ∧ ((c + n) % 65536) % dU k = c % dU k + n := by
  have hc := h.wf.counter
  rw [h.counter] at hc
  induction n with
  | zero =>
    have e : (c + ((0 : Nat) : Int)) % 65536 = c := by omega
    rw [e]
    exact ⟨h, by simp⟩
  | succ n ih =>
    obtain ⟨i1, i2⟩ := ih (by omega)
    have := i1.quiet hk (by rw [i2]; omega)
    rw [i2] at this
    have e : ((c + n) % 65536 + 1) % 65536 = (c + ((n + 1 : Nat) : Int)) % 65536 := by omega
    rw [e] at this
    rw [clk_succ]
    exact ⟨this.1, by rw [this.2]; omega⟩

/-- A whole unit: one tick that is no overflow. -/
theorem Tm.unit {k : Nat} {a t c b : Int} {x : Po × List Int} (hk : k < 4) (h : Tm k a t 0 c b x.1) (ht : 0 ≤ t ∧ t < 255) : Tm k a (t + 1) 0 ((c + dU k) % 65536) b (clk (dU k).toNat x).1 := by
  have hu := dU_cases hk
  have hc := h.wf.counter
  rw [h.counter] at hc
  have hm : 0 ≤ c % dU k ∧ c % dU k < dU k := ⟨Int.emod_nonneg _ (by omega), Int.emod_lt_of_pos _ (by omega)⟩
  obtain ⟨r, hr⟩ := nat_of hm.1
  obtain ⟨n, hn⟩ := nat_of (x := dU k - 1 - c % dU k) (by omega)
  have e : (dU k).toNat = n + 1 + r := by omega
  obtain ⟨q1, q2⟩ := h.quiets hk n (by omega)
  obtain ⟨t1, t2⟩ := q1.tick hk (by rw [q2]; omega)
  have e1 : (t + 1) % 256 = t + 1 := by omega
  rw [e1, if_neg (by omega)] at t1
  have q3 := Tm.quiets (x := clk (n + 1) x) hk (by rw [clk_succ]; exact t1) r (by rw [t2]; omega)
  rw [e, clk_comp]
  have e2 : (((c + n) % 65536 + 1) % 65536 + r) % 65536 = (c + dU k) % 65536 := by omega
  rw [e2] at q3
  exact q3.1

theorem Tm.units {k : Nat} {a t c b : Int} {x : Po × List Int} (hk : k < 4) (h : Tm k a t 0 c b x.1) (m : Nat) (ht : 0 ≤ t ∧ t + m ≤ 255) : Tm k a (t + m) 0 ((c + m * dU k) % 65536) b (clk (m * (dU k).toNat) x).1 := by
  have hu := dU_cases hk
  have hc := h.wf.counter
  rw [h.counter] at hc
  induction m with
  | zero =>
    have e : (c + ((0 : Nat) : Int) * dU k) % 65536 = c := by simp; omega
    rw [e, Nat.zero_mul, show t + ((0 : Nat) : Int) = t from by simp]
    exact h
  | succ m ih =>
    have := (ih (by omega)).unit hk (by omega)
    have e : ((c + m * dU k) % 65536 + dU k) % 65536 = (c + ((m + 1 : Nat) : Int) * dU k) % 65536 := by
      have : ((m + 1 : Nat) : Int) * dU k = m * dU k + dU k := by rw [Int.natCast_add, Int.add_mul]; simp
      rw [this, ← Int.add_assoc]; omega
    rw [e] at this
    rw [Nat.succ_mul, clk_comp]
    have e2 : t + ((m + 1 : Nat) : Int) = t + m + 1 := by omega
    rw [e2]
    exact this

/-- To the overflow and over it: the request comes with the fourth clock behind. -/
theorem Tm.over {k : Nat} {a c b : Int} {x : Po × List Int} (hk : k < 4) (h : Tm k a 255 0 c b x.1) (n : Nat) (hn : c % dU k + n = dU k) :
    Tm k a 0 1 ((c + n + 3) % 65536) b (clk (n + 3) x).1 ∧ Tm k a a 0 ((c + n + 4) % 65536) 4 (clk (n + 4) x).1 ∧ ((c + n + 4) % 65536) % dU k = 4 := by
  have hu := dU_cases hk
  have hc := h.wf.counter
  rw [h.counter] at hc
  have hm : 0 ≤ c % dU k ∧ c % dU k < dU k := ⟨Int.emod_nonneg _ (by omega), Int.emod_lt_of_pos _ (by omega)⟩
  obtain ⟨m, rfl⟩ : ∃ m, n = m + 1 := ⟨n - 1, by omega⟩
  obtain ⟨q1, q2⟩ := h.quiets hk m (by omega)
  obtain ⟨t1, t2⟩ := q1.tick hk (by rw [q2]; omega)
  rw [show (255 + 1 : Int) % 256 = 0 from rfl, if_pos rfl] at t1
  obtain ⟨a1, b1⟩ := t1.alarm1 hk (by omega) (by rw [t2]; omega)
  rw [if_neg (by omega), if_neg (by omega), show (4 : Int) - 1 = 3 from rfl] at a1
  obtain ⟨a2, b2'⟩ := a1.alarm1 hk (by omega) (by rw [b1, t2]; omega)
  rw [if_neg (by omega), if_neg (by omega), show (3 : Int) - 1 = 2 from rfl] at a2
  obtain ⟨a3, b3⟩ := a2.alarm1 hk (by omega) (by rw [b2', b1, t2]; omega)
  rw [if_neg (by omega), if_neg (by omega), show (2 : Int) - 1 = 1 from rfl] at a3
  obtain ⟨a4, b4⟩ := a3.alarm1 hk (by omega) (by rw [b3, b2', b1, t2]; omega)
  rw [if_pos (by omega), if_pos (by omega), show (1 : Int) - 1 = 0 from rfl] at a4
  have e3 : ((((c + m) % 65536 + 1) % 65536 + 1) % 65536 + 1) % 65536 + 1 = (((c + m) % 65536 + 1) % 65536 + 1) % 65536 + 1 + 1 ∨ True := .inr trivial
  have e4 : (((((c + m) % 65536 + 1) % 65536 + 1) % 65536 + 1) % 65536 + 1) % 65536 = (c + ((m + 1 : Nat) : Int) + 3) % 65536 := by omega
  have e5 : ((((((c + m) % 65536 + 1) % 65536 + 1) % 65536 + 1) % 65536 + 1) % 65536 + 1) % 65536 = (c + ((m + 1 : Nat) : Int) + 4) % 65536 := by omega
  rw [e4] at a3
  rw [e5] at a4 b4
  exact ⟨a3, a4, by rw [b4, b3, b2', b1, t2]; omega⟩

/-- The first time: the counter at 0. -/
theorem tm_first {k : Nat} {a b : Int} {x : Po × List Int} (hk : k < 4) (h : Tm k a 255 0 0 b x.1) :
    Tm k a 0 1 ((dU k + 3) % 65536) b (clk ((dU k).toNat + 3) x).1 ∧ Tm k a a 0 ((dU k + 4) % 65536) 4 (clk ((dU k).toNat + 4) x).1 ∧ ((dU k + 4) % 65536) % dU k = 4 := by
  have hu := dU_cases hk
  have := h.over hk (dU k).toNat (by rw [Int.zero_emod]; omega)
  rw [show (0 : Int) + (dU k).toNat = dU k from by omega] at this
  exact this

/-- From one request to the next. -/
theorem tm_next {k : Nat} {a c b : Int} {x : Po × List Int} (hk : k < 4) (h : Tm k a a 0 c b x.1) (hc4 : c % dU k = 4) (ha : 0 ≤ a ∧ a ≤ 255) :
    Tm k a 0 1 ((c + (256 - a) * dU k - 1) % 65536) b (clk ((256 - a) * dU k - 1).toNat x).1 ∧ Tm k a a 0 ((c + (256 - a) * dU k) % 65536) 4 (clk (((256 - a) * dU k - 1).toNat + 1) x).1 ∧ ((c + (256 - a) * dU k) % 65536) % dU k = 4 := by
  have hu := dU_cases hk
  obtain ⟨m, hm⟩ := nat_of (x := 255 - a) (by omega)
  have h1 := h.units hk m (by omega)
  have e1 : a + m = 255 := by omega
  rw [e1] at h1
  have hd : ((c + m * dU k) % 65536) % dU k = 4 := by
    have e : (c + m * dU k) % 65536 % dU k = (c + m * dU k) % dU k := by
      apply Int.emod_emod_of_dvd
      rcases hu with e | e | e | e <;> rw [e] <;> decide
    rw [e, Int.add_mul_emod_self_right]; exact hc4
  have h2 := h1.over hk ((dU k).toNat - 4) (by rw [hd]; omega)
  obtain ⟨o1, o2, o3⟩ := h2
  have e2 : (256 - a) * dU k = m * dU k + dU k := by
    have : 256 - a = (m : Int) + 1 := by omega
    rw [this, Int.add_mul]; simp
  have ep : (0 : Int) ≤ m * dU k := Int.mul_nonneg (by omega) (by omega)
  have en : ((m * (dU k).toNat : Nat) : Int) = m * dU k := by rw [Int.natCast_mul]; congr 1; omega
  have t1 : ((256 - a) * dU k - 1).toNat = m * (dU k).toNat + ((dU k).toNat - 4 + 3) := by rw [e2]; omega
  have t2 : ((256 - a) * dU k - 1).toNat + 1 = m * (dU k).toNat + ((dU k).toNat - 4 + 4) := by rw [e2]; omega
  have c1 : ((c + m * dU k) % 65536 + (((dU k).toNat - 4 : Nat) : Int) + 3) % 65536 = (c + (256 - a) * dU k - 1) % 65536 := by rw [e2]; omega
  have c2 : ((c + m * dU k) % 65536 + (((dU k).toNat - 4 : Nat) : Int) + 4) % 65536 = (c + (256 - a) * dU k) % 65536 := by rw [e2]; omega
  rw [c1] at o1
  rw [c2] at o2 o3
  refine ⟨?_, ?_, o3⟩
  · rw [t1, clk_comp]; exact o1
  · rw [t2, clk_comp]; exact o2

end Go.Proofs.YtncdmccdclhokaaDoor
