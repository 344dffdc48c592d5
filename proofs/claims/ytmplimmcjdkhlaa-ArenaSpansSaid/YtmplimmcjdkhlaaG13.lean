/- Parts of what is only read. Over any program. -/
import Derived.Test.YtmplimmcjdkhlaaG12
namespace Go.Xg
open Go Go.Sl
set_option linter.unusedVariables false

theorem add_add' (a : Addr) (i j : Nat) : (a.add i).add j = a.add (i + j) := by
  unfold Addr.add
  by_cases hi : i = 0
  · subst hi; simp
  · by_cases hj : j = 0
    · subst hj; simp [hi]
    · have : i + j ≠ 0 := by omega
      simp [hi, hj, Nat.add_assoc]

theorem reads_sub {A : HP} {sz n c : Nat} {a : Option Addr} {vs : List Value} (hr : Reads A sz (.slice a n c) n vs) (l : Nat) (hl : l ≤ n) (hc : n ≤ c) :
    Reads A sz (.slice (subA a c l sz) (n - l) (c - l)) (n - l) (vs.drop (l * sz)) := by
  refine ⟨fun g F w hS => ?_⟩
  obtain ⟨a', c', e, h1, h2⟩ := hr.run g F w hS
  cases e
  refine ⟨_, _, rfl, ?_, fun j u hu => ?_⟩
  · rw [List.length_drop, h1, ← Nat.sub_mul]
  · rw [List.getElem?_drop] at hu
    obtain ⟨ad, rfl, h3⟩ := h2 _ _ hu
    unfold subA
    have hlt := (List.getElem?_eq_some_iff.1 hu).1
    rw [h1] at hlt
    have hne : l < n := by
      rcases Nat.lt_or_ge l n with h | h
      · exact h
      · exfalso
        obtain rfl : l = n := by omega
        omega
    rw [if_neg (by omega)]
    exact ⟨ad.add (l * sz), rfl, by rw [add_add']; exact h3⟩

theorem reads_sub1 {A : HP} {n c : Nat} {a : Option Addr} {kd : IntKind} {xs : List Int} (hr : Reads A 1 (.slice a n c) n (xs.map (Value.int kd))) (l : Nat) (hl : l ≤ n) (hc : n ≤ c) :
    Reads A 1 (.slice (subA a c l 1) (n - l) (c - l)) (n - l) ((xs.drop l).map (Value.int kd)) := by
  have := reads_sub hr l hl hc
  rwa [Nat.mul_one, ← List.map_drop] at this

theorem bor_add {k : IntKind} {lo hi : Nat} (hlo : lo < 256) (h : k = .u16 ∧ hi < 256 ∨ k = .i64 ∧ hi < 65536) : bor k lo ((hi : Int) * 256) = (lo : Int) + (hi : Int) * 256 := by
  have e : ((hi : Int) * 256) = ((hi * 256 : Nat) : Int) := by simp
  have o : lo ||| hi * 256 = lo + hi * 256 := by
    have := Nat.shiftLeft_add_eq_or_of_lt (a := hi) (b := lo) (i := 8) (by omega)
    rw [Nat.shiftLeft_eq] at this
    rw [Nat.or_comm]
    have e8 : 2 ^ 8 = 256 := rfl
    rw [e8] at this
    omega
  rw [e]
  rcases h with ⟨rfl, h⟩ | ⟨rfl, h⟩
  · show IntKind.u16.wrap _ = _
    rw [wrap_u16_mod]
    show ((BitVec.ofInt 16 (lo : Int) ||| BitVec.ofInt 16 ((hi * 256 : Nat) : Int)).toNat : Int) % 65536 = _
    rw [ofInt_nat, ofInt_nat, BitVec.toNat_or, BitVec.toNat_ofNat, BitVec.toNat_ofNat, Nat.mod_eq_of_lt (by omega), Nat.mod_eq_of_lt (by omega), o]
    omega
  · show IntKind.i64.wrap _ = _
    have e2 : (BitVec.ofInt IntKind.i64.bits (lo : Int) ||| BitVec.ofInt IntKind.i64.bits ((hi * 256 : Nat) : Int)).toNat = lo + hi * 256 := by
      show (BitVec.ofInt 64 (lo : Int) ||| BitVec.ofInt 64 ((hi * 256 : Nat) : Int)).toNat = _
      rw [ofInt_nat, ofInt_nat, BitVec.toNat_or, BitVec.toNat_ofNat, BitVec.toNat_ofNat, Nat.mod_eq_of_lt (by omega), Nat.mod_eq_of_lt (by omega), o]
    rw [e2, wrap_i64_in (by omega)]
    simp

/-- What is known of an owned slice's lengths, for a contract. -/
theorem Does.own {P : Program} {f : FuncId} {args : List Value} {pre : List HP} {post : Value → List HP → Prop} {E sz n c : Nat} {a : Option Addr} {vs : List Value} (i : Nat) (hL : nth pre i = some (ownS E sz (.slice a n c) n vs))
    (h : n ≤ c → c ≤ maxLen → Does P f args pre post) : Does P f args pre post :=
  ⟨fun g F w hS => let ⟨h1, h2, _⟩ := own_some hS i hL; (h h1 h2).run g F w hS⟩

theorem open_len_cap {H : Type} {enc : TypeId × Value → H} {P : Program} {w : World} {sp : Nat → Bool} {held : Bool} {t e : TypeId} {kd : IntKind} {a : Option Addr} {n c : Nat} {d : DataW H} {ps : List MemPlace}
    (ht : P.underlying t = some (.slice e)) (he : P.underlying e = some (.int kd)) (hce : P.cellsOf e = 1) (h : DataW.Trod enc P w 0 sp held t (.slice a n c) d ps) : n ≤ c := by
  obtain ⟨fuel, hf⟩ := h
  rcases ChangeShapes.open_ints ht he hce hf with ⟨hcs, _⟩ | ⟨x, l, c', zs, hcs, _, hl, hm, hz, _, hcell, hwz⟩
  · simp [Value.cells] at hcs
    obtain ⟨rfl, rfl, rfl⟩ := hcs
    exact Nat.le_refl _
  · simp [Value.cells] at hcs
    obtain ⟨rfl, rfl, rfl⟩ := hcs
    exact hl
end Go.Xg
