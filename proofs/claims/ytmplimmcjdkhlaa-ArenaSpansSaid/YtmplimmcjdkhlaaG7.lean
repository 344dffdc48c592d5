/- Bits of whole numbers. Over any program. -/
import Derived.Test.YtmplimmcjdkhlaaG6
namespace Go.Xg
open Go Go.Sl

theorem ofInt_nat (n x : Nat) : BitVec.ofInt n (x : Int) = BitVec.ofNat n x := by
  apply BitVec.eq_of_toNat_eq
  rw [BitVec.toNat_ofInt, BitVec.toNat_ofNat]
  have : ((x : Int) % ((2 ^ n : Nat) : Int)).toNat = x % 2 ^ n := by
    rw [← Int.natCast_emod]; rfl
  simpa using this

theorem nat_of {x : Int} (h : 0 ≤ x) : ∃ n : Nat, x = n := ⟨x.toNat, by omega⟩

theorem band8 {x y : Nat} (hx : x < 256) (hy : y < 256) : band .u8 x y = ((x &&& y : Nat) : Int) := by
  show IntKind.u8.wrap _ = _
  rw [wrap_u8_mod]
  show ((BitVec.ofInt 8 (x : Int) &&& BitVec.ofInt 8 (y : Int)).toNat : Int) % 256 = _
  rw [ofInt_nat, ofInt_nat, BitVec.toNat_and, BitVec.toNat_ofNat, BitVec.toNat_ofNat, Nat.mod_eq_of_lt (by omega), Nat.mod_eq_of_lt (by omega)]
  have : x &&& y ≤ x := Nat.and_le_left
  omega

theorem bor8 {x y : Nat} (hx : x < 256) (hy : y < 256) : bor .u8 x y = ((x ||| y : Nat) : Int) := by
  show IntKind.u8.wrap _ = _
  rw [wrap_u8_mod]
  show ((BitVec.ofInt 8 (x : Int) ||| BitVec.ofInt 8 (y : Int)).toNat : Int) % 256 = _
  rw [ofInt_nat, ofInt_nat, BitVec.toNat_or, BitVec.toNat_ofNat, BitVec.toNat_ofNat, Nat.mod_eq_of_lt (by omega), Nat.mod_eq_of_lt (by omega)]
  have : x ||| y < 2 ^ 8 := Nat.or_lt_two_pow (by omega) (by omega)
  omega

theorem bxor8 {x y : Nat} (hx : x < 256) (hy : y < 256) : bxor .u8 x y = ((x ^^^ y : Nat) : Int) := by
  show IntKind.u8.wrap _ = _
  rw [wrap_u8_mod]
  show ((BitVec.ofInt 8 (x : Int) ^^^ BitVec.ofInt 8 (y : Int)).toNat : Int) % 256 = _
  rw [ofInt_nat, ofInt_nat, BitVec.toNat_xor, BitVec.toNat_ofNat, BitVec.toNat_ofNat, Nat.mod_eq_of_lt (by omega), Nat.mod_eq_of_lt (by omega)]
  have : x ^^^ y < 2 ^ 8 := Nat.xor_lt_two_pow (by omega) (by omega)
  omega

theorem bclr8 {x y : Nat} (hx : x < 256) (hy : y < 256) : bclr .u8 x y = ((x &&& (255 - y) : Nat) : Int) := by
  show IntKind.u8.wrap _ = _
  rw [wrap_u8_mod]
  show ((BitVec.ofInt 8 (x : Int) &&& ~~~ BitVec.ofInt 8 (y : Int)).toNat : Int) % 256 = _
  rw [ofInt_nat, ofInt_nat, BitVec.toNat_and, BitVec.toNat_not, BitVec.toNat_ofNat, BitVec.toNat_ofNat, Nat.mod_eq_of_lt (by omega), Nat.mod_eq_of_lt (by omega)]
  have : x &&& (2 ^ 8 - 1 - y) ≤ x := Nat.and_le_left
  have e : 2 ^ 8 - 1 - y = 255 - y := by omega
  rw [e] at this ⊢
  omega

theorem band8_le (x : Int) (m : Nat) (hm : m < 256) : 0 ≤ band .u8 x m ∧ band .u8 x m ≤ m := by
  have h : (BitVec.ofInt 8 x &&& BitVec.ofInt 8 (m : Int)).toNat ≤ m := by
    rw [BitVec.toNat_and, ofInt_nat, BitVec.toNat_ofNat]
    have : m % 2 ^ 8 = m := Nat.mod_eq_of_lt (by omega)
    rw [this]; exact Nat.and_le_right
  have e : band .u8 x m = ((BitVec.ofInt 8 x &&& BitVec.ofInt 8 (m : Int)).toNat : Int) := by
    show IntKind.u8.wrap _ = _
    rw [wrap_u8_mod]
    show ((BitVec.ofInt 8 x &&& BitVec.ofInt 8 (m : Int)).toNat : Int) % 256 = _
    omega
  omega

/-- Every number below a bound, by looking at each. -/
theorem below_dec {p : Nat → Prop} [DecidablePred p] {n : Nat} (h : (List.range n).all (fun i => decide (p i)) = true) {i : Nat} (hi : i < n) : p i := by
  have := List.all_eq_true.1 h i (List.mem_range.2 hi)
  simpa using this
end Go.Xg
