/- Short names for printed proofs. -/
import Derived.Test.YtmplimmcjdkhlaaG1
namespace Go.Xg
open Go.Sl
abbrev tu : Value := .tuple #[]
abbrev iv (n : Int) : Value := .int .i64 n
abbrev uv (n : Int) : Value := .int .u8 n
abbrev pv (b o : Nat) : Value := .pointer (some ⟨b, o, none⟩)
end Go.Xg
namespace Xs
open Go Go.Sl Go.Xg
variable {P : Program} {f : FuncId} {g : World} {F : List HP} {R : Ending → World → Prop} {k : List Item} {T : List Value} {L L' : List HP}
/-- A round's end: the other slots are what they are. -/
theorem same {HT : (Nat → Value) → List Value} {HL : (Nat → Value) → List HP} (eL : L = HL (fun j => T.getD j undef)) (h : ∀ J, At P f g F R k (HT J) (HL J)) (eT : T = HT (fun j => T.getD j undef)) : At P f g F R k T L := by
  rw [eL]
  generalize (fun j => T.getD j undef) = J at *
  subst eT
  exact h J
end Xs
