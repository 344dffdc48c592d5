/- Short names for printed proofs. -/
import Derived.Test.YtkfclamiendamaaG1
namespace Go.Xg
open Go.Sl
abbrev tu : Value := .tuple #[]
abbrev iv (n : Int) : Value := .int .i64 n
abbrev uv (n : Int) : Value := .int .u8 n
abbrev pv (b o : Nat) : Value := .pointer (some ⟨b, o, none⟩)
end Go.Xg
namespace Xs
open Go Go.Sl Go.Xg
variable {P : Program} {f : FuncId} {g : World} {F : List HP} {T : List Value} {L : List HP} {all rem : List Oper} {o : Oper} {K : List Value → List HP → Prop}
theorem op {d : Nat} (v : Value) (h : Ops P g F all K rem (T.set d v) L) (hw : Region.wanted o (yielded all.toArray T.toArray) = true := by kernel_rfl) (hd : o.dst = some d := by rfl) (he : ∀ w, (execOp (act T).eval o).run P w = .ok (.value v) w := by exact fun _ => by kernel_rfl) : Ops P g F all K (o :: rem) T L :=
  Go.Xg.ops_op hw (Go.Xg.opx_pure v hd he h)
end Xs
