import Derived.Test.YthjhkondmobaeaaDoorMRam11
import Derived.Laws.StructEq
/- Structs of integers, compared with themselves. Over any program. -/
namespace Go.Xg
open Go Go.Sl
set_option linter.unusedVariables false
set_option linter.unusedSimpArgs false

def intTyE (P : Program) (t : TypeId) : Bool := match P.underlying t with
  | some (.int _) => true
  | _ => false
def aggInts (P : Program) (t : TypeId) (xs : Array Value) : Bool := (P.fieldsOf t).toList.all fun f => intTyE P f.type && (match xs[f.offset]? with
  | some (.int _ _) => true
  | _ => false)
end Go.Xg

/- A star over places: one part is taken out, changed, put back. Over any program. -/
namespace Go.Xg
open Go Go.Sl
set_option linter.unusedVariables false

def updF {α : Type _} (f : Nat → α) (i : Nat) (v : α) : Nat → α := fun j => if j = i then v else f j
def emp : HP := seps []
/-- One part a place. -/
def starN (n : Nat) (F : Nat → HP) : HP := seps ((List.range n).map F)

section
variable {g w : World} {L : List HP} {n k : Nat} {F : Nat → HP} {X : HP}
end
end Go.Xg

/- One part for each of a list; parts picked in order; a slot told in other words. Over any program. -/
namespace Go.Xg
open Go Go.Sl
set_option linter.unusedVariables false

/-- One part for each of a list. -/
def starL {α : Type} (f : α → HP) (l : List α) : HP := seps (l.map f)
section
variable {α : Type} {f : α → HP} {g w : World} {F : List HP} {l : List α}
end
section
variable {P : Program} {f : FuncId} {g : World} {F : List HP} {R : Ending → World → Prop} {k : List Item} {T : List Value} {L : List HP}
end
end Go.Xg

/- append to a slice that is full: what was stays; append of several records. Over any program. -/
namespace Go.Xg
open Go Go.Sl
set_option linter.unusedVariables false
set_option linter.unusedSimpArgs false

section
variable {P : Program} {g : World} {F : List HP} {T : List Value} {L : List HP} {K : List Value → List HP → Prop}
end
end Go.Xg
