/- A cut: what a piece of code does is shown once, and what stands behind it is walked once. -/
import Derived.Test.YtmplimmcjdkhlaaG6
namespace Go.Xg
open Go Go.Sl
section
variable {P : Program} {f : FuncId} {g : World} {F : List HP} {R : Ending → World → Prop} {k : List Item} {T : List Value} {L : List HP}
theorem at_cut {α : Type _} {c : Code} (I : α → Prop) (HT : α → List Value) (HL : α → List HP)
    (h1 : ∀ k', (∀ y, I y → At P f g F R k' (HT y) (HL y)) → At P f g F R (.code c :: k') T L)
    (h2 : ∀ y, I y → At P f g F R k (HT y) (HL y)) : At P f g F R (.code c :: k) T L := h1 k h2
theorem at_cut2 {α : Type _} {c d : Code} (I : α → Prop) (HT : α → List Value) (HL : α → List HP)
    (h1 : ∀ k', (∀ y, I y → At P f g F R k' (HT y) (HL y)) → At P f g F R (.code c :: .code d :: k') T L)
    (h2 : ∀ y, I y → At P f g F R k (HT y) (HL y)) : At P f g F R (.code c :: .code d :: k) T L := h1 k h2
end
end Go.Xg
