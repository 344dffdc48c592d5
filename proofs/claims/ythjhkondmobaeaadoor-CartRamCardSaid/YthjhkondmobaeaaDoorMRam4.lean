import Derived.Test.YthjhkondmobaeaaDoorMRam3
import Derived.WalkKit
import Derived.Below
import Derived.Lib.Hide
import Derived.Deep.QuietTactic
import Derived.BigQuiet
/- Separation logic over worlds: lists of heap assertions, with framing by a tail of the list. No program in sight. -/
namespace Go.Sl

abbrev Hp := Nat → Option Obj
abbrev HP := Hp → Prop

def disj (m n : Hp) : Prop := ∀ b, m b = none ∨ n b = none
def join (m n : Hp) : Hp := fun b => match m b with | some o => some o | none => n b

theorem disj_symm {m n : Hp} (h : disj m n) : disj n m := fun b => (h b).symm

theorem join_comm {m n : Hp} (h : disj m n) : join m n = join n m := by
  funext b
  unfold join
  rcases h b with h | h <;> cases hm : m b <;> cases hn : n b <;> simp_all

theorem join_assoc (a b c : Hp) : join (join a b) c = join a (join b c) := by
  funext k
  unfold join
  cases a k <;> simp

theorem disj_join_left {a b c : Hp} : disj (join a b) c ↔ disj a c ∧ disj b c := by
  constructor
  · intro h
    constructor
    · intro k
      rcases h k with h | h
      · left; unfold join at h; cases ha : a k <;> simp_all
      · exact .inr h
    · intro k
      rcases h k with h | h
      · left; unfold join at h; cases ha : a k <;> simp_all
      · exact .inr h
  · rintro ⟨h1, h2⟩ k
    rcases h1 k with h | h
    · rcases h2 k with h' | h'
      · left; unfold join; simp [h, h']
      · exact .inr h'
    · exact .inr h

theorem disj_join_right {a b c : Hp} : disj a (join b c) ↔ disj a b ∧ disj a c := by
  constructor
  · intro h
    have := disj_join_left.1 (disj_symm h)
    exact ⟨disj_symm this.1, disj_symm this.2⟩
  · rintro ⟨h1, h2⟩
    exact disj_symm (disj_join_left.2 ⟨disj_symm h1, disj_symm h2⟩)

def sep (A B : HP) : HP := fun m => ∃ x y, A x ∧ B y ∧ disj x y ∧ m = join x y

def emp : HP := fun m => ∀ b, m b = none

def seps : List HP → HP
  | [] => emp
  | A :: L => sep A (seps L)

theorem sep_swap {A B C : HP} {m : Hp} (h : sep A (sep B C) m) : sep B (sep A C) m := by
  obtain ⟨x, y, ha, ⟨u, v, hb, hc, d, rfl⟩, d2, rfl⟩ := h
  obtain ⟨d3, d4⟩ := disj_join_right.1 d2
  refine ⟨u, join x v, hb, ⟨x, v, ha, hc, d4, rfl⟩, disj_join_right.2 ⟨disj_symm d3, d⟩, ?_⟩
  rw [← join_assoc, ← join_assoc, join_comm d3]

theorem sep_mono {A B C D : HP} {m : Hp} (h : sep A B m) (h1 : ∀ m, A m → C m) (h2 : ∀ m, B m → D m) : sep C D m := by
  obtain ⟨x, y, ha, hb, d, e⟩ := h
  exact ⟨x, y, h1 _ ha, h2 _ hb, d, e⟩

theorem seps_perm {L K : List HP} (h : L.Perm K) : ∀ {m}, seps L m → seps K m := by
  induction h with
  | nil => intro m h; exact h
  | cons a _ ih => intro m h; exact sep_mono h (fun _ h => h) fun _ => ih
  | swap a b l => intro m h; exact sep_swap h
  | trans _ _ ih1 ih2 => intro m h; exact ih2 (ih1 h)

theorem join_emp_left {x y : Hp} (h : emp x) : join x y = y := by funext k; simp [join, h k]
theorem seps_append {L K : List HP} : ∀ {m}, seps (L ++ K) m ↔ sep (seps L) (seps K) m := by
  induction L with
  | nil =>
    intro m
    constructor
    · intro h; exact ⟨fun _ => none, m, fun _ => rfl, h, fun _ => .inl rfl, by rw [join_emp_left]; exact fun _ => rfl⟩
    · rintro ⟨x, y, hx, hy, d, rfl⟩
      rw [join_emp_left hx]; exact hy
  | cons A L ih =>
    intro m
    constructor
    · rintro ⟨x, y, ha, hy, d, rfl⟩
      obtain ⟨u, v, hu, hv, d2, rfl⟩ := ih.1 hy
      obtain ⟨d3, d4⟩ := disj_join_right.1 d
      exact ⟨join x u, v, ⟨x, u, ha, hu, d3, rfl⟩, hv, disj_join_left.2 ⟨d4, d2⟩, by rw [join_assoc]⟩
    · rintro ⟨p, v, ⟨x, u, ha, hu, d3, rfl⟩, hv, d, rfl⟩
      obtain ⟨d4, d2⟩ := disj_join_left.1 d
      exact ⟨x, join u v, ha, ih.2 ⟨u, v, hu, hv, d2, rfl⟩, disj_join_right.2 ⟨d3, d4⟩, by rw [join_assoc]⟩

/-- One block, whole. -/
def pts (b : Nat) (o : Obj) : HP := fun m => m = fun k => if k = b then some o else none

/-- A row of cells, nothing of it frozen. -/
abbrev row (b : Nat) (E : TypeId) (cs : List Value) : HP := pts b (.cells cs.toArray E)

/-- All that was there in a world, as it was there. -/
def old (w0 : World) : HP := fun m => m = fun k => w0.heap[k]?

/-- The heap of 'w' holds these, side by side; the streams are those of 'g'. -/
def SL (g : World) (L : List HP) (w : World) : Prop :=
  w.os = g.os ∧ w.tape = g.tape ∧ w.output = g.output ∧ ∃ m, (∀ b o, m b = some o → w.heap[b]? = some o) ∧ seps L m

theorem SL.perm {g w : World} {L K : List HP} (h : SL g L w) (p : L.Perm K) : SL g K w := by
  obtain ⟨h1, h2, h3, m, hm, hs⟩ := h
  exact ⟨h1, h2, h3, m, hm, seps_perm p hs⟩

theorem SL.tail {g w : World} {A : HP} {L : List HP} (h : SL g (A :: L) w) : SL g L w := by
  obtain ⟨h1, h2, h3, m, hm, x, y, _, hy, d, rfl⟩ := h
  refine ⟨h1, h2, h3, y, fun b o hb => hm b o ?_, hy⟩
  rcases d b with hd | hd
  · simp [join, hd, hb]
  · rw [hd] at hb; cases hb

/-- The part with number i, and the rest. -/
def pull {α : Type} : Nat → List α → List α
  | _, [] => []
  | 0, a :: l => a :: l
  | i + 1, a :: l => match pull i l with
    | [] => [a]
    | b :: k => b :: a :: k

/-- Several parts to the front, in this order (the numbers: in the list as it stands). -/
def sel {α : Type} (is : List Nat) (l : List α) : List α :=
  is.filterMap (l[·]?) ++ ((List.range l.length).filter (fun i => !is.contains i)).filterMap (l[·]?)

theorem SL.mono {g w : World} {A B : HP} {L : List HP} (h : SL g (A :: L) w) (hm : ∀ m, A m → B m) : SL g (B :: L) w := by
  obtain ⟨h1, h2, h3, m, hh, hs⟩ := h
  exact ⟨h1, h2, h3, m, hh, sep_mono hs hm fun _ h => h⟩

theorem SL.flat {g w : World} {K L : List HP} : SL g (seps K :: L) w ↔ SL g (K ++ L) w := by
  constructor
  · rintro ⟨h1, h2, h3, m, hh, hs⟩; exact ⟨h1, h2, h3, m, hh, seps_append.2 hs⟩
  · rintro ⟨h1, h2, h3, m, hh, hs⟩; exact ⟨h1, h2, h3, m, hh, seps_append.1 hs⟩

theorem seps_mem {L : List HP} {A : HP} (h : A ∈ L) : ∀ {m}, seps L m → ∃ x, A x ∧ ∀ b o, x b = some o → m b = some o := by
  induction L with
  | nil => cases h
  | cons B L ih =>
    rintro m ⟨x, y, hx, hy, d, rfl⟩
    cases h with
    | head => exact ⟨x, hx, fun b o hb => by simp [join, hb]⟩
    | tail _ h =>
      obtain ⟨z, hz, hzz⟩ := ih h hy
      refine ⟨z, hz, fun b o hb => ?_⟩
      have := hzz b o hb
      rcases d b with hd | hd
      · simp [join, hd, this]
      · rw [hd] at this; cases this

/-- What the heap holds at a block of the list. -/
theorem SL.get {g w : World} {L : List HP} {b : Nat} {o : Obj} (h : SL g L w) (hb : pts b o ∈ L) : w.heap[b]? = some o := by
  obtain ⟨_, _, _, m, hm, hs⟩ := h
  obtain ⟨x, hx, hxx⟩ := seps_mem hb hs
  exact hm b o (hxx b o (by rw [hx]; simp))

theorem SL.drew {g w : World} {L : List HP} (h : SL g L w) : SL g L w.drew := h

/-- A new block. -/
theorem SL.alloc {g w : World} {L : List HP} (h : SL g L w) (o : Obj) : SL g (pts w.heap.size o :: L) (w.alloc o) := by
  obtain ⟨h1, h2, h3, m, hm, hs⟩ := h
  have hlt : ∀ b o, m b = some o → b < w.heap.size := fun b o hb => by
    have := hm b o hb
    exact (Array.getElem?_eq_some_iff.1 this).1
  refine ⟨h1, h2, h3, join (fun k => if k = w.heap.size then some o else none) m, ?_, _, m, rfl, hs, ?_, rfl⟩
  · intro b o' hb
    unfold join at hb
    by_cases e : b = w.heap.size
    · subst e; simp at hb; subst hb; exact heap_alloc_new w o
    · simp [e] at hb
      rw [RowKit.Below.heap_alloc w o b (hlt b o' hb)]; exact hm b o' hb
  · intro b
    by_cases e : b = w.heap.size
    · subst e
      cases hb : m w.heap.size with
      | none => exact .inr rfl
      | some o' => have := hlt _ _ hb; omega
    · left; simp [e]

/-- One block is written. -/
theorem SL.put {g w w' : World} {L : List HP} {b : Nat} {o o' : Obj} (h : SL g (pts b o :: L) w) (h1 : w'.os = w.os) (h2 : w'.tape = w.tape) (h3 : w'.output = w.output)
    (hb : w'.heap[b]? = some o') (hk : ∀ k, k ≠ b → w'.heap[k]? = w.heap[k]?) : SL g (pts b o' :: L) w' := by
  obtain ⟨e1, e2, e3, m, hm, x, y, hx, hy, d, rfl⟩ := h
  have hyb : y b = none := by
    rcases d b with h | h
    · rw [hx] at h; simp at h
    · exact h
  refine ⟨h1.trans e1, h2.trans e2, h3.trans e3, join (fun k => if k = b then some o' else none) y, ?_, _, y, rfl, hy, ?_, rfl⟩
  · intro k q hq
    unfold join at hq
    by_cases e : k = b
    · subst e; simp at hq; subst hq; exact hb
    · simp [e] at hq
      rw [hk k e]
      refine hm k q ?_
      rw [hx]; simp [join, e, hq]
  · intro k
    by_cases e : k = b
    · subst e; exact .inr hyb
    · left; simp [e]

theorem SL.setCell {g w : World} {L : List HP} {b i : Nat} {E : TypeId} {cs : List Value} (h : SL g (row b E cs :: L) w) (v : Value) :
    SL g (row b E (cs.set i v) :: L) (w.setCell ⟨b, i, none⟩ v) := by
  have hb := h.get (b := b) (o := .cells cs.toArray E) (.head _)
  refine SL.put h rfl rfl rfl ?_ fun k hk => heap_setCell_other w ⟨b, i, none⟩ k v hk
  rw [heap_setCell_same w b i cs.toArray E v hb]
  simp

theorem SL.setRow {g w : World} {L : List HP} {b : Nat} {E : TypeId} {cs : List Value} (h : SL g (row b E cs :: L) w) (cs' : List Value) :
    SL g (row b E cs' :: L) (w.setRow b cs'.toArray) := by
  have hb := h.get (b := b) (o := .cells cs.toArray E) (.head _)
  have hlt : b < w.heap.size := (Array.getElem?_eq_some_iff.1 hb).1
  have hbb : w.heap[b] = .cells cs.toArray E (0, 0) := by
    have := Array.getElem?_eq_some_iff.1 hb; exact this.2
  refine SL.put h rfl rfl rfl ?_ fun k hk => ?_
  · simp [World.setRow, Array.getElem?_modify, hb]
  · simp only [World.setRow, Array.getElem?_modify]
    rw [if_neg (by omega)]

theorem SL.cell {g w : World} {L : List HP} {b : Nat} {E : TypeId} {cs : List Value} (h : SL g L w) (hb : row b E cs ∈ L) (i : Nat) : w.cell? ⟨b, i, none⟩ = cs[i]? := by
  rw [cell_of_row w b i cs.toArray E (0, 0) (h.get hb)]; simp

theorem SL.frozen {g w : World} {L : List HP} {b : Nat} {E : TypeId} {cs : List Value} (h : SL g L w) (hb : row b E cs ∈ L) (i : Nat) : w.frozen? ⟨b, i, none⟩ = false :=
  frozen_of_row w b i cs.toArray E (h.get hb)

end Go.Sl
