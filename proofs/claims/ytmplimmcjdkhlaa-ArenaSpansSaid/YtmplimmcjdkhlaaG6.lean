/- Symbolic running: loops. Over any program. -/
import Derived.Test.YtmplimmcjdkhlaaG5
namespace Go.Xg
open Go Go.Sl
set_option linter.unusedVariables false

def setAll (T : List Value) : List (Nat × Value) → List Value
  | [] => T
  | (i, v) :: l => setAll (T.set i v) l

/-- A frame at a loop's head: these slots are spelled; those that the body writes besides are anything. -/
def headT (T : List Value) (js : List Nat) (ov : List (Nat × Value)) (J : Nat → Value) : List Value := setAll (setAll T (js.map fun j => (j, J j))) ov

/-- What a reading comes to when the loads, in turn, give these values; and where it loads. -/
def feed {α : Type} (P : Program) : Sem α → List Value → Option (α × List Addr)
  | .pure a, [] => some (a, [])
  | .load _ a k, v :: vs => (feed P (k v) vs).map fun x => (x.1, a :: x.2)
  | .program k, vs => feed P (k P) vs
  | .mark _ k, vs => feed P k vs
  | _, _ => none

def CellsAre (w : World) : List Addr → List Value → Prop
  | a :: as, v :: vs => w.cell? a = some v ∧ CellsAre w as vs
  | _, _ => True

theorem feed_run {α : Type} {P : Program} {w : World} : ∀ (s : Sem α) (vs : List Value) (x : α) (as : List Addr), feed P s vs = some (x, as) → CellsAre w as vs → s.run P w = .ok x w := by
  intro s
  induction s with
  | pure a => intro vs x as h _; cases vs <;> simp [feed] at h; simp [Sem.run, h.1]
  | load m a k ih =>
    intro vs x as h hc
    cases vs with
    | nil => simp [feed] at h
    | cons v vs =>
      simp only [feed, Option.map_eq_some_iff] at h
      obtain ⟨⟨y, bs⟩, h1, h2⟩ := h
      cases h2
      obtain ⟨hc1, hc2⟩ := hc
      simp only [Sem.run, hc1]
      exact ih v vs y bs h1 hc2
  | program k ih => intro vs x as h hc; simp only [feed] at h; simp only [Sem.run]; exact ih P vs x as h hc
  | mark m k ih => intro vs x as h hc; simp only [feed] at h; simp only [Sem.run]; exact ih vs x as h hc
  | _ => intro vs x as h; simp [feed] at h

structure AllCells (g : World) (F L : List HP) (as : List Addr) (vs : List Value) : Prop where
  run : ∀ w, SL g (L ++ F) w → CellsAre w as vs

theorem cells_nil {g : World} {F L : List HP} : AllCells g F L [] [] := ⟨fun _ _ => trivial⟩
theorem cells_cons {g : World} {F L : List HP} {as : List Addr} {vs cs : List Value} {b off : Nat} {E : TypeId} {v : Value} (i : Nat) (hL : nth L i = some (row b E cs)) (hc : cs[off]? = some v) (h : AllCells g F L as vs) :
    AllCells g F L (⟨b, off, none⟩ :: as) (v :: vs) := ⟨fun w hS => ⟨cell_now i hL hc w hS, h.run w hS⟩⟩

section
variable {P : Program} {f : FuncId} {g : World} {F : List HP} {R : Ending → World → Prop} {k : List Item} {T T' : List Value} {L L' : List HP}

theorem Does.mono {args : List Value} {pre : List HP} {post post' : Value → List HP → Prop} (h : Does P f args pre post) (hp : ∀ v ps, post v ps → post' v ps) : Does P f args pre post' :=
  ⟨fun g F w hS => (h.run g F w hS).mono fun _ _ ⟨v, ps, h1, h2, h3⟩ => ⟨v, ps, hp v ps h1, h2, h3⟩⟩

theorem at_ret_ps {fn : Func} {v : Value} {post : Value → List HP → Prop} (is : List Nat) (ps : List HP) (hf : P.funcs[f]? = some fn) (hr : ∀ w, (results fn T.toArray).run P w = .ok v w)
    (hi : okPick is L.length = true) (hps : pick is L = ps) (hp : post v ps) : At P f g F (RPost g F post) (.code .ret :: k) T L :=
  at_ret_spec is hf hr hi (by rw [hps]; exact hp)
theorem at_end_ps {fn : Func} {v : Value} {post : Value → List HP → Prop} (is : List Nat) (ps : List HP) (hf : P.funcs[f]? = some fn) (hr : ∀ w, (results fn T.toArray).run P w = .ok v w)
    (hi : okPick is L.length = true) (hps : pick is L = ps) (hp : post v ps) : At P f g F (RPost g F post) [] T L :=
  at_end_spec is hf hr hi (by rw [hps]; exact hp)

theorem at_ret_feed {fn : Func} {v : Value} {post : Value → List HP → Prop} (as : List Addr) (vs : List Value) (is : List Nat) (ps : List HP) (hf : P.funcs[f]? = some fn)
    (hr : feed P (results fn T.toArray) vs = some (v, as)) (hc : AllCells g F L as vs)
    (hi : okPick is L.length = true) (hps : pick is L = ps) (hp : post v ps) : At P f g F (RPost g F post) (.code .ret :: k) T L :=
  at_ret hf (fun w hS => feed_run _ _ _ _ hr (hc.run w hS)) fun _ hS => ⟨v, pick is L, by rw [hps]; exact hp, rfl, sl_keep is hi hS⟩

theorem at_rounds_inv {α : Type _} {body : Code} (I : α → Prop) (μ : α → Nat) (HT : α → List Value) (HL : α → List HP) (x : α) (eT : T = HT x) (eL : L = HL x) (hI : I x)
    (h : ∀ x, I x → (∀ y, I y → μ y < μ x → At P f g F R (.code body :: .inLoop body :: k) (HT y) (HL y)) → At P f g F R (.code body :: .inLoop body :: k) (HT x) (HL x)) :
    At P f g F R (.code (.loop body) :: k) T L := by
  subst eT; subst eL
  refine at_loop ?_
  have key : ∀ n x, I x → μ x = n → At P f g F R (.code body :: .inLoop body :: k) (HT x) (HL x) := by
    intro n
    induction n using Nat.strongRecOn with
    | _ n ih => intro x hi hx; exact h x hi fun y hi' hy => ih (μ y) (hx ▸ hy) y hi' rfl
  exact key _ x hI rfl
end
end Go.Xg
