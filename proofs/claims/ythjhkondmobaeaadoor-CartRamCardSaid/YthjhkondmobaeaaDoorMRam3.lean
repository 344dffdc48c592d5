import Derived.Test.YthjhkondmobaeaaDoorMRam2
import Derived.WalkKit
import Derived.OrdersHeld
import Derived.Lib.Hide
import Derived.Deep.QuietTactic
import Derived.BigQuiet
/- A region that draws its order, walked once, along a plan: what only reads is taken as early as it may come; what acts comes in its forced order. No program in sight. -/
namespace Go.Sl
open Go

def NoQ : Exit → Act → World → Prop := fun _ _ _ => False

theorem wp_weak {P : Program} {o : Oper} {a : Act} {w : World} {K : Act → World → Prop} {Q Q' : Exit → Act → World → Prop} (hq : ∀ e a w, Q e a w → Q' e a w)
    (h : o.wp P a w K Q) : o.wp P a w K Q' := by
  unfold Oper.wp at *
  generalize (execOp a.eval o).run P w = r at *
  cases r with
  | ok n w' =>
    cases n <;> simp only [Oper.upon] at h ⊢ <;>
      first
        | exact h
        | exact Calls.mono h (fun e w'' he => by
            cases e
            · exact he
            · exact hq _ _ _ he
            · obtain ⟨a, w, h⟩ := he; exact ⟨a, w, hq _ _ _ h⟩)
  | halt x w' => cases x <;> simp only [Oper.upon] at h ⊢ <;> first | exact h | exact hq _ _ _ h

theorem wpOp_weak {P : Program} {ops : Array Oper} {i : Nat} {a : Act} {w : World} {K : Act → World → Prop} {Q Q' : Exit → Act → World → Prop} (hq : ∀ e a w, Q e a w → Q' e a w)
    (h : wpOp P ops Q i K a w) : wpOp P ops Q' i K a w := by
  unfold wpOp at *
  split
  · rename_i ho; simp only [ho] at h; exact h
  · rename_i o ho
    simp only [ho] at h
    split
    · rename_i hw
      simp only [hw, if_true] at h
      rcases h with h | ⟨h, a, w, h'⟩
      · exact .inl (wp_weak hq h)
      · exact .inr ⟨h, a, w, hq _ _ _ h'⟩
    · rename_i hw; simp only [hw] at h; exact h

/-- What one operation does in one world, where it leaves the world alone. -/
def yieldsUpon (P : Program) (w : World) (v : Value) : Result Next → Prop
  | .ok (.value u) w' => w' = w ∧ u = v
  | .ok .skip w' => w' = w ∧ v = undef
  | .ok (.enter f args) w' => w' = w ∧ Calls P f args w (fun e w'' => e = .returned v ∧ w'' = w)
  | _ => False

def yieldsAt (P : Program) (o : Oper) (a : Act) (w : World) (v : Value) : Prop := yieldsUpon P w v ((execOp a.eval o).run P w)

section
variable {P : Program} {ops : Array Oper} {S : World → Prop} {T : Nat → Bool} {Q0 : Act → World → Prop}

def Yl (P : Program) (ops : Array Oper) (S : World → Prop) (o : Oper) (v : Value) (a : Act) : Prop :=
  (Region.wanted o (yielded ops a.tmps) = true ∧ ∀ w, S w → yieldsAt P o a w v) ∨
  (Region.wanted o (yielded ops a.tmps) = false ∧ v = undef)

theorem Yl.wpOp {i : Nat} {o : Oper} {v : Value} {a : Act} (hi : ops[i]? = some o) (hy : Yl P ops S o v a)
    {K : Act → World → Prop} {w : World} (hS : S w) (h : K (a.put o.dst v) w) : wpOp P ops NoQ i K a w := by
  unfold Go.wpOp
  simp only [hi]
  rcases hy with ⟨hw, hv⟩ | ⟨hw, rfl⟩
  · simp only [hw, if_true]
    refine .inl ?_
    have h1 := hv w hS
    unfold yieldsAt at h1
    unfold Oper.wp
    generalize (execOp a.eval o).run P w = r at *
    cases r with
    | ok n w' =>
      cases n <;> simp only [yieldsUpon] at h1 <;> simp only [Oper.upon]
      case value u => obtain ⟨rfl, rfl⟩ := h1; exact h
      case skip => obtain ⟨rfl, rfl⟩ := h1; exact h
      case enter f args =>
        obtain ⟨rfl, hc⟩ := h1
        refine hc.mono fun e w'' ⟨he, hw''⟩ => ?_
        subst he; subst hw''; exact h
    | halt x w' => simp only [yieldsUpon] at h1
  · simp only [hw, Bool.false_eq_true, if_false]; exact h

theorem Yl.of_same {o : Oper} {v : Value} {a a' : Act} (hy : Yl P ops S o v a) (he : execOp a'.eval o = execOp a.eval o)
    (hw : Region.wanted o (yielded ops a'.tmps) = Region.wanted o (yielded ops a.tmps)) : Yl P ops S o v a' := by
  unfold Yl yieldsAt at *
  rw [he, hw]
  exact hy

theorem wpOp_putYl {j : Nat} {oi oj : Oper} {v : Value} (hj : ops[j]? = some oj) (hap : oi.apart ops oj = true)
    (hsi : ∀ cs b, oi.op ≠ .select cs b) (hsj : ∀ cs b, oj.op ≠ .select cs b) {K : Act → World → Prop} {a : Act} {w : World}
    (hy : Yl P ops S oi v a) (h : wpOp P ops NoQ j K (a.put oi.dst v) w) :
    wpOp P ops NoQ j (fun a' w' => Yl P ops S oi v a' ∧ K (a'.put oi.dst v) w') a w := by
  obtain ⟨h1, h2, h3⟩ := Oper.apart_spec hap
  have keep : ∀ (a : Act), Yl P ops S oi v a → ∀ u, Yl P ops S oi v (a.put oj.dst u) := fun a hy u =>
    hy.of_same (execOp_put oi hsi a oj.dst u h3) (wanted_put oi a oj.dst u h3)
  have keepD : ∀ d, Yl P ops S oi v { a with defers := d :: a.defers } := fun d => hy.of_same rfl rfl
  unfold wpOp at *
  simp only [hj] at *
  rw [wanted_put oj a oi.dst v h1] at h
  split
  · rename_i hw
    simp only [hw, if_true] at h
    rcases h with h | ⟨hasks, hlets⟩
    case inr => exact .inr ⟨by unfold Oper.asks at *; rw [execOp_put oj hsj a oi.dst v h1] at hasks; exact hasks, hlets⟩
    refine .inl ?_
    unfold Oper.wp at *
    rw [execOp_put oj hsj a oi.dst v h1] at h
    generalize (execOp a.eval oj).run P w = r at *
    cases r with
    | ok n w' =>
      cases n <;> simp only [Oper.upon] at h ⊢
      case value u => exact ⟨keep a hy u, by rw [← Act.put_comm a v u h2]; exact h⟩
      case skip => exact ⟨keep a hy _, by rw [← Act.put_comm a v undef h2]; exact h⟩
      case defer d =>
        refine ⟨keep _ (keepD d) _, ?_⟩
        rw [← Act.put_comm _ v undef h2, ← Act.put_defers]
        exact h
      case enter f args =>
        refine Calls.mono h fun e w'' he => ?_
        cases e with
        | returned u => exact ⟨keep a hy u, by rw [← Act.put_comm a v u h2]; exact he⟩
        | panicked c => exact he
        | outgrown => exact he
      case row row args => exact Rows.mono h fun u w'' he => ⟨keep a hy u, by rw [← Act.put_comm a v u h2]; exact he⟩
    | halt x w' => cases x <;> simp only [Oper.upon] at h ⊢ <;> exact h
  · rename_i hw
    simp only [hw] at h
    exact ⟨keep a hy _, by rw [← Act.put_comm a v undef h2]; exact h⟩

def wpAnyT (P : Program) (ops : Array Oper) (Q0 : Act → World → Prop) (T : Nat → Bool) (S : World → Prop) : Nat → Array Bool → Act → World → Prop
  | 0, listed, a, w => Region.ready .any ops listed = [] ∧ Q0 a w
  | fuel + 1, listed, a, w =>
    (Region.ready .any ops listed = [] → Q0 a w) ∧
    ∀ i ∈ Region.ready .any ops listed, wpOp P ops NoQ i (fun a' w' => (T i = false → S w') ∧ wpAnyT P ops Q0 T S fuel (listed.setIfInBounds i true) a' w') a w

/-- Whoever has come up, all that he waits for has. -/
def Closed (ops : Array Oper) (listed : Array Bool) : Prop :=
  ∀ (k : Nat) (o : Oper), ops[k]? = some o → listed.getD k false = true → ∀ e ∈ o.after, Region.binds .any e = true → listed.getD e.on false = true

def anc (ops : Array Oper) : Nat → Nat → Nat → Bool
  | 0, _, _ => false
  | n + 1, i, j => match ops[j]? with
    | none => false
    | some o => o.after.any fun e => Region.binds .any e && (e.on == i || anc ops n i e.on)

theorem getD_set_true {l : Array Bool} {i j : Nat} (h : l.getD j false = true) : (l.setIfInBounds i true).getD j false = true := by
  simp only [Array.getD_eq_getD_getElem?, Array.getElem?_setIfInBounds] at *
  split
  · rename_i e; subst e; split <;> simp_all
  · exact h

theorem getD_set_inv {l : Array Bool} {i j : Nat} (h : (l.setIfInBounds i true).getD j false = true) : j = i ∨ l.getD j false = true := by
  by_cases e : i = j
  · exact .inl e.symm
  · right
    simp only [Array.getD_eq_getD_getElem?, Array.getElem?_setIfInBounds] at *
    rw [if_neg e] at h
    exact h

theorem Closed.set {listed : Array Bool} {j : Nat} (h : Closed ops listed) (hr : j ∈ Region.ready .any ops listed) : Closed ops (listed.setIfInBounds j true) := by
  intro k o hk hl e he hb
  rcases getD_set_inv hl with rfl | hl
  · obtain ⟨_, oj, hoj, hall⟩ := mem_ready.1 hr
    rw [hk] at hoj; cases hoj
    exact getD_set_true (hall e he hb)
  · exact getD_set_true (h k o hk hl e he hb)

theorem anc_listed {listed : Array Bool} (hc : Closed ops listed) : ∀ (n i j : Nat), anc ops n i j = true →
    (∀ o, ops[j]? = some o → ∀ e ∈ o.after, Region.binds .any e = true → listed.getD e.on false = true) → listed.getD i false = true := by
  intro n
  induction n with
  | zero => intro i j h; simp [anc] at h
  | succ n ih =>
    intro i j h hd
    unfold anc at h
    cases ho : ops[j]? with
    | none => simp [ho] at h
    | some o =>
      simp only [ho, Array.any_eq_true', Bool.and_eq_true, Bool.or_eq_true, beq_iff_eq] at h
      obtain ⟨e, he, hb, h | h⟩ := h
      · subst h; exact hd o ho e he hb
      · exact ih i e.on h fun o' ho' e' he' hb' => hc _ o' ho' (hd o ho e he hb) e' he' hb'

def nth {α : Type} : List α → Nat → Option α
  | [], _ => none
  | a :: _, 0 => some a
  | _ :: l, n + 1 => nth l n

theorem nth_eq {α : Type} (l : List α) (n : Nat) : nth l n = l[n]? := by
  induction l generalizing n with
  | nil => simp [nth]
  | cons a l ih => cases n <;> simp [nth, ih]

/-- The walk along a plan: numbers of operations; 'eff': those that act; the others leave every world of 'S' alone. -/
def wpPlan (P : Program) (l : List Oper) (S : World → Prop) (eff T : Nat → Bool) (Q0 : Act → World → Prop) : List Nat → Act → World → Prop
  | [], a, w => Q0 a w
  | i :: rest, a, w =>
    match nth l i with
    | none => False
    | some o =>
      if Region.wanted o (yielded l.toArray a.tmps) then
        if eff i then o.wp P a w (fun a' w' => (T i = false → S w') ∧ wpPlan P l S eff T Q0 rest a' w') NoQ
        else ∃ v, (∀ w, S w → yieldsAt P o a w v) ∧ wpPlan P l S eff T Q0 rest (a.put o.dst v) w
      else wpPlan P l S eff T Q0 rest (a.put o.dst undef) w

def planB (ops : Array Oper) (eff T : Nat → Bool) : Array Bool → List Nat → Bool
  | listed, [] => (Region.ready .any ops listed).isEmpty
  | listed, i :: rest =>
    (if eff i then (Region.ready .any ops listed == [i])
     else (Region.ready .any ops listed).contains i && Region.free .any ops listed i && !T i && (List.range ops.size).all (fun j => !T j || anc ops ops.size i j)) &&
    (!T i || rest.all T) && planB ops eff T (listed.setIfInBounds i true) rest

section
variable {l : List Oper} {eff : Nat → Bool} {rest : List Nat} {i : Nat} {a : Act} {w : World} {o : Oper}

end
end
end Go.Sl
