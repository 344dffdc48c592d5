/- A region that draws its order, walked once, along a plan: what only reads is taken as early as it may come; what acts comes in its forced order. No program in sight. -/
import Derived.WalkKit
import Derived.OrdersHeld
import Derived.Lib.Hide
import Derived.Deep.QuietTactic
import Derived.BigQuiet
namespace Go.Sl
open Go

def NoQ : Exit → Act → World → Prop := fun _ _ _ => False

theorem wp_weak {P : Program} {o : Oper} {a : Act} {w : World} {K : Act → World → Prop} {Q Q' : Exit → Act → World → Prop} (hq : ∀ e a w, Q e a w → Q' e a w)
    (h : o.wp P a w K Q) : o.wp P a w K Q' := by
  unfold Oper.wp at *
  generalize (execOp a.eval o).run P w = r at *
  cases r with
  | ok n w' =>
    cases n <;> simp only [Oper.upon] at h ⊢ <;>
      first
        | exact h
        | exact Calls.mono h (fun e w'' he => by
            cases e
            · exact he
            · exact hq _ _ _ he
            · obtain ⟨a, w, h⟩ := he; exact ⟨a, w, hq _ _ _ h⟩)
  | halt x w' => cases x <;> simp only [Oper.upon] at h ⊢ <;> first | exact h | exact hq _ _ _ h

theorem wpOp_weak {P : Program} {ops : Array Oper} {i : Nat} {a : Act} {w : World} {K : Act → World → Prop} {Q Q' : Exit → Act → World → Prop} (hq : ∀ e a w, Q e a w → Q' e a w)
    (h : wpOp P ops Q i K a w) : wpOp P ops Q' i K a w := by
  unfold wpOp at *
  split
  · rename_i ho; simp only [ho] at h; exact h
  · rename_i o ho
    simp only [ho] at h
    split
    · rename_i hw
      simp only [hw, if_true] at h
      rcases h with h | ⟨h, a, w, h'⟩
      · exact .inl (wp_weak hq h)
      · exact .inr ⟨h, a, w, hq _ _ _ h'⟩
    · rename_i hw; simp only [hw] at h; exact h

/-- What one operation does in one world, where it leaves the world alone. -/
def yieldsUpon (P : Program) (w : World) (v : Value) : Result Next → Prop
  | .ok (.value u) w' => w' = w ∧ u = v
  | .ok .skip w' => w' = w ∧ v = undef
  | .ok (.enter f args) w' => w' = w ∧ Calls P f args w (fun e w'' => e = .returned v ∧ w'' = w)
  | _ => False

def yieldsAt (P : Program) (o : Oper) (a : Act) (w : World) (v : Value) : Prop := yieldsUpon P w v ((execOp a.eval o).run P w)

section
variable {P : Program} {ops : Array Oper} {S : World → Prop} {T : Nat → Bool} {Q0 : Act → World → Prop}

def Yl (P : Program) (ops : Array Oper) (S : World → Prop) (o : Oper) (v : Value) (a : Act) : Prop :=
  (Region.wanted o (yielded ops a.tmps) = true ∧ ∀ w, S w → yieldsAt P o a w v) ∨
  (Region.wanted o (yielded ops a.tmps) = false ∧ v = undef)

theorem Yl.wpOp {i : Nat} {o : Oper} {v : Value} {a : Act} (hi : ops[i]? = some o) (hy : Yl P ops S o v a)
    {K : Act → World → Prop} {w : World} (hS : S w) (h : K (a.put o.dst v) w) : wpOp P ops NoQ i K a w := by
  unfold Go.wpOp
  simp only [hi]
  rcases hy with ⟨hw, hv⟩ | ⟨hw, rfl⟩
  · simp only [hw, if_true]
    refine .inl ?_
    have h1 := hv w hS
    unfold yieldsAt at h1
    unfold Oper.wp
    generalize (execOp a.eval o).run P w = r at *
    cases r with
    | ok n w' =>
      cases n <;> simp only [yieldsUpon] at h1 <;> simp only [Oper.upon]
      case value u => obtain ⟨rfl, rfl⟩ := h1; exact h
      case skip => obtain ⟨rfl, rfl⟩ := h1; exact h
      case enter f args =>
        obtain ⟨rfl, hc⟩ := h1
        refine hc.mono fun e w'' ⟨he, hw''⟩ => ?_
        subst he; subst hw''; exact h
    | halt x w' => simp only [yieldsUpon] at h1
  · simp only [hw, Bool.false_eq_true, if_false]; exact h

theorem Yl.of_same {o : Oper} {v : Value} {a a' : Act} (hy : Yl P ops S o v a) (he : execOp a'.eval o = execOp a.eval o)
    (hw : Region.wanted o (yielded ops a'.tmps) = Region.wanted o (yielded ops a.tmps)) : Yl P ops S o v a' := by
  unfold Yl yieldsAt at *
  rw [he, hw]
  exact hy

theorem wpOp_putYl {j : Nat} {oi oj : Oper} {v : Value} (hj : ops[j]? = some oj) (hap : oi.apart ops oj = true)
    (hsi : ∀ cs b, oi.op ≠ .select cs b) (hsj : ∀ cs b, oj.op ≠ .select cs b) {K : Act → World → Prop} {a : Act} {w : World}
    (hy : Yl P ops S oi v a) (h : wpOp P ops NoQ j K (a.put oi.dst v) w) :
    wpOp P ops NoQ j (fun a' w' => Yl P ops S oi v a' ∧ K (a'.put oi.dst v) w') a w := by
  obtain ⟨h1, h2, h3⟩ := Oper.apart_spec hap
  have keep : ∀ (a : Act), Yl P ops S oi v a → ∀ u, Yl P ops S oi v (a.put oj.dst u) := fun a hy u =>
    hy.of_same (execOp_put oi hsi a oj.dst u h3) (wanted_put oi a oj.dst u h3)
  have keepD : ∀ d, Yl P ops S oi v { a with defers := d :: a.defers } := fun d => hy.of_same rfl rfl
  unfold wpOp at *
  simp only [hj] at *
  rw [wanted_put oj a oi.dst v h1] at h
  split
  · rename_i hw
    simp only [hw, if_true] at h
    rcases h with h | ⟨hasks, hlets⟩
    case inr => exact .inr ⟨by unfold Oper.asks at *; rw [execOp_put oj hsj a oi.dst v h1] at hasks; exact hasks, hlets⟩
    refine .inl ?_
    unfold Oper.wp at *
    rw [execOp_put oj hsj a oi.dst v h1] at h
    generalize (execOp a.eval oj).run P w = r at *
    cases r with
    | ok n w' =>
      cases n <;> simp only [Oper.upon] at h ⊢
      case value u => exact ⟨keep a hy u, by rw [← Act.put_comm a v u h2]; exact h⟩
      case skip => exact ⟨keep a hy _, by rw [← Act.put_comm a v undef h2]; exact h⟩
      case defer d =>
        refine ⟨keep _ (keepD d) _, ?_⟩
        rw [← Act.put_comm _ v undef h2, ← Act.put_defers]
        exact h
      case enter f args =>
        refine Calls.mono h fun e w'' he => ?_
        cases e with
        | returned u => exact ⟨keep a hy u, by rw [← Act.put_comm a v u h2]; exact he⟩
        | panicked c => exact he
        | outgrown => exact he
      case row row args => exact Rows.mono h fun u w'' he => ⟨keep a hy u, by rw [← Act.put_comm a v u h2]; exact he⟩
    | halt x w' => cases x <;> simp only [Oper.upon] at h ⊢ <;> exact h
  · rename_i hw
    simp only [hw] at h
    exact ⟨keep a hy _, by rw [← Act.put_comm a v undef h2]; exact h⟩

def wpAnyT (P : Program) (ops : Array Oper) (Q0 : Act → World → Prop) (T : Nat → Bool) (S : World → Prop) : Nat → Array Bool → Act → World → Prop
  | 0, listed, a, w => Region.ready .any ops listed = [] ∧ Q0 a w
  | fuel + 1, listed, a, w =>
    (Region.ready .any ops listed = [] → Q0 a w) ∧
    ∀ i ∈ Region.ready .any ops listed, wpOp P ops NoQ i (fun a' w' => (T i = false → S w') ∧ wpAnyT P ops Q0 T S fuel (listed.setIfInBounds i true) a' w') a w

theorem wpAny_of_T {Q : Exit → Act → World → Prop} (hQ : ∀ a w, Q0 a w → Q .normal a w) : ∀ (fuel : Nat) (listed : Array Bool) (a : Act) (w : World),
    wpAnyT P ops Q0 T S fuel listed a w → wpAny P .any ops Q fuel listed a w
  | 0, _, _, _, h => ⟨h.1, hQ _ _ h.2⟩
  | fuel + 1, _, _, _, h => ⟨fun h0 => hQ _ _ (h.1 h0), fun i hi => wpOp_weak (fun _ _ _ h => h.elim) (wpOp_mono (fun a' w' h' => wpAny_of_T hQ fuel _ a' w' h'.2) (h.2 i hi))⟩

/-- Whoever has come up, all that he waits for has. -/
def Closed (ops : Array Oper) (listed : Array Bool) : Prop :=
  ∀ (k : Nat) (o : Oper), ops[k]? = some o → listed.getD k false = true → ∀ e ∈ o.after, Region.binds .any e = true → listed.getD e.on false = true

def anc (ops : Array Oper) : Nat → Nat → Nat → Bool
  | 0, _, _ => false
  | n + 1, i, j => match ops[j]? with
    | none => false
    | some o => o.after.any fun e => Region.binds .any e && (e.on == i || anc ops n i e.on)

theorem getD_set_true {l : Array Bool} {i j : Nat} (h : l.getD j false = true) : (l.setIfInBounds i true).getD j false = true := by
  simp only [Array.getD_eq_getD_getElem?, Array.getElem?_setIfInBounds] at *
  split
  · rename_i e; subst e; split <;> simp_all
  · exact h

theorem getD_set_inv {l : Array Bool} {i j : Nat} (h : (l.setIfInBounds i true).getD j false = true) : j = i ∨ l.getD j false = true := by
  by_cases e : i = j
  · exact .inl e.symm
  · right
    simp only [Array.getD_eq_getD_getElem?, Array.getElem?_setIfInBounds] at *
    rw [if_neg e] at h
    exact h

theorem Closed.set {listed : Array Bool} {j : Nat} (h : Closed ops listed) (hr : j ∈ Region.ready .any ops listed) : Closed ops (listed.setIfInBounds j true) := by
  intro k o hk hl e he hb
  rcases getD_set_inv hl with rfl | hl
  · obtain ⟨_, oj, hoj, hall⟩ := mem_ready.1 hr
    rw [hk] at hoj; cases hoj
    exact getD_set_true (hall e he hb)
  · exact getD_set_true (h k o hk hl e he hb)

theorem anc_listed {listed : Array Bool} (hc : Closed ops listed) : ∀ (n i j : Nat), anc ops n i j = true →
    (∀ o, ops[j]? = some o → ∀ e ∈ o.after, Region.binds .any e = true → listed.getD e.on false = true) → listed.getD i false = true := by
  intro n
  induction n with
  | zero => intro i j h; simp [anc] at h
  | succ n ih =>
    intro i j h hd
    unfold anc at h
    cases ho : ops[j]? with
    | none => simp [ho] at h
    | some o =>
      simp only [ho, Array.any_eq_true', Bool.and_eq_true, Bool.or_eq_true, beq_iff_eq] at h
      obtain ⟨e, he, hb, h | h⟩ := h
      · subst h; exact hd o ho e he hb
      · exact ih i e.on h fun o' ho' e' he' hb' => hc _ o' ho' (hd o ho e he hb) e' he' hb'

theorem wpAnyT_first {i : Nat} {oi : Oper} {v : Value} (hi : ops[i]? = some oi) (hsel : ∀ (j : Nat) (o : Oper) cs b, ops[j]? = some o → o.op ≠ .select cs b)
    (hT : ∀ j, j < ops.size → T j = true → anc ops ops.size i j = true) :
    ∀ (fuel : Nat) (listed : Array Bool) (a : Act) (w : World), Closed ops listed →
      (∀ j oj, ops[j]? = some oj → j ≠ i → listed.getD j true = false → (∀ e ∈ oj.after, Region.binds .any e = true → e.on ≠ i) → oi.apart ops oj = true) →
      i ∈ Region.ready .any ops listed → Yl P ops S oi v a → S w →
      wpAnyT P ops Q0 T S fuel (listed.setIfInBounds i true) (a.put oi.dst v) w → wpAnyT P ops Q0 T S (fuel + 1) listed a w := by
  intro fuel
  induction fuel with
  | zero =>
    intro listed a w _ _ hr hy hS H
    refine ⟨fun h => (by rw [h] at hr; cases hr), fun j hj => ?_⟩
    by_cases hji : j = i
    · subst hji; exact hy.wpOp hi hS ⟨fun _ => hS, H⟩
    · have := ready_mono hj hji
      rw [H.1] at this
      cases this
  | succ fuel ih =>
    intro listed a w hc hfree hr hy hS H
    refine ⟨fun h => (by rw [h] at hr; cases hr), fun j hj => ?_⟩
    by_cases hji : j = i
    · subst hji; exact hy.wpOp hi hS ⟨fun _ => hS, H⟩
    · have h1 := H.2 j (ready_mono hj hji)
      obtain ⟨hjun, oj, hoj, hall⟩ := mem_ready.1 hj
      have hjlt : j < ops.size := (Array.getElem?_eq_some_iff.1 hoj).1
      have hiun : listed.getD i true = false := (mem_ready.1 hr).1
      have hnl : listed.getD i false = false := by
        rcases Nat.lt_or_ge i listed.size with h' | h'
        · simp [h'] at hiun ⊢; exact hiun
        · simp [Array.getElem?_eq_none h']
      have hTj : T j = false := by
        cases hTj : T j with
        | false => rfl
        | true =>
          have := anc_listed hc ops.size i j (hT j hjlt hTj) (fun o ho e he hb => by rw [hoj] at ho; cases ho; exact hall e he hb)
          rw [hnl] at this; cases this
      have hnot : ∀ e ∈ oj.after, Region.binds .any e = true → e.on ≠ i := fun e he hb heq => by
        have h1 := hall e he hb
        rw [heq, hnl] at h1; cases h1
      have h2 := wpOp_putYl hoj (hfree j oj hoj hji hjun hnot) (fun cs b => hsel i oi cs b hi) (fun cs b => hsel j oj cs b hoj) hy h1
      have hfree' : ∀ k ok, ops[k]? = some ok → k ≠ i → (listed.setIfInBounds j true).getD k true = false →
          (∀ e ∈ ok.after, Region.binds .any e = true → e.on ≠ i) → oi.apart ops ok = true := fun k ok hk hki hun hno => by
        refine hfree k ok hk hki ?_ hno
        by_cases hjk : j = k
        · subst hjk; exact hjun
        · rw [getD_set_ne true hjk] at hun; exact hun
      refine wpOp_mono (fun a' w' h3 => ⟨h3.2.1, ih (listed.setIfInBounds j true) a' w' (hc.set hj) hfree' (ready_mono hr (Ne.symm hji)) h3.1 (h3.2.1 hTj) ?_⟩) h2
      rw [Array.setIfInBounds_comm _ _ hji]
      exact h3.2.2

def nth {α : Type} : List α → Nat → Option α
  | [], _ => none
  | a :: _, 0 => some a
  | _ :: l, n + 1 => nth l n

theorem nth_eq {α : Type} (l : List α) (n : Nat) : nth l n = l[n]? := by
  induction l generalizing n with
  | nil => simp [nth]
  | cons a l ih => cases n <;> simp [nth, ih]

/-- The walk along a plan: numbers of operations; 'eff': those that act; the others leave every world of 'S' alone. -/
def wpPlan (P : Program) (l : List Oper) (S : World → Prop) (eff T : Nat → Bool) (Q0 : Act → World → Prop) : List Nat → Act → World → Prop
  | [], a, w => Q0 a w
  | i :: rest, a, w =>
    match nth l i with
    | none => False
    | some o =>
      if Region.wanted o (yielded l.toArray a.tmps) then
        if eff i then o.wp P a w (fun a' w' => (T i = false → S w') ∧ wpPlan P l S eff T Q0 rest a' w') NoQ
        else ∃ v, (∀ w, S w → yieldsAt P o a w v) ∧ wpPlan P l S eff T Q0 rest (a.put o.dst v) w
      else wpPlan P l S eff T Q0 rest (a.put o.dst undef) w

def planB (ops : Array Oper) (eff T : Nat → Bool) : Array Bool → List Nat → Bool
  | listed, [] => (Region.ready .any ops listed).isEmpty
  | listed, i :: rest =>
    (if eff i then (Region.ready .any ops listed == [i])
     else (Region.ready .any ops listed).contains i && Region.free .any ops listed i && !T i && (List.range ops.size).all (fun j => !T j || anc ops ops.size i j)) &&
    (!T i || rest.all T) && planB ops eff T (listed.setIfInBounds i true) rest

theorem plan_sound {l : List Oper} {eff : Nat → Bool} (hs : Region.noSelect l.toArray = true) : ∀ (plan : List Nat) (listed : Array Bool) (a : Act) (w : World),
    Closed l.toArray listed → planB l.toArray eff T listed plan = true → ((plan.all T = true) ∨ S w) → wpPlan P l S eff T Q0 plan a w → wpAnyT P l.toArray Q0 T S plan.length listed a w := by
  intro plan
  induction plan with
  | nil =>
    intro listed a w _ hb _ h
    simp only [planB, List.isEmpty_iff] at hb
    exact ⟨hb, h⟩
  | cons i rest ih =>
    intro listed a w hc hb hS h
    simp only [planB, Bool.and_eq_true] at hb
    obtain ⟨⟨hb1, hb2⟩, hb3⟩ := hb
    have hTr : T i = true → rest.all T = true := fun h => by simpa [h] using hb2
    unfold wpPlan at h
    cases ho : nth l i with
    | none => simp [ho] at h
    | some o =>
      simp only [ho] at h
      have hi : l.toArray[i]? = some o := by rw [nth_eq] at ho; simpa using ho
      have hS' : (rest.all T = true) ∨ S w := by
        rcases hS with h | h
        · left; simp at h ⊢; exact h.2
        · exact .inr h
      by_cases he : eff i = true
      · simp only [he, if_true, beq_iff_eq] at hb1 h
        refine ⟨fun h0 => (by rw [hb1] at h0; cases h0), fun j hj => ?_⟩
        rw [hb1] at hj
        obtain rfl : j = i := by simpa using hj
        have hc' : Closed l.toArray (listed.setIfInBounds j true) := hc.set (by rw [hb1]; exact .head _)
        unfold wpOp
        simp only [hi]
        by_cases hw : Region.wanted o (yielded l.toArray a.tmps) = true
        · simp only [hw, if_true] at h ⊢
          refine .inl (Oper.wp_mono (fun a' w' h' => ⟨h'.1, ih _ _ _ hc' hb3 ?_ h'.2⟩) h)
          cases hT : T j with
          | true => exact .inl (hTr hT)
          | false => exact .inr (h'.1 hT)
        · simp only [hw] at h ⊢
          refine ⟨fun hT => ?_, ih _ _ _ hc' hb3 hS' h⟩
          rcases hS with hS | hS
          · simp at hS; rw [hS.1] at hT; cases hT
          · exact hS
      · have he' : eff i = false := by simpa using he
        simp only [he', Bool.false_eq_true, if_false, Bool.and_eq_true] at hb1
        obtain ⟨⟨⟨r1, r2⟩, r3⟩, r4⟩ := hb1
        have hr : i ∈ Region.ready .any l.toArray listed := by simpa using r1
        have hTi : T i = false := by simpa using r3
        have hSw : S w := by
          rcases hS with hS | hS
          · simp at hS; rw [hS.1] at hTi; cases hTi
          · exact hS
        have hT : ∀ j, j < l.toArray.size → T j = true → anc l.toArray l.toArray.size i j = true := fun j hj hTj => by
          have := List.all_eq_true.1 r4 j (List.mem_range.2 hj)
          simpa [hTj] using this
        have go : ∀ v, Yl P l.toArray S o v a → wpPlan P l S eff T Q0 rest (a.put o.dst v) w → wpAnyT P l.toArray Q0 T S (i :: rest).length listed a w := fun v hy hk =>
          wpAnyT_first hi (Region.noSelect_spec hs) hT rest.length listed a w hc (Region.free_spec hi r2) hr hy hSw (ih _ _ _ (hc.set hr) hb3 (.inr hSw) hk)
        by_cases hw : Region.wanted o (yielded l.toArray a.tmps) = true
        · simp only [hw, if_true, he', Bool.false_eq_true, if_false] at h
          obtain ⟨v, hv, hk⟩ := h
          exact go v (.inl ⟨hw, hv⟩) hk
        · simp only [hw] at h
          exact go undef (.inr ⟨by simpa using hw, rfl⟩) h

/-- A region that draws, along a plan. -/
theorem region_plan {id : Nat} {l : List Oper} {Q : Exit → Act → World → Prop} {a : Act} {w : World} (S : World → Prop) (eff T : Nat → Bool) (plan : List Nat)
    (hm : P.follows .mixedOrders = true) (hs : Region.noSelect l.toArray = true) (hp : (plan.length == l.length && planB l.toArray eff T (Array.replicate l.length false) plan) = true)
    (hS : S w.drew) (h : wpPlan P l S eff T (fun a w => Q .normal a w) plan a w.drew) : (Code.region id l.toArray true).wp P Q a w := by
  rw [Bool.and_eq_true, beq_iff_eq] at hp
  refine wp_region_any hm (wpAny_of_T (S := S) (T := T) (Q0 := fun a w => Q .normal a w) (fun _ _ h => h) _ _ _ _ ?_)
  have hc : Closed l.toArray (Array.replicate l.length false) := fun k o _ hl => by
    exfalso
    simp only [Array.getD_eq_getD_getElem?, Array.getElem?_replicate] at hl
    split at hl <;> simp at hl
  have := plan_sound (P := P) (S := S) (Q0 := fun a w => Q .normal a w) hs plan _ a w.drew hc hp.2 (.inr hS) h
  rw [hp.1] at this
  simpa using this

section
variable {l : List Oper} {eff : Nat → Bool} {rest : List Nat} {i : Nat} {a : Act} {w : World} {o : Oper}

theorem plan_nil (h : Q0 a w) : wpPlan P l S eff T Q0 [] a w := h

theorem plan_skip (ho : nth l i = some o) (hw : Region.wanted o (yielded l.toArray a.tmps) = false) (h : wpPlan P l S eff T Q0 rest (a.put o.dst undef) w) : wpPlan P l S eff T Q0 (i :: rest) a w := by
  unfold wpPlan
  simp only [ho, hw, Bool.false_eq_true, if_false]
  exact h

/-- One that acts. -/
theorem plan_eff (ho : nth l i = some o) (hw : Region.wanted o (yielded l.toArray a.tmps) = true) (he : eff i = true)
    (h : ∀ K : Act → World → Prop, (∀ a w, (T i = false → S w) → wpPlan P l S eff T Q0 rest a w → K a w) → o.wp P a w K NoQ) : wpPlan P l S eff T Q0 (i :: rest) a w := by
  unfold wpPlan
  simp only [ho, hw, he, if_true]
  exact h _ fun _ _ h1 h2 => ⟨h1, h2⟩

/-- One whose value is known in every world of 'S'. -/
theorem plan_val (ho : nth l i = some o) (hw : Region.wanted o (yielded l.toArray a.tmps) = true) (he : eff i = false) (v : Value)
    (hv : ∀ w, S w → (execOp a.eval o).run P w = .ok (.value v) w) (h : wpPlan P l S eff T Q0 rest (a.put o.dst v) w) : wpPlan P l S eff T Q0 (i :: rest) a w := by
  unfold wpPlan
  simp only [ho, hw, he, if_true, Bool.false_eq_true, if_false]
  exact ⟨v, fun w hS => by unfold yieldsAt; rw [hv w hS]; exact ⟨rfl, rfl⟩, h⟩

/-- A call that leaves the world alone. -/
theorem plan_still (ho : nth l i = some o) (hw : Region.wanted o (yielded l.toArray a.tmps) = true) (he : eff i = false) {f : FuncId} {args : Array Value} (v : Value)
    (hv : ∀ w, (execOp a.eval o).run P w = .ok (.enter f args) w) (hc : ∀ w, S w → Calls P f args w (fun e w' => e = .returned v ∧ w' = w))
    (h : wpPlan P l S eff T Q0 rest (a.put o.dst v) w) : wpPlan P l S eff T Q0 (i :: rest) a w := by
  unfold wpPlan
  simp only [ho, hw, he, if_true, Bool.false_eq_true, if_false]
  exact ⟨v, fun w hS => by unfold yieldsAt; rw [hv w]; exact ⟨rfl, hc w hS⟩, h⟩
end
end
end Go.Sl
