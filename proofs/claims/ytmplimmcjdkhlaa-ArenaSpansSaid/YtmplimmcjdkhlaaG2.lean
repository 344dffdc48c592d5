/- Symbolic running: regions that draw their order. What only reads is taken first; what acts is taken in every order in which it may come. Over any program. -/
import Derived.Test.YtmplimmcjdkhlaaG1
namespace Go.Xg
open Go Go.Sl
set_option linter.unusedVariables false

section
variable {P : Program} {ops : Array Oper} {Q0 : Act → World → Prop}

/-- Of those that act: what holds behind them; the others leave the world alone. -/
def Marked (es : List Nat) (S : Nat → World → Prop) (i : Nat) (w w' : World) : Prop := if es.contains i then S i w' else w' = w

def wpAnyS (P : Program) (ops : Array Oper) (Q0 : Act → World → Prop) (es : List Nat) (S : Nat → World → Prop) : Nat → Array Bool → Act → World → Prop
  | 0, listed, a, w => Region.ready .any ops listed = [] ∧ Q0 a w
  | fuel + 1, listed, a, w =>
    (Region.ready .any ops listed = [] → Q0 a w) ∧
    ∀ i ∈ Region.ready .any ops listed, wpOp P ops NoQ i (fun a' w' => Marked es S i w w' ∧ wpAnyS P ops Q0 es S fuel (listed.setIfInBounds i true) a' w') a w

variable {S : Nat → World → Prop} {es : List Nat}

theorem wpAny_of_S {Q : Exit → Act → World → Prop} (hQ : ∀ a w, Q0 a w → Q .normal a w) : ∀ (fuel : Nat) (listed : Array Bool) (a : Act) (w : World),
    wpAnyS P ops Q0 es S fuel listed a w → wpAny P .any ops Q fuel listed a w
  | 0, _, _, _, h => ⟨h.1, hQ _ _ h.2⟩
  | fuel + 1, _, _, _, h => ⟨fun h0 => hQ _ _ (h.1 h0), fun i hi => wpOp_weak (fun _ _ _ h => h.elim) (wpOp_mono (fun a' w' h' => wpAny_of_S hQ fuel _ a' w' h'.2) (h.2 i hi))⟩

theorem wpAnyS_first {i : Nat} {oi : Oper} {v : Value} {Si : World → Prop} (hi : ops[i]? = some oi) (hsel : ∀ (j : Nat) (o : Oper) cs b, ops[j]? = some o → o.op ≠ .select cs b)
    (hT : ∀ j, j < ops.size → es.contains j = true → anc ops ops.size i j = false → ∀ w, S j w → Si w) (hTi : es.contains i = false) :
    ∀ (fuel : Nat) (listed : Array Bool) (a : Act) (w : World), Closed ops listed →
      (∀ j oj, ops[j]? = some oj → j ≠ i → listed.getD j true = false → (∀ e ∈ oj.after, Region.binds .any e = true → e.on ≠ i) → oi.apart ops oj = true) →
      i ∈ Region.ready .any ops listed → Yl P ops Si oi v a → Si w →
      wpAnyS P ops Q0 es S fuel (listed.setIfInBounds i true) (a.put oi.dst v) w → wpAnyS P ops Q0 es S (fuel + 1) listed a w := by
  intro fuel
  induction fuel with
  | zero =>
    intro listed a w _ _ hr hy hS H
    refine ⟨fun h => (by rw [h] at hr; cases hr), fun j hj => ?_⟩
    by_cases hji : j = i
    · subst hji; exact hy.wpOp hi hS ⟨by unfold Marked; rw [hTi]; rfl, H⟩
    · have := ready_mono hj hji
      rw [H.1] at this
      cases this
  | succ fuel ih =>
    intro listed a w hc hfree hr hy hS H
    refine ⟨fun h => (by rw [h] at hr; cases hr), fun j hj => ?_⟩
    by_cases hji : j = i
    · subst hji; exact hy.wpOp hi hS ⟨by unfold Marked; rw [hTi]; rfl, H⟩
    · have h1 := H.2 j (ready_mono hj hji)
      obtain ⟨hjun, oj, hoj, hall⟩ := mem_ready.1 hj
      have hjlt : j < ops.size := (Array.getElem?_eq_some_iff.1 hoj).1
      have hiun : listed.getD i true = false := (mem_ready.1 hr).1
      have hnl : listed.getD i false = false := by
        rcases Nat.lt_or_ge i listed.size with h' | h'
        · simp [h'] at hiun ⊢; exact hiun
        · simp [Array.getElem?_eq_none h']
      have hTj : anc ops ops.size i j = false := by
        cases hTj : anc ops ops.size i j with
        | false => rfl
        | true =>
          have := anc_listed hc ops.size i j hTj (fun o ho e he hb => by rw [hoj] at ho; cases ho; exact hall e he hb)
          rw [hnl] at this; cases this
      have hnot : ∀ e ∈ oj.after, Region.binds .any e = true → e.on ≠ i := fun e he hb heq => by
        have h1 := hall e he hb
        rw [heq, hnl] at h1; cases h1
      have h2 := wpOp_putYl hoj (hfree j oj hoj hji hjun hnot) (fun cs b => hsel i oi cs b hi) (fun cs b => hsel j oj cs b hoj) hy h1
      have hfree' : ∀ k ok, ops[k]? = some ok → k ≠ i → (listed.setIfInBounds j true).getD k true = false →
          (∀ e ∈ ok.after, Region.binds .any e = true → e.on ≠ i) → oi.apart ops ok = true := fun k ok hk hki hun hno => by
        refine hfree k ok hk hki ?_ hno
        by_cases hjk : j = k
        · subst hjk; exact hjun
        · rw [getD_set_ne true hjk] at hun; exact hun
      refine wpOp_mono (fun a' w' h3 => ⟨h3.2.1, ih (listed.setIfInBounds j true) a' w' (hc.set hj) hfree' (ready_mono hr (Ne.symm hji)) h3.1 (by
        have h4 := h3.2.1
        unfold Marked at h4
        split at h4
        · rename_i he; exact hT j hjlt he hTj _ h4
        · rw [h4]; exact hS) ?_⟩) h2
      rw [Array.setIfInBounds_comm _ _ hji]
      exact h3.2.2
end

/-- What those that only read rest on: the operation's number, the numbers of those that may come ahead of it, and what it reads. -/
def SOf : List (Nat × List Nat × (World → Prop)) → Nat → World → Prop
  | [], _, _ => True
  | (_, js, S) :: qs, j, w => (if js.contains j then S w else True) ∧ SOf qs j w

def okQ (ops : List Oper) (i : Nat) (js : List Nat) : Bool := js.contains i && (List.range ops.length).all fun j => js.contains j || anc ops.toArray ops.length i j

theorem SOf.get {qs : List (Nat × List Nat × (World → Prop))} {i : Nat} {js : List Nat} {S : World → Prop} {j : Nat} {w : World} (h : SOf qs j w) (n : Nat) (hn : nth qs n = some (i, js, S)) (hj : js.contains j = true) : S w := by
  induction qs generalizing n with
  | nil => simp [nth] at hn
  | cons q qs ih =>
    obtain ⟨i', js', S'⟩ := q
    cases n with
    | zero =>
      simp only [nth, Option.some.injEq, Prod.mk.injEq] at hn
      obtain ⟨rfl, rfl, rfl⟩ := hn
      have := h.1
      rwa [if_pos hj] at this
    | succ n => exact ih h.2 n hn

section
variable {P : Program} {f : FuncId} {g : World} {F : List HP} {R : Ending → World → Prop} {k : List Item} {T T' : List Value} {L L' : List HP}
variable {l : List Oper} {o : Oper} {K : List Value → List HP → Prop} {qs : List (Nat × List Nat × (World → Prop))} {n : Nat} {listed : List Bool} {es : List Nat}

/-- The operations of a region that draws; those that have come are listed. -/
structure Any (P : Program) (g : World) (F : List HP) (l : List Oper) (es : List Nat) (qs : List (Nat × List Nat × (World → Prop))) (K : List Value → List HP → Prop) (n : Nat) (listed : List Bool) (T : List Value) (L : List HP) : Prop where
  run : Closed l.toArray listed.toArray → ∀ w, SL g (L ++ F) w → wpAnyS P l.toArray (OK1 g F K) es (SOf qs) n listed.toArray (act T) w

theorem at_draw {id : Nat} (es : List Nat) (qs : List (Nat × List Nat × (World → Prop))) (hm : P.follows .mixedOrders = true)
    (h : Any P g F l es qs (fun T' L' => At P f g F R k T' L') l.length (List.replicate l.length false) T L) : At P f g F R (.code (.region id l.toArray true) :: k) T L := by
  constructor
  intro w hS cs
  have hc : Closed l.toArray (List.replicate l.length false).toArray := fun k o _ hl => by
    exfalso
    simp only [Array.getD_eq_getD_getElem?, List.getElem?_toArray, List.getElem?_replicate] at hl
    split at hl <;> simp at hl
  have h1 := h.run hc w.drew hS
  have h2 : (Code.region id l.toArray true).wp P (RQ g F (fun T' L' => At P f g F R k T' L')) (act T) w := by
    refine wp_region_any hm ?_
    have := wpAny_of_S (Q := RQ g F (fun T' L' => At P f g F R k T' L')) (fun a w h => ⟨rfl, h⟩) _ _ _ _ h1
    simpa using this
  obtain ⟨e, a', w', ⟨rfl, T', L', rfl, hS', hk⟩, harr⟩ := h2 (base f) k cs
  obtain ⟨e, w2, fr, hR, hc, hf, hl⟩ := hk.run w' hS' cs
  exact ⟨e, w2, fr, hR, Comes.of_steps harr hc, hf, hl⟩

theorem any_nil (hr : Region.ready .any l.toArray listed.toArray = []) (h : K T L) : Any P g F l es qs K 0 listed T L :=
  ⟨fun _ _ hS => ⟨hr, T, L, rfl, hS, h⟩⟩

/-- One that only reckons. -/
theorem any_first {v : Value} {Si : World → Prop} (i : Nat) (hs : Region.noSelect l.toArray = true) (hi : nth l i = some o) (hr : (Region.ready .any l.toArray listed.toArray).contains i = true)
    (hf : Region.free .any l.toArray listed.toArray i = true) (hT : ∀ j, j < l.length → es.contains j = true → anc l.toArray l.length i j = false → ∀ w, SOf qs j w → Si w) (hTi : es.contains i = false) (hnow : ∀ w, SL g (L ++ F) w → Si w)
    (hy : Yl P l.toArray Si o v (act T)) (h : Any P g F l es qs K n (listed.set i true) (putD o.dst v T) L) : Any P g F l es qs K (n + 1) listed T L := by
  constructor
  intro hc w hS
  have hi' : l.toArray[i]? = some o := by rw [nth_eq] at hi; simpa using hi
  have hr' : i ∈ Region.ready .any l.toArray listed.toArray := by simpa using hr
  refine wpAnyS_first (Si := Si) hi' (Region.noSelect_spec hs) (by simpa using hT) hTi n listed.toArray (act T) w hc (Region.free_spec hi' hf) hr' hy (hnow w hS) ?_
  rw [act_put]
  have := h.run (by have := hc.set hr'; simpa using this) w hS
  simpa using this

/-- One that only reckons. -/
theorem any_pure {d : Nat} (v : Value) (i : Nat) (hs : Region.noSelect l.toArray = true) (hi : nth l i = some o) (hr : (Region.ready .any l.toArray listed.toArray).contains i = true)
    (hf : Region.free .any l.toArray listed.toArray i = true) (hTi : es.contains i = false) (hw : Region.wanted o (yielded l.toArray T.toArray) = true) (hd : o.dst = some d)
    (he : ∀ w, (execOp (act T).eval o).run P w = .ok (.value v) w) (h : Any P g F l es qs K n (listed.set i true) (T.set d v) L) : Any P g F l es qs K (n + 1) listed T L :=
  any_first (v := v) (Si := fun _ => True) i hs hi hr hf (fun _ _ _ _ _ _ => trivial) hTi (fun _ _ => trivial)
    (.inl ⟨hw, fun w _ => by unfold yieldsAt; rw [he w]; exact ⟨rfl, rfl⟩⟩) (by rw [hd]; exact h)

theorem any_eq {d : Nat} {v : Value} (v' : Value) (i : Nat) (hs : Region.noSelect l.toArray = true) (hi : nth l i = some o) (hr : (Region.ready .any l.toArray listed.toArray).contains i = true)
    (hf : Region.free .any l.toArray listed.toArray i = true) (hTi : es.contains i = false) (hw : Region.wanted o (yielded l.toArray T.toArray) = true) (hd : o.dst = some d)
    (he : ∀ w, (execOp (act T).eval o).run P w = .ok (.value v) w) (hb : v = v') (h : Any P g F l es qs K n (listed.set i true) (T.set d v') L) : Any P g F l es qs K (n + 1) listed T L := by
  subst hb; exact any_pure v i hs hi hr hf hTi hw hd he h

theorem any_int {d : Nat} (kd : IntKind) (e : Int) {e' : Int} (i : Nat) (hs : Region.noSelect l.toArray = true) (hi : nth l i = some o) (hr : (Region.ready .any l.toArray listed.toArray).contains i = true)
    (hf : Region.free .any l.toArray listed.toArray i = true) (hTi : es.contains i = false) (hw : Region.wanted o (yielded l.toArray T.toArray) = true) (hd : o.dst = some d)
    (he : ∀ w, (execOp (act T).eval o).run P w = .ok (.value (.int kd e)) w) (hb : e = e') (h : Any P g F l es qs K n (listed.set i true) (T.set d (.int kd e')) L) : Any P g F l es qs K (n + 1) listed T L := by
  subst hb; exact any_pure _ i hs hi hr hf hTi hw hd he h

/-- One that is not wanted. -/
theorem any_skip (i : Nat) (hs : Region.noSelect l.toArray = true) (hi : nth l i = some o) (hr : (Region.ready .any l.toArray listed.toArray).contains i = true)
    (hf : Region.free .any l.toArray listed.toArray i = true) (hTi : es.contains i = false) (hw : Region.wanted o (yielded l.toArray T.toArray) = false)
    (h : Any P g F l es qs K n (listed.set i true) (putD o.dst undef T) L) : Any P g F l es qs K (n + 1) listed T L :=
  any_first (v := undef) (Si := fun _ => True) i hs hi hr hf (fun _ _ _ _ _ _ => trivial) hTi (fun _ _ => trivial) (.inr ⟨hw, rfl⟩) h

/-- One that reads: entry m of 'qs' says what it rests on. -/
theorem any_reads {d : Nat} (v : Value) (i m : Nat) {js : List Nat} {Si : World → Prop} (hs : Region.noSelect l.toArray = true) (hi : nth l i = some o) (hr : (Region.ready .any l.toArray listed.toArray).contains i = true)
    (hf : Region.free .any l.toArray listed.toArray i = true) (hTi : es.contains i = false) (hw : Region.wanted o (yielded l.toArray T.toArray) = true) (hd : o.dst = some d)
    (hm : nth qs m = some (i, js, Si)) (hj : (es.all fun j => js.contains j || anc l.toArray l.length i j) = true) (hnow : ∀ w, SL g (L ++ F) w → Si w)
    (he : ∀ w, Si w → (execOp (act T).eval o).run P w = .ok (.value v) w) (h : Any P g F l es qs K n (listed.set i true) (T.set d v) L) : Any P g F l es qs K (n + 1) listed T L :=
  any_first (v := v) (Si := Si) i hs hi hr hf (fun j _ hje ha w hS => hS.get m hm (by
      have := List.all_eq_true.1 hj j (by simpa using hje)
      rw [ha, Bool.or_false] at this; exact this)) hTi hnow
    (.inl ⟨hw, fun w hS => by unfold yieldsAt; rw [he w hS]; exact ⟨rfl, rfl⟩⟩) (by rw [hd]; exact h)

/-- .. a call that leaves the world alone. -/
theorem any_still {d : Nat} {h : FuncId} {args : Array Value} (v : Value) (i m : Nat) {js : List Nat} {Si : World → Prop} (hs : Region.noSelect l.toArray = true) (hi : nth l i = some o) (hr : (Region.ready .any l.toArray listed.toArray).contains i = true)
    (hf : Region.free .any l.toArray listed.toArray i = true) (hTi : es.contains i = false) (hw : Region.wanted o (yielded l.toArray T.toArray) = true) (hd : o.dst = some d)
    (hm : nth qs m = some (i, js, Si)) (hj : (es.all fun j => js.contains j || anc l.toArray l.length i j) = true) (hnow : ∀ w, SL g (L ++ F) w → Si w)
    (he : ∀ w, (execOp (act T).eval o).run P w = .ok (.enter h args) w) (hc : ∀ w, Si w → Calls P h args w fun e w' => e = .returned v ∧ w' = w)
    (hk : Any P g F l es qs K n (listed.set i true) (T.set d v) L) : Any P g F l es qs K (n + 1) listed T L :=
  any_first (v := v) (Si := Si) i hs hi hr hf (fun j _ hje ha w hS => hS.get m hm (by
      have := List.all_eq_true.1 hj j (by simpa using hje)
      rw [ha, Bool.or_false] at this; exact this)) hTi hnow
    (.inl ⟨hw, fun w hS => by unfold yieldsAt; rw [he w]; exact ⟨rfl, hc w hS⟩⟩) (by rw [hd]; exact hk)

/-- What one that acts owes to those that read. -/
structure Acts (P : Program) (g : World) (F : List HP) (l : List Oper) (es : List Nat) (qs : List (Nat × List Nat × (World → Prop))) (K : List Value → List HP → Prop) (n : Nat) (listed : List Bool) (i : Nat) (T : List Value) (L : List HP) : Prop where
  owes : ∀ w, SL g (L ++ F) w → SOf qs i w
  rest : Any P g F l es qs K n (listed.set i true) T L

/-- One of those that may come next. -/
structure Comes1 (P : Program) (g : World) (F : List HP) (l : List Oper) (es : List Nat) (qs : List (Nat × List Nat × (World → Prop))) (K : List Value → List HP → Prop) (n : Nat) (listed : List Bool) (T : List Value) (L : List HP) (i : Nat) : Prop where
  run : ∃ o, nth l i = some o ∧ es.contains i = true ∧
    ((Region.wanted o (yielded l.toArray T.toArray) = true ∧ OpX P g F o T L (Acts P g F l es qs K n listed i)) ∨
     (Region.wanted o (yielded l.toArray T.toArray) = false ∧ Acts P g F l es qs K n listed i (putD o.dst undef T) L))

def All1 (p : Nat → Prop) : List Nat → Prop
  | [] => True
  | i :: is => p i ∧ All1 p is

theorem All1.get {p : Nat → Prop} : ∀ {is : List Nat} {i : Nat}, All1 p is → i ∈ is → p i
  | _ :: _, _, h, .head _ => h.1
  | _ :: _, _, h, .tail _ hm => All1.get h.2 hm

/-- Those that may come next, each. -/
theorem any_each (is : List Nat) (hr : Region.ready .any l.toArray listed.toArray = is) (hne : is.isEmpty = false) (h : All1 (Comes1 P g F l es qs K n listed T L) is) : Any P g F l es qs K (n + 1) listed T L := by
  constructor
  intro hc w hS
  refine ⟨fun h0 => (by rw [hr] at h0; subst h0; simp at hne), fun i hi => ?_⟩
  have hi2 := hi
  rw [hr] at hi2
  obtain ⟨o, ho, hes, h⟩ := (h.get hi2).run
  have hc' : Closed l.toArray (listed.set i true).toArray := by have := hc.set hi; simpa using this
  have ho' : l.toArray[i]? = some o := by rw [nth_eq] at ho; simpa using ho
  have hes' : i ∈ es := by simpa using hes
  unfold wpOp
  simp only [ho']
  rcases h with ⟨hw, h⟩ | ⟨hw, h⟩
  · rw [if_pos (by exact hw)]
    refine .inl (Oper.wp_mono ?_ (h.run w hS))
    rintro a w' ⟨T', L', rfl, hS', h1, h2⟩
    refine ⟨by unfold Marked; rw [if_pos (by simpa using hes')]; exact h1 w' hS', ?_⟩
    have := h2.run hc' w' hS'
    simpa using this
  · rw [if_neg (by show ¬ Region.wanted o (yielded l.toArray T.toArray) = true; rw [hw]; simp), act_put]
    refine ⟨by unfold Marked; rw [if_pos (by simpa using hes')]; exact h.owes w hS, ?_⟩
    have := h.rest.run hc' w hS
    simpa using this

theorem comes_act {i : Nat} (ho : nth l i = some o) (he : es.contains i = true) (hw : Region.wanted o (yielded l.toArray T.toArray) = true)
    (h : OpX P g F o T L (Acts P g F l es qs K n listed i)) : Comes1 P g F l es qs K n listed T L i := ⟨o, ho, he, .inl ⟨hw, h⟩⟩
theorem comes_skip {i : Nat} (ho : nth l i = some o) (he : es.contains i = true) (hw : Region.wanted o (yielded l.toArray T.toArray) = false)
    (h : Acts P g F l es qs K n listed i (putD o.dst undef T) L) : Comes1 P g F l es qs K n listed T L i := ⟨o, ho, he, .inr ⟨hw, h⟩⟩

theorem any_flag {j : Nat} {c : Bool} (hj : nth T j = some (.bool c)) (h1 : c = true → Any P g F l es qs K n listed (T.set j (.bool true)) L) (h0 : c = false → Any P g F l es qs K n listed (T.set j (.bool false)) L) : Any P g F l es qs K n listed T L := by
  have hs : T.set j (.bool c) = T := by
    rw [nth_eq] at hj
    obtain ⟨hlt, e⟩ := List.getElem?_eq_some_iff.1 hj
    rw [← e]; simp
  cases c with
  | true => have := h1 rfl; rwa [hs] at this
  | false => have := h0 rfl; rwa [hs] at this
end
end Go.Xg
