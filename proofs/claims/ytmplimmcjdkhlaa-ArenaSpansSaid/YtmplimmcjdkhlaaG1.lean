/- Symbolic running of a function's code over separation lists: the machine's own steps. Over any program. -/
import Derived.Test.YtmplimmcjdkhlaaLib4
namespace Go.Xg
open Go Go.Sl
set_option linter.unusedVariables false

def base (f : FuncId) : Frame := { (default : Frame) with fn := f, kind := .normal }
def act (T : List Value) : Act := ⟨T.toArray, []⟩

/-- From here on the function ends as 'R' says. -/
structure At (P : Program) (f : FuncId) (g : World) (F : List HP) (R : Ending → World → Prop) (k : List Item) (T : List Value) (L : List HP) : Prop where
  run : ∀ w, SL g (L ++ F) w → ∀ cs, ∃ e w' fr, R e w' ∧ Comes P (lone ((base f).at (act T) k) cs w) (lone fr cs w') e ∧ fr.fn = f ∧ fr.leaving P w' e

/-- What a function does: its cells before, its value and its cells behind. -/
def RPost (g : World) (F : List HP) (post : Value → List HP → Prop) : Ending → World → Prop :=
  fun e w' => ∃ v ps, post v ps ∧ e = .returned v ∧ SL g (ps ++ F) w'

structure Does (P : Program) (f : FuncId) (args : List Value) (pre : List HP) (post : Value → List HP → Prop) : Prop where
  run : ∀ (g : World) (F : List HP) (w : World), SL g (pre ++ F) w → Calls P f args.toArray w (RPost g F post)

section
variable {P : Program} {f : FuncId} {g : World} {F : List HP} {R : Ending → World → Prop} {k k' : List Item} {T T' : List Value} {L L' : List HP}

theorem At.go (hs : ∀ w cs, step P (lone ((base f).at (act T) k) cs w) = .next (lone ((base f).at (act T') k') cs w)) (h : At P f g F R k' T' L) : At P f g F R k T L :=
  ⟨fun w hS cs => let ⟨e, w', fr, hR, hc, hf, hl⟩ := h.run w hS cs; ⟨e, w', fr, hR, Comes.of_steps (.one (hs w cs)) hc, hf, hl⟩⟩

theorem At.sl (hs : ∀ w, SL g (L ++ F) w → SL g (L' ++ F) w) (h : At P f g F R k T L') : At P f g F R k T L := ⟨fun w hS => h.run w (hs w hS)⟩

theorem at_seq {x y : Code} (h : At P f g F R (.code x :: .code y :: k) T L) : At P f g F R (.code (.seq x y) :: k) T L := h.go fun _ _ => step_seq
theorem at_skip (h : At P f g F R k T L) : At P f g F R (.code .skip :: k) T L := h.go fun _ _ => step_skip
theorem at_label {l : Nat} (h : At P f g F R k T L) : At P f g F R (.code (.label l) :: k) T L := h.go fun _ _ => step_label
theorem at_block {id : Nat} {c : Code} (h : At P f g F R (.code c :: .inBlock id :: k) T L) : At P f g F R (.code (.block id c) :: k) T L := h.go fun _ _ => step_block
theorem at_inBlock {id : Nat} (h : At P f g F R k T L) : At P f g F R (.inBlock id :: k) T L := h.go fun _ _ => step_inBlock
theorem at_loop {c : Code} (h : At P f g F R (.code c :: .inLoop c :: k) T L) : At P f g F R (.code (.loop c) :: k) T L := h.go fun _ _ => step_loop
theorem at_inLoop {c : Code} (h : At P f g F R (.code c :: .inLoop c :: k) T L) : At P f g F R (.inLoop c :: k) T L := h.go fun _ _ => step_inLoop
theorem at_exit {id : Nat} (hk : exitTo id k = some k') (h : At P f g F R k' T L) : At P f g F R (.code (.exit id) :: k) T L := h.go fun _ _ => step_exit hk

theorem act_eval (T : List Value) (x : Operand) : (act T).eval x = ev T x := ev_eq T [] x

theorem at_cond {c : Operand} {x y : Code} {t : Bool} (hc : ev T c = .bool t) (h1 : t = true → At P f g F R (.code x :: k) T L) (h0 : t = false → At P f g F R (.code y :: k) T L) :
    At P f g F R (.code (.cond c x y) :: k) T L := by
  cases t with
  | true => exact (h1 rfl).go fun _ _ => step_cond (t := true) (by rw [act_eval]; exact hc)
  | false => exact (h0 rfl).go fun _ _ => step_cond (t := false) (by rw [act_eval]; exact hc)

theorem at_true {c : Operand} {x y : Code} {t : Bool} (hc : ev T c = .bool t) (ht : t = true) (h : At P f g F R (.code x :: k) T L) : At P f g F R (.code (.cond c x y) :: k) T L :=
  at_cond hc (fun _ => h) fun h0 => by rw [ht] at h0; cases h0
theorem at_false {c : Operand} {x y : Code} {t : Bool} (hc : ev T c = .bool t) (ht : t = false) (h : At P f g F R (.code y :: k) T L) : At P f g F R (.code (.cond c x y) :: k) T L :=
  at_cond hc (fun h0 => by rw [ht] at h0; cases h0) fun _ => h
theorem at_dec {c : Operand} {x y : Code} {p : Prop} [inst : Decidable p] (hc : ev T c = .bool (decide p)) (h1 : p → At P f g F R (.code x :: k) T L) (h0 : ¬ p → At P f g F R (.code y :: k) T L) :
    At P f g F R (.code (.cond c x y) :: k) T L :=
  at_cond hc (fun h => h1 (of_decide_eq_true h)) fun h => h0 (of_decide_eq_false h)

theorem leaves {fn : Func} {v : Value} {w : World} {todo : List Item} (hf : P.funcs[f]? = some fn) (hr : (results fn T.toArray).run P w = .ok v w) :
    ({ (base f).at (act T) todo with mode := .returning } : Frame).leaving P w (.returned v) := ⟨rfl, rfl, rfl, fn, hf, hr⟩

theorem at_ret {fn : Func} {v : Value} (hf : P.funcs[f]? = some fn) (hr : ∀ w, SL g (L ++ F) w → (results fn T.toArray).run P w = .ok v w) (h : ∀ w, SL g (L ++ F) w → R (.returned v) w) :
    At P f g F R (.code .ret :: k) T L :=
  ⟨fun w hS cs => ⟨.returned v, w, _, h w hS, .one step_ret, rfl, leaves hf (hr w hS)⟩⟩
theorem at_end {fn : Func} {v : Value} (hf : P.funcs[f]? = some fn) (hr : ∀ w, SL g (L ++ F) w → (results fn T.toArray).run P w = .ok v w) (h : ∀ w, SL g (L ++ F) w → R (.returned v) w) :
    At P f g F R [] T L :=
  ⟨fun w hS cs => ⟨.returned v, w, _, h w hS, .one step_end, rfl, leaves hf (hr w hS)⟩⟩

theorem calls_of {fn : Func} {c : Code} {args : List Value} {n : Nat} (hf : P.funcs[f]? = some fn) (hb : fn.body = some c) (hn : fn.ntmps = n)
    (h : At P f g F R [.code c] (args ++ List.replicate (n - args.length) undef) L) {w : World} (hS : SL g (L ++ F) w) : Calls P f args.toArray w R := by
  intro cs
  have henter : Frame.enter P f args.toArray .normal = (base f).at (act (args ++ List.replicate (n - args.length) undef)) [.code c] := by
    simp [Frame.enter, Frame.at, hf, hb, base, act, hn]
  rw [henter]
  exact h.run w hS cs

theorem spec_of {fn : Func} {c : Code} {args : List Value} {n : Nat} {pre : List HP} {post : Value → List HP → Prop} (hf : P.funcs[f]? = some fn) (hb : fn.body = some c) (hn : fn.ntmps = n)
    (h : ∀ g F, At P f g F (RPost g F post) [.code c] (args ++ List.replicate (n - args.length) undef) pre) : Does P f args pre post :=
  ⟨fun g F _ hS => calls_of hf hb hn (h g F) hS⟩

/-! ### operations -/

def RQ (g : World) (F : List HP) (K : List Value → List HP → Prop) : Exit → Act → World → Prop :=
  fun e a w => e = .normal ∧ ∃ T' L', a = act T' ∧ SL g (L' ++ F) w ∧ K T' L'

def OK1 (g : World) (F : List HP) (K : List Value → List HP → Prop) : Act → World → Prop := fun a w => ∃ T' L', a = act T' ∧ SL g (L' ++ F) w ∧ K T' L'

/-- One operation. -/
structure OpX (P : Program) (g : World) (F : List HP) (o : Oper) (T : List Value) (L : List HP) (K : List Value → List HP → Prop) : Prop where
  run : ∀ w, SL g (L ++ F) w → o.wp P (act T) w (OK1 g F K) NoQ

/-- The operations of a region that are left, in this order. -/
structure Ops (P : Program) (g : World) (F : List HP) (all : List Oper) (K : List Value → List HP → Prop) (rem : List Oper) (T : List Value) (L : List HP) : Prop where
  run : ∀ w, SL g (L ++ F) w → wpList P all.toArray (RQ g F K) rem (act T) w

variable {all rem l : List Oper} {o : Oper} {K K' : List Value → List HP → Prop}

theorem at_region {id : Nat} (h : Ops P g F l (fun T' L' => At P f g F R k T' L') l T L) : At P f g F R (.code (.region id l.toArray false) :: k) T L := by
  constructor
  intro w hS cs
  obtain ⟨e, a', w', ⟨rfl, T', L', rfl, hS', hk⟩, harr⟩ := wp_region_lit (id := id) (h.run w hS) (base f) k cs
  obtain ⟨e, w2, fr, hR, hc, hf, hl⟩ := hk.run w' hS' cs
  exact ⟨e, w2, fr, hR, Comes.of_steps harr hc, hf, hl⟩

theorem ops_nil (h : K T L) : Ops P g F all K [] T L := ⟨fun w hS => ⟨rfl, T, L, rfl, hS, h⟩⟩

theorem ops_op (hw : Region.wanted o (yielded all.toArray T.toArray) = true) (h : OpX P g F o T L (fun T' L' => Ops P g F all K rem T' L')) : Ops P g F all K (o :: rem) T L := by
  constructor
  intro w hS
  unfold wpList
  rw [if_pos (by exact hw)]
  refine .inl (wp_weak (fun _ _ _ h => h.elim) (Oper.wp_mono ?_ (h.run w hS)))
  rintro a w ⟨T', L', rfl, hS', h'⟩
  exact h'.run w hS'

theorem wanted_plain (hg : o.guard = none) : Region.wanted o (yielded all.toArray T.toArray) = true := by simp [Region.wanted, hg]

def putD (d : Option Nat) (v : Value) (T : List Value) : List Value := match d with
  | some d => T.set d v
  | none => T

theorem act_put (d : Option Nat) (v : Value) (T : List Value) : (act T).put d v = act (putD d v T) := by
  cases d <;> simp [act, Act.put, putD]

theorem ops_skip (hw : Region.wanted o (yielded all.toArray T.toArray) = false) (h : Ops P g F all K rem (putD o.dst undef T) L) : Ops P g F all K (o :: rem) T L := by
  constructor
  intro w hS
  unfold wpList
  rw [if_neg (by show ¬ Region.wanted o (yielded all.toArray T.toArray) = true; rw [hw]; simp), act_put]
  exact h.run w hS

theorem opx_val {d : Nat} (v : Value) (hd : o.dst = some d) (he : ∀ w, SL g (L ++ F) w → (execOp (act T).eval o).run P w = .ok (.value v) w) (h : K (T.set d v) L) : OpX P g F o T L K :=
  ⟨fun w hS => op_value (he w hS) ⟨T.set d v, L, by rw [act_put, hd]; rfl, hS, h⟩⟩

/-- An operation that only reckons. -/
theorem opx_pure {d : Nat} (v : Value) (hd : o.dst = some d) (he : ∀ w, (execOp (act T).eval o).run P w = .ok (.value v) w) (h : K (T.set d v) L) : OpX P g F o T L K :=
  opx_val v hd (fun w _ => he w) h

/-- .. by an equation. -/
theorem opx_eq {d : Nat} {v : Value} (v' : Value) (hd : o.dst = some d) (he : ∀ w, (execOp (act T).eval o).run P w = .ok (.value v) w) (hb : v = v') (h : K (T.set d v') L) : OpX P g F o T L K := by
  subst hb; exact opx_pure _ hd he h

/-- .. an integer, by an equation. -/
theorem opx_int {d : Nat} (kd : IntKind) (e : Int) {e' : Int} (hd : o.dst = some d) (he : ∀ w, (execOp (act T).eval o).run P w = .ok (.value (.int kd e)) w) (hb : e = e') (h : K (T.set d (.int kd e')) L) : OpX P g F o T L K := by
  subst hb; exact opx_pure _ hd he h

/-- A flag is parted. -/
theorem ops_flag {j : Nat} {c : Bool} (hj : nth T j = some (.bool c)) (h1 : c = true → Ops P g F all K rem (T.set j (.bool true)) L) (h0 : c = false → Ops P g F all K rem (T.set j (.bool false)) L) : Ops P g F all K rem T L := by
  have hs : T.set j (.bool c) = T := by
    rw [nth_eq] at hj
    obtain ⟨hlt, e⟩ := List.getElem?_eq_some_iff.1 hj
    rw [← e]; simp
  cases c with
  | true => have := h1 rfl; rwa [hs] at this
  | false => have := h0 rfl; rwa [hs] at this

theorem ops_flag_dec {j : Nat} {p : Prop} [inst : Decidable p] (hj : nth T j = some (.bool (decide p))) (h1 : p → Ops P g F all K rem (T.set j (.bool true)) L) (h0 : ¬ p → Ops P g F all K rem (T.set j (.bool false)) L) : Ops P g F all K rem T L :=
  ops_flag hj (fun h => h1 (of_decide_eq_true h)) fun h => h0 (of_decide_eq_false h)

/-! ### memory -/

theorem sl_nth {w : World} {i b : Nat} {E : TypeId} {cs : List Value} (hL : nth L i = some (row b E cs)) : row b E cs ∈ L ++ F :=
  List.mem_append_left _ (List.mem_of_getElem? (by rw [← nth_eq]; exact hL))

theorem opx_load {d : Nat} {t ty : TypeId} {x : Operand} {pos : String} {after : Array Edge} {gd : Option (Nat × Bool)} {b off : Nat} {E : TypeId} {cs : List Value} (i : Nat) (v : Value)
    (hL : nth L i = some (row b E cs)) (hx : ev T x = .pointer (some ⟨b, off, none⟩)) (hc : cs[off]? = some v) (ht : one P t = true)
    (h : K (T.set d v) L) : OpX P g F { dst := some d, op := .load t x, type := ty, pos, after, guard := gd } T L K :=
  (opx_val v rfl (fun w hS => exec_load _ (by rw [act_eval]; exact hx) (one_load w t ht _ v (by rw [hS.cell (b := b) (E := E) (cs := cs) (sl_nth (w := w) hL)]; exact hc))) h)

theorem opx_loada {d : Nat} {t ty : TypeId} {x : Operand} {pos : String} {after : Array Edge} {gd : Option (Nat × Bool)} {b off : Nat} {E : TypeId} {cs : List Value} {z : Value} {sz by_ : Nat} (i : Nat) (vs : List Value)
    (hE : El P t z sz by_) (hL : nth L i = some (row b E cs)) (hx : ev T x = .pointer (some ⟨b, off, none⟩)) (hl : vs.length = sz) (hc : ∀ j v, vs[j]? = some v → cs[off + j]? = some v) (ht : aggTy P t = true)
    (h : K (T.set d (.agg vs.toArray)) L) : OpX P g F { dst := some d, op := .load t x, type := ty, pos, after, guard := gd } T L K :=
  (opx_val _ rfl (fun w hS => exec_load _ (by rw [act_eval]; exact hx) (agg_load w t hE ht _ vs hl fun j v hv => by
    rw [Addr.add_lit, hS.cell (b := b) (E := E) (cs := cs) (sl_nth (w := w) hL)]; exact hc j v hv)) h)

theorem cons_erase {α : Type _} {l : List α} {i : Nat} (h : i < l.length) : (l[i] :: l.eraseIdx i).Perm l := by
  rw [List.eraseIdx_eq_take_drop_succ]
  refine List.perm_middle.symm.trans ?_
  rw [List.getElem_cons_drop, List.take_append_drop]

theorem sl_at (i : Nat) {A : HP} (hL : nth L i = some A) {w : World} (hS : SL g (L ++ F) w) : SL g (A :: (L.eraseIdx i ++ F)) w := by
  rw [nth_eq] at hL
  refine hS.perm ?_
  obtain ⟨hlt, rfl⟩ := List.getElem?_eq_some_iff.1 hL
  exact (cons_erase hlt).symm.append_right F

theorem sl_back (i : Nat) {A B : HP} (hL : nth L i = some A) {w : World} (hS : SL g (B :: (L.eraseIdx i ++ F)) w) : SL g (L.set i B ++ F) w := by
  rw [nth_eq] at hL
  refine hS.perm ?_
  obtain ⟨hlt, rfl⟩ := List.getElem?_eq_some_iff.1 hL
  have h2 : (L.set i B).eraseIdx i = L.eraseIdx i := by rw [List.eraseIdx_set_eq]
  have h1 := cons_erase (l := L.set i B) (i := i) (by simpa using hlt)
  rw [List.getElem_set_self, h2] at h1
  exact h1.append_right F

theorem opx_store {t ty : TypeId} {x y : Operand} {pos : String} {after : Array Edge} {gd : Option (Nat × Bool)} {b off : Nat} {E : TypeId} {cs : List Value} {z : Value} {by_ : Nat} (i : Nat) (v : Value)
    (hL : nth L i = some (row b E cs)) (hx : ev T x = .pointer (some ⟨b, off, none⟩)) (hy : ev T y = v) (hE : El P t z 1 by_) (hv : v.oneCell' = true) (ho : off < cs.length)
    (h : K T (L.set i (row b E (cs.set off v)))) : OpX P g F { dst := none, op := .store t x y, type := ty, pos, after, guard := gd } T L K := by
  constructor
  intro w hS
  obtain ⟨w', hr, h'⟩ := (sl_at i hL hS).storeOne t z by_ hE v hv ho
  exact op_skip (exec_store _ (by rw [act_eval]; exact hx) (by rw [act_eval]; exact hy) hr) ⟨T, _, rfl, sl_back i hL h', h⟩

theorem opx_storea {t ty : TypeId} {x y : Operand} {pos : String} {after : Array Edge} {gd : Option (Nat × Bool)} {b off : Nat} {E : TypeId} {cs : List Value} {z : Value} {sz by_ : Nat} (i : Nat) (vs : List Value)
    (hE : El P t z sz by_) (hL : nth L i = some (row b E cs)) (hx : ev T x = .pointer (some ⟨b, off, none⟩)) (hy : ev T y = .agg vs.toArray) (hl : vs.length = sz) (hv : vs.all (·.oneCell') = true) (ho : off + sz ≤ cs.length)
    (h : K T (L.set i (row b E (cs.take off ++ vs ++ cs.drop (off + sz))))) : OpX P g F { dst := none, op := .store t x y, type := ty, pos, after, guard := gd } T L K := by
  constructor
  intro w hS
  obtain ⟨w', hr, h'⟩ := (sl_at i hL hS).storeAgg t z sz by_ hE vs hl (fun v hv' => List.all_eq_true.1 hv v hv') ho
  exact op_skip (exec_store _ (by rw [act_eval]; exact hx) (by rw [act_eval]; exact hy) hr) ⟨T, _, rfl, sl_back i hL h', h⟩

theorem opx_box {d : Nat} {t ty : TypeId} {x : Operand} {pos : String} {after : Array Edge} {gd : Option (Nat × Bool)} {v : Value} (cs : List Value)
    (hx : ev T x = v) (hv : v.cells = cs.toArray)
    (h : ∀ b, K (T.set d (.pointer (some ⟨b, 0, none⟩))) (row b t cs :: L)) : OpX P g F { dst := some d, op := .box t x, type := ty, pos, after, guard := gd } T L K := by
  refine ⟨fun w hS => op_value (exec_box _) ?_⟩
  rw [act_put, act_eval, hx, hv]
  exact ⟨_, _, rfl, hS.alloc _, h _⟩

theorem opx_alloc {d : Nat} {t ty : TypeId} {pos : String} {after : Array Edge} {gd : Option (Nat × Bool)} {z : Value} {sz by_ : Nat} (cs : List Value)
    (hE : El P t z sz by_) (hv : z.cells = cs.toArray)
    (h : ∀ b, K (T.set d (.pointer (some ⟨b, 0, none⟩))) (row b t cs :: L)) : OpX P g F { dst := some d, op := .alloc t, type := ty, pos, after, guard := gd } T L K := by
  refine ⟨fun w hS => op_value (exec_alloc _ hE) ?_⟩
  rw [act_put, hv]
  exact ⟨_, _, rfl, hS.alloc _, h _⟩

/-! ### calls -/

/-- The parts with these numbers. -/
def pick (is : List Nat) (L : List HP) : List HP := is.filterMap (nth L ·)
/-- The others. -/
def rest (is : List Nat) (L : List HP) : List HP := ((List.range L.length).filter fun i => !is.contains i).filterMap (nth L ·)

theorem pick_range (L : List HP) : pick (List.range L.length) L = L := by
  unfold pick
  induction L with
  | nil => rfl
  | cons a L ih =>
    rw [List.length_cons, List.range_succ_eq_map, List.filterMap_cons, List.filterMap_map]
    simp only [nth]
    exact congrArg _ ih

theorem pick_perm (is : List Nat) (L : List HP) (hn : is.Nodup) (hlt : ∀ i ∈ is, i < L.length) : L.Perm (pick is L ++ rest is L) := by
  have h0 : ((List.range L.length).filter fun i => is.contains i).Perm is := by
    rw [List.perm_ext_iff_of_nodup (List.nodup_range.filter _) hn]
    intro a
    simp only [List.mem_filter, List.mem_range, List.contains_iff_mem]
    exact ⟨fun h => h.2, fun h => ⟨hlt a h, h⟩⟩
  have h1 : (List.range L.length).Perm (is ++ (List.range L.length).filter fun i => !is.contains i) :=
    ((h0.symm.append_right _).trans (List.filter_append_perm _ _)).symm
  have h2 := h1.filterMap (nth L ·)
  rw [List.filterMap_append] at h2
  have h3 := pick_range L
  unfold pick at h3
  rw [h3] at h2
  exact h2

def okPick (is : List Nat) (n : Nat) : Bool := decide is.Nodup && is.all (· < n)

theorem sl_pick (is : List Nat) (h : okPick is L.length = true) {w : World} (hS : SL g (L ++ F) w) : SL g (pick is L ++ (rest is L ++ F)) w := by
  simp only [okPick, Bool.and_eq_true, decide_eq_true_eq, List.all_eq_true] at h
  rw [← List.append_assoc]
  exact hS.perm ((pick_perm is L h.1 h.2).append_right F)

theorem sl_drop (ps : List HP) : ∀ {K : List HP} {w : World}, SL g (ps ++ K) w → SL g K w := by
  induction ps with
  | nil => intro K w h; exact h
  | cons p ps ih => intro K w h; exact ih h.tail

/-- Only these are kept, in this order. -/
theorem sl_keep (is : List Nat) (h : okPick is L.length = true) {w : World} (hS : SL g (L ++ F) w) : SL g (pick is L ++ F) w := by
  have h1 := sl_pick is h hS
  have h2 : SL g (rest is L ++ (pick is L ++ F)) w := h1.perm (by
    rw [← List.append_assoc, ← List.append_assoc]; exact List.perm_append_comm.append_right F)
  exact sl_drop _ h2

theorem at_keep (is : List Nat) (h : okPick is L.length = true) (hk : At P f g F R k T (pick is L)) : At P f g F R k T L := hk.sl fun _ => sl_keep is h

theorem at_ret_spec {fn : Func} {v : Value} {post : Value → List HP → Prop} (is : List Nat) (hf : P.funcs[f]? = some fn) (hr : ∀ w, (results fn T.toArray).run P w = .ok v w)
    (hi : okPick is L.length = true) (hp : post v (pick is L)) : At P f g F (RPost g F post) (.code .ret :: k) T L :=
  at_ret hf (fun w _ => hr w) fun _ hS => ⟨v, pick is L, hp, rfl, sl_keep is hi hS⟩

theorem at_end_spec {fn : Func} {v : Value} {post : Value → List HP → Prop} (is : List Nat) (hf : P.funcs[f]? = some fn) (hr : ∀ w, (results fn T.toArray).run P w = .ok v w)
    (hi : okPick is L.length = true) (hp : post v (pick is L)) : At P f g F (RPost g F post) [] T L :=
  at_end hf (fun w _ => hr w) fun _ hS => ⟨v, pick is L, hp, rfl, sl_keep is hi hS⟩

/-- A call, by what is known of the function; its parts are the ones with the numbers 'is'. -/
theorem opx_call {h : FuncId} {args : List Value} {pre : List HP} {post : Value → List HP → Prop} (is : List Nat) (he : ∀ w, (execOp (act T).eval o).run P w = .ok (.enter h args.toArray) w)
    (hs : Does P h args pre post) (hi : okPick is L.length = true) (hp : pick is L = pre) (hk : ∀ v ps, post v ps → K (putD o.dst v T) (ps ++ rest is L)) : OpX P g F o T L K := by
  constructor
  intro w hS
  have h1 := sl_pick is hi hS
  rw [hp] at h1
  have h2 := hs.run g (rest is L ++ F) w h1
  unfold Oper.wp
  rw [he w]
  refine h2.mono fun e w' he => ?_
  obtain ⟨v, ps, hpost, rfl, hS'⟩ := he
  refine ⟨putD o.dst v T, ps ++ rest is L, by rw [act_put], by rw [List.append_assoc]; exact hS', hk v ps hpost⟩

end
end Go.Xg
