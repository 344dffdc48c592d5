/- Memory operations over separation lists: loads, stores, new blocks, append, copy, make. Over any program. -/
import Derived.Test.YtmplimmcjdkhlaaLib1
import Derived.Laws.CopyOwn
namespace Go.Sl
open Go

/-- Element type E has zero value z, sz cells, by bytes. -/
def El (P : Program) (E : TypeId) (z : Value) (sz by_ : Nat) : Prop := ∃ i, P.info? E = some i ∧ i.zero = some z ∧ i.size = sz ∧ i.bytes = by_ ∧ z.cells.size = sz

theorem El.mk' {P : Program} {E : TypeId} {z : Value} {sz by_ : Nat} (h : (P.info? E).map (fun i => (i.zero, i.size, i.bytes)) = some (some z, sz, by_)) (hz : z.cells.size = sz) : El P E z sz by_ := by
  cases hi : P.info? E with
  | none => simp [hi] at h
  | some i => simp [hi] at h; exact ⟨i, hi, h.1, h.2.1, h.2.2, hz⟩

/-- A slice value reads as these cells. -/
def Rd (w : World) (sz : Nat) (s : Value) (n : Nat) (vs : List Value) : Prop :=
  ∃ a c, s = .slice a n c ∧ vs.length = n * sz ∧ ∀ j u, vs[j]? = some u → ∃ ad, a = some ad ∧ w.cell? (ad.add j) = some u

theorem Rd.nil (w : World) (sz c : Nat) : Rd w sz (.slice none 0 c) 0 [] := ⟨none, c, rfl, by simp, by simp⟩

theorem Rd.drew {w : World} {sz : Nat} {s : Value} {n : Nat} {vs : List Value} (h : Rd w sz s n vs) : Rd w.drew sz s n vs := h

theorem Rd.first {P : Program} {w : World} {sz : Nat} {s : Value} {n : Nat} {vs : List Value} (h : Rd w sz s n vs) : (Builtin.firstCells sz n s).run P w = .ok vs.toArray w := by
  obtain ⟨a, c, rfl, hl, hc⟩ := h
  cases a with
  | none =>
    have : vs = [] := by
      cases vs with
      | nil => rfl
      | cons v vs => obtain ⟨ad, h, _⟩ := hc 0 v rfl; cases h
    subst this
    simp [Builtin.firstCells]
  | some ad =>
    exact run_firstCells_some (P := P) w sz n ad n c vs hl (fun j v hv => by obtain ⟨ad', h, h'⟩ := hc j v hv; cases h; exact h')

/-- A slice of the function's own: nil, or it begins a block that nobody else has. -/
def ownS (E : TypeId) (sz : Nat) (s : Value) (n : Nat) (vs : List Value) : HP := fun m =>
  vs.length = n * sz ∧ ((s = .slice none 0 0 ∧ n = 0 ∧ emp m) ∨
    ∃ b cap sp, s = .slice (some ⟨b, 0, none⟩) n cap ∧ n ≤ cap ∧ cap ≤ maxLen ∧ sp.length = (cap - n) * sz ∧ row b E (vs ++ sp) m)

theorem SL.rd_row {g w : World} {L : List HP} {b o : Nat} {E : TypeId} {cs vs : List Value} {n c sz : Nat} (h : SL g L w) (hb : row b E cs ∈ L) (hl : vs.length = n * sz)
    (hv : ∀ j u, vs[j]? = some u → cs[o + j]? = some u) : Rd w sz (.slice (some ⟨b, o, none⟩) n c) n vs :=
  ⟨_, _, rfl, hl, fun j u hu => ⟨_, rfl, by rw [Addr.add_lit, h.cell hb]; exact hv j u hu⟩⟩

theorem SL.own_nil {g w : World} {L : List HP} (h : SL g L w) (E : TypeId) (sz : Nat) : SL g (ownS E sz (.slice none 0 0) 0 [] :: L) w := by
  obtain ⟨h1, h2, h3, m, hm, hs⟩ := h
  exact ⟨h1, h2, h3, m, hm, fun _ => none, m, ⟨by simp, .inl ⟨rfl, rfl, fun _ => rfl⟩⟩, hs, fun _ => .inl rfl, by rw [join_emp_left]; exact fun _ => rfl⟩

theorem SL.own_some {g w : World} {L : List HP} {b : Nat} {E : TypeId} {vs sp : List Value} {n cap sz : Nat} (h : SL g (row b E (vs ++ sp) :: L) w) (hl : vs.length = n * sz)
    (hn : n ≤ cap) (hm : cap ≤ maxLen) (hs : sp.length = (cap - n) * sz) : SL g (ownS E sz (.slice (some ⟨b, 0, none⟩) n cap) n vs :: L) w :=
  h.mono fun _ hm' => ⟨hl, .inr ⟨b, cap, sp, rfl, hn, hm, hs, hm'⟩⟩

theorem SL.own_cases {g w : World} {L : List HP} {E : TypeId} {sz : Nat} {s : Value} {n : Nat} {vs : List Value} (h : SL g (ownS E sz s n vs :: L) w) :
    vs.length = n * sz ∧ ((s = .slice none 0 0 ∧ n = 0 ∧ SL g L w) ∨
      ∃ b cap sp, s = .slice (some ⟨b, 0, none⟩) n cap ∧ n ≤ cap ∧ cap ≤ maxLen ∧ sp.length = (cap - n) * sz ∧ SL g (row b E (vs ++ sp) :: L) w) := by
  have ht := h.tail
  obtain ⟨h1, h2, h3, m, hm, x, y, ⟨hl, hx⟩, hy, d, rfl⟩ := h
  refine ⟨hl, ?_⟩
  rcases hx with ⟨rfl, rfl, _⟩ | ⟨b, cap, sp, rfl, e1, e2, e3, hr⟩
  · exact .inl ⟨rfl, rfl, ht⟩
  · exact .inr ⟨b, cap, sp, rfl, e1, e2, e3, h1, h2, h3, _, hm, x, y, hr, hy, d, rfl⟩

theorem SL.own_rd {g w : World} {L : List HP} {E : TypeId} {sz : Nat} {s : Value} {n : Nat} {vs : List Value} (h : SL g (ownS E sz s n vs :: L) w) : Rd w sz s n vs := by
  obtain ⟨hl, ⟨rfl, rfl, _⟩ | ⟨b, cap, sp, rfl, _, _, _, hr⟩⟩ := h.own_cases
  · have : vs = [] := by simpa using hl
    subst this
    exact Rd.nil w sz 0
  · refine hr.rd_row (.head _) hl fun j u hu => ?_
    rw [Nat.zero_add]
    have hj := (List.getElem?_eq_some_iff.1 hu).1
    rw [List.getElem?_append_left hj]; exact hu

section
variable {P : Program}

theorem zeroCells_list (z : Array Value) (n : Nat) : (Builtin.zeroCells z n).toList.length = n * z.size := by simp [Builtin.zeroCells]

theorem run_append_grow' (w : World) (t ty e : TypeId) (z : Value) (sz by_ : Nat) (ht : P.underlying t = some (.slice e)) (hE : El P e z sz by_)
    (s x : Value) (sa : Option Addr) (sCap sLen n : Nat) (olds news : List Value) (hs : s = .slice sa sLen sCap) (ho : Rd w sz s sLen olds) (hx : Rd w sz x n news) (hg : sCap < sLen + n)
    (h63 : sLen + n ≤ maxLen) (hfit : (sLen + n) * by_ ≤ 140737488355328) :
    (Builtin.append_ #[t, t] ty #[s, x]).run P w =
      .ok (.slice (some ⟨w.heap.size, 0, none⟩) (sLen + n) (grownCap w (sLen + n) sCap e))
        (w.drew.alloc (.cells ((olds ++ news) ++ (Builtin.zeroCells z.cells (grownCap w (sLen + n) sCap e - (sLen + n))).toList).toArray e)) := by
  obtain ⟨i, hi, hz, rfl, rfl, hzs⟩ := hE
  unfold maxLen at h63
  have hn : ¬ (sLen + n ≤ sCap) := by omega
  have h63' : ¬ (9223372036854775807 < ((sLen : Int) + (n : Int))) := by omega
  have hcap : Builtin.nextslicecap (sLen + n) sCap * i.bytes ≤ 281474976710656 := growslice_fits hg hfit
  have h48' : ¬ (281474976710656 < Builtin.nextslicecap (sLen + n) sCap * i.bytes) := by omega
  have hf := hx.drew.first (P := P)
  have hfo := ho.drew.first (P := P)
  obtain ⟨xa, xc, rfl, _⟩ := hx
  subst hs
  simp [Builtin.append_, run_underlying ht, sizeOf, typeInfo, zeroValue, hi, hz, Builtin.lenOf, hn, h63', h48', Question.forced, hf, hfo, newRow, grownCap]
  congr 2
  apply Array.ext'
  simp

theorem run_append_room' (w : World) (t ty e : TypeId) (z : Value) (sz by_ : Nat) (ht : P.underlying t = some (.slice e)) (hE : El P e z sz by_)
    (x : Value) (b sLen sCap n : Nat) (cs news : List Value) (hb : w.heap[b]? = some (.cells cs.toArray e)) (hx : Rd w sz x n news) (h1 : ∀ u ∈ news, u.oneCell' = true)
    (hroom : sLen + n ≤ sCap) (hfit : sLen * sz + news.length ≤ cs.length) :
    (Builtin.append_ #[t, t] ty #[.slice (some ⟨b, 0, none⟩) sLen sCap, x]).run P w =
      .ok (.slice (some ⟨b, 0, none⟩) (sLen + n) sCap) (w.setRow b (cs.take (sLen * sz) ++ news ++ cs.drop (sLen * sz + news.length)).toArray) := by
  obtain ⟨i, hi, hz, rfl, rfl, hzs⟩ := hE
  have hf := hx.first (P := P)
  have hst := run_storeCells_at P b (sLen * i.size) e news 0 cs.toArray w hb (by simpa using hfit) h1
  simp only [Nat.add_zero] at hst
  obtain ⟨xa, xc, rfl, _⟩ := hx
  simp [Builtin.append_, run_underlying ht, sizeOf, typeInfo, hi, Builtin.lenOf, hroom, hf, Addr.add_lit, hst]

theorem run_append_none (w : World) (t ty e : TypeId) (z : Value) (sz by_ : Nat) (ht : P.underlying t = some (.slice e)) (hE : El P e z sz by_) (x : Value) (news : List Value) (hx : Rd w sz x 0 news) :
    (Builtin.append_ #[t, t] ty #[.slice none 0 0, x]).run P w = .ok (.slice none 0 0) w := by
  obtain ⟨i, hi, hz, rfl, rfl, hzs⟩ := hE
  have hf := hx.first (P := P)
  obtain ⟨xa, xc, rfl, _⟩ := hx
  simp [Builtin.append_, run_underlying ht, sizeOf, typeInfo, hi, Builtin.lenOf, hf]

/-- append to a slice of one's own. -/
theorem SL.append {g w : World} {L : List HP} (t ty e : TypeId) (z : Value) (sz by_ : Nat) (ht : P.underlying t = some (.slice e)) (hE : El P e z sz by_)
    {s x : Value} {n k : Nat} {vs news : List Value} (h : SL g (ownS e sz s n vs :: L) w) (hx : Rd w sz x k news) (h1 : ∀ u ∈ news, u.oneCell' = true)
    (h63 : n + k ≤ maxLen) (hfit : (n + k) * by_ ≤ 140737488355328) :
    ∃ s' w', (Builtin.append_ #[t, t] ty #[s, x]).run P w = .ok s' w' ∧ SL g (ownS e sz s' (n + k) (vs ++ news) :: L) w' ∧ (s' = .slice none 0 0 ↔ s = .slice none 0 0 ∧ k = 0) := by
  have hzs : z.cells.size = sz := by obtain ⟨_, _, _, _, _, h⟩ := hE; exact h
  have hxl : news.length = k * sz := by obtain ⟨_, _, _, h, _⟩ := hx; exact h
  have ho := h.own_rd
  have grow : ∀ (sa : Option Addr) (sCap : Nat), s = .slice sa n sCap → sCap < n + k → SL g L w →
      ∃ s' w', (Builtin.append_ #[t, t] ty #[s, x]).run P w = .ok s' w' ∧ SL g (ownS e sz s' (n + k) (vs ++ news) :: L) w' ∧ (s' = .slice none 0 0 ↔ s = .slice none 0 0 ∧ k = 0) := by
    intro sa sCap hs hlt hL
    refine ⟨_, _, run_append_grow' w t ty e z sz by_ ht hE s x sa sCap n k vs news hs ho hx hlt h63 hfit, ?_, ?_⟩
    · refine SL.own_some (sp := (Builtin.zeroCells z.cells (grownCap w (n + k) sCap e - (n + k))).toList) (hL.drew.alloc _) ?_ (grownCap_ge _ _ _ _) (grownCap_le_maxLen _ _ _ _ h63) ?_
      · rw [List.length_append, ho.choose_spec.choose_spec.2.1, hxl, Nat.add_mul]
      · rw [zeroCells_list, hzs]
    · constructor
      · intro h; cases h
      · rintro ⟨e1, rfl⟩; rw [hs] at e1; cases e1; omega
  obtain ⟨hl, ⟨rfl, rfl, hL⟩ | ⟨b, cap, sp, rfl, hn, hm, hsp, hr⟩⟩ := h.own_cases
  · by_cases hk : k = 0
    · subst hk
      refine ⟨_, _, run_append_none w t ty e z sz by_ ht hE x news hx, ?_, by simp⟩
      have e1 : vs = [] := by simpa using hl
      have e2 : news = [] := by simpa using hxl
      subst e1; subst e2
      exact hL.own_nil e sz
    · exact grow none 0 rfl (by omega) hL
  · by_cases hroom : n + k ≤ cap
    · have hfit' : n * sz + news.length ≤ (vs ++ sp).length := by
        rw [List.length_append, hl, hsp, hxl, ← Nat.add_mul, ← Nat.add_mul]
        exact Nat.mul_le_mul_right _ (by omega)
      refine ⟨_, _, run_append_room' w t ty e z sz by_ ht hE x b n cap k (vs ++ sp) news (hr.get (.head _)) hx h1 hroom hfit', ?_, by simp⟩
      have e1 : (vs ++ sp).take (n * sz) ++ news ++ (vs ++ sp).drop (n * sz + news.length) = (vs ++ news) ++ sp.drop news.length := by
        rw [← hl, List.take_left', List.drop_append]; simp; rfl
      rw [e1]
      refine SL.own_some (hr.setRow _) ?_ hroom hm ?_
      · rw [List.length_append, hl, hxl, Nat.add_mul]
      · rw [List.length_drop, hsp, hxl, ← Nat.sub_mul]; congr 1; omega
    · exact grow _ cap rfl (by omega) hr.tail

/-- copy into a row. -/
theorem SL.copy {g w : World} {L : List HP} (dT sT ty e : TypeId) (z : Value) (by_ : Nat) (hu : P.underlying dT = some (.slice e)) (hE : El P e z 1 by_)
    {b o dLen dCap : Nat} {E' : TypeId} {cs vs : List Value} {x : Value} {k : Nat} (h : SL g (row b E' cs :: L) w) (hx : Rd w 1 x k vs) (h1 : ∀ u ∈ vs, u.oneCell' = true) (hfit : o + Nat.min k dLen ≤ cs.length) :
    ∃ w', (Builtin.copy_ #[dT, sT] ty #[.slice (some ⟨b, o, none⟩) dLen dCap, x]).run P w = .ok (goInt (Nat.min k dLen : Nat)) w' ∧
      SL g (row b E' (cs.take o ++ vs.take dLen ++ cs.drop (o + Nat.min k dLen)) :: L) w' := by
  obtain ⟨i, hi, hz, hsz, rfl, hzs⟩ := hE
  obtain ⟨xa, xc, rfl, hl, hc⟩ := hx
  have hlen : (vs.take dLen).length = Nat.min k dLen := by rw [List.length_take]; have : Nat.min k dLen = min k dLen := rfl; omega
  have hf : (Builtin.firstCells 1 (Nat.min k dLen) (.slice xa k xc)).run P w = .ok (vs.take dLen).toArray w := by
    have : Rd w 1 (.slice xa (Nat.min k dLen) xc) (Nat.min k dLen) (vs.take dLen) := by
      refine ⟨xa, xc, rfl, by omega, fun j u hu => ?_⟩
      refine hc j u ?_
      rw [List.getElem?_take] at hu
      split at hu
      · exact hu
      · cases hu
    have := this.first (P := P)
    cases xa <;> exact this
  have hst := run_storeCells_at P b o E' (vs.take dLen) 0 cs.toArray w (h.get (.head _)) (by simp only [Nat.add_zero, List.size_toArray]; rw [hlen]; exact hfit) (fun v hv => h1 v (List.mem_of_mem_take hv))
  simp only [Nat.add_zero] at hst
  refine ⟨_, ?_, h.setRow _⟩
  simp [Builtin.copy_, run_underlying hu, Builtin.lenOf, sizeOf, typeInfo, hi, hsz, hf, hst, hlen]

theorem SL.make {g w : World} {L : List HP} (h : SL g L w) (t e : TypeId) (z : Value) (sz by_ : Nat) (ht : P.underlying t = some (.slice e)) (hE : El P e z sz by_)
    (kl kc : IntKind) (l c : Int) (h0 : 0 ≤ l) (hlc : l ≤ c) (hbytes : (by_ : Int) * c ≤ 281474976710656) (h63 : c ≤ maxLen) :
    ∃ b w', (Instr.makeSlice t (.int kl l) (.int kc c)).run P w = .ok (.slice (some ⟨b, 0, none⟩) l.toNat c.toNat) w' ∧ SL g (row b e (madeCells z.cells (c.toNat * sz)).toList :: L) w' := by
  obtain ⟨i, hi, hz, rfl, rfl, hzs⟩ := hE
  refine ⟨_, _, run_make w t e i z ht hi hz kl kc l c h0 hlc hbytes (by unfold maxLen at h63; omega), ?_⟩
  have := h.alloc (.cells (madeCells z.cells (c.toNat * i.size)) e)
  simpa [row] using this

theorem run_loadVar_one (w : World) (t : TypeId) (d : TypeDesc) (hu : P.underlying t = some d) (hd : (match d with | .struct _ | .array _ _ => false | _ => true) = true) (a : Addr) (v : Value) (h : w.cell? a = some v) :
    (loadVar t a).run P w = .ok v w := by
  have : (isAgg t).run P w = .ok false w := by
    simp only [isAgg, Sem.run_bind, run_underlying hu, Result.andThen_ok]
    cases d <;> simp at hd <;> rfl
  simp [loadVar, this, h]

theorem run_loadVar_agg (w : World) (t : TypeId) (d : TypeDesc) (z : Value) (by_ sz : Nat) (hu : P.underlying t = some d) (hd : (match d with | .struct _ | .array _ _ => true | _ => false) = true) (hE : El P t z sz by_) (a : Addr) (vs : List Value)
    (hl : vs.length = sz) (h : ∀ j v, vs[j]? = some v → w.cell? (a.add j) = some v) :
    (loadVar t a).run P w = .ok (.agg vs.toArray) w := by
  obtain ⟨i, hi, hz, rfl, rfl, hzs⟩ := hE
  have h1 : (isAgg t).run P w = .ok true w := by
    simp only [isAgg, Sem.run_bind, run_underlying hu, Result.andThen_ok]
    cases d <;> simp at hd <;> rfl
  have := run_loadCells_list (P := P) w a vs h
  rw [hl] at this
  simp [loadVar, h1, sizeOf, typeInfo, hi, this]

theorem SL.storeOne {g w : World} {L : List HP} (t : TypeId) (z : Value) (by_ : Nat) (hE : El P t z 1 by_) {b o : Nat} {E' : TypeId} {cs : List Value} (h : SL g (row b E' cs :: L) w) (v : Value) (hv : v.oneCell' = true) (ho : o < cs.length) :
    ∃ w', (storeVar t ⟨b, o, none⟩ v).run P w = .ok () w' ∧ SL g (row b E' (cs.set o v) :: L) w' := by
  obtain ⟨i, hi, hz, hsz, rfl, hzs⟩ := hE
  have hc : w.cell? ⟨b, o, none⟩ = some cs[o] := by rw [h.cell (.head _), List.getElem?_eq_getElem ho]
  refine ⟨_, ?_, h.setCell (i := o) v⟩
  have hcv : v.cells = #[v] := by cases v <;> simp [Value.oneCell'] at hv <;> rfl
  have hfr := h.frozen (b := b) (E := E') (cs := cs) (.head _) o
  simp [storeVar, sizeOf, typeInfo, hi, hsz, hcv, storeCells, run_store _ _ _ _ _ hv, Addr.add_lit, hc, hfr]

theorem SL.storeAgg {g w : World} {L : List HP} (t : TypeId) (z : Value) (sz by_ : Nat) (hE : El P t z sz by_) {b o : Nat} {E' : TypeId} {cs : List Value} (h : SL g (row b E' cs :: L) w) (vs : List Value) (hl : vs.length = sz)
    (hv : ∀ v ∈ vs, v.oneCell' = true) (ho : o + sz ≤ cs.length) :
    ∃ w', (storeVar t ⟨b, o, none⟩ (.agg vs.toArray)).run P w = .ok () w' ∧ SL g (row b E' (cs.take o ++ vs ++ cs.drop (o + sz)) :: L) w' := by
  obtain ⟨i, hi, hz, rfl, rfl, hzs⟩ := hE
  have hst := run_storeCells_at P b o E' vs 0 cs.toArray w (h.get (.head _)) (by simp only [Nat.add_zero, List.size_toArray]; omega) hv
  simp only [Nat.add_zero] at hst
  refine ⟨_, ?_, h.setRow _⟩
  simp [storeVar, sizeOf, typeInfo, hi, Value.cells, hl, hst]
end
end Go.Sl
