/- Symbolic running: append of made zeros; copy into a slice of one's own. Over any program. -/
import Derived.Test.YtmplimmcjdkhlaaG10
namespace Go.Xg
open Go Go.Sl
set_option linter.unusedVariables false
set_option linter.unusedSimpArgs false

def isInt (P : Program) (t : TypeId) : Bool := match P.underlying t with
  | some (.int _) => true
  | _ => false
theorem isInt_u {P : Program} {t : TypeId} (h : isInt P t = true) : ∃ k, P.underlying t = some (.int k) := by
  unfold isInt at h; split at h
  · exact ⟨_, by assumption⟩
  · cases h

section
variable {P : Program}

theorem zeroCells_ints (kd : IntKind) (n : Nat) : (Builtin.zeroCells (Value.int kd 0).cells n) = (List.replicate n (Value.int kd 0)).toArray := by
  apply Array.ext'
  apply List.ext_getElem
  · simp [Builtin.zeroCells, Value.cells]
  · intro i h1 h2
    simp [Builtin.zeroCells, Value.cells, Nat.mod_one]

theorem run_appz_grow (w : World) (t ti ty e : TypeId) (kd ki : IntKind) (by_ : Nat) (ht : P.underlying t = some (.slice e)) (hti : isInt P ti = true) (hE : El P e (.int kd 0) 1 by_)
    (s : Value) (sa : Option Addr) (sCap sLen n : Nat) (olds : List Value) (hs : s = .slice sa sLen sCap) (ho : Rd w 1 s sLen olds) (hg : sCap < sLen + n) (hpos : 0 < n)
    (h63 : sLen + n ≤ maxLen) (hfit : (sLen + n) * by_ ≤ 140737488355328) :
    (Builtin.append_ #[t, ti] ty #[s, .int ki n]).run P w =
      .ok (.slice (some ⟨w.heap.size, 0, none⟩) (sLen + n) (grownCap w (sLen + n) sCap e))
        (w.drew.alloc (.cells ((olds ++ List.replicate n (Value.int kd 0)) ++ List.replicate (grownCap w (sLen + n) sCap e - (sLen + n)) (Value.int kd 0)).toArray e)) := by
  obtain ⟨k0, hti⟩ := isInt_u hti
  obtain ⟨i, hi, hz, hs1, rfl, hzs⟩ := hE
  unfold maxLen at h63
  have hn : ¬ (sLen + n ≤ sCap) := by omega
  have hwr : IntKind.i64.wrap (n : Int) = n := wrap_i64_in (by omega)
  have h63' : ¬ (9223372036854775807 < ((sLen : Int) + (n : Int))) := by omega
  have hcap : Builtin.nextslicecap (sLen + n) sCap * i.bytes ≤ 281474976710656 := growslice_fits hg hfit
  have h48' : ¬ (281474976710656 < Builtin.nextslicecap (sLen + n) sCap * i.bytes) := by omega
  have hnb : ((n * i.bytes : Nat) : Int) ≤ 281474976710656 := by
    have : n * i.bytes ≤ (sLen + n) * i.bytes := Nat.mul_le_mul_right _ (by omega)
    omega
  have h48 : ¬ (281474976710656 < (n : Int) * (i.bytes : Int)) := by rw [← Int.natCast_mul]; omega
  have hfo := ho.drew.first (P := P)
  subst hs
  have hl0 : ¬ ((n : Int) < 0) := by omega
  have hn0 : n ≠ 0 := by omega
  simp [Builtin.append_, run_underlying ht, run_underlying hti, sizeOf, typeInfo, hi, asInt, asIntOf, hwr, hl0, h48, hn, h63', h48', Question.forced, hfo, hn0, newRow, grownCap, zeroValue, hz, zeroCells_ints, hs1]
  congr 2
  apply Array.ext'
  simp

theorem run_appz_room (w : World) (t ti ty e : TypeId) (kd ki : IntKind) (by_ : Nat) (ht : P.underlying t = some (.slice e)) (hti : isInt P ti = true) (hE : El P e (.int kd 0) 1 by_)
    (b sLen sCap n : Nat) (cs : List Value) (hb : w.heap[b]? = some (.cells cs.toArray e)) (hpos : 0 < n) (h63 : sLen + n ≤ maxLen) (hfit : (sLen + n) * by_ ≤ 140737488355328)
    (hroom : sLen + n ≤ sCap) (hfit' : sLen + n ≤ cs.length) :
    (Builtin.append_ #[t, ti] ty #[.slice (some ⟨b, 0, none⟩) sLen sCap, .int ki n]).run P w =
      .ok (.slice (some ⟨b, 0, none⟩) (sLen + n) sCap) (w.setRow b (cs.take sLen ++ List.replicate n (Value.int kd 0) ++ cs.drop (sLen + n)).toArray) := by
  obtain ⟨k0, hti⟩ := isInt_u hti
  obtain ⟨i, hi, hz, hs1, rfl, hzs⟩ := hE
  unfold maxLen at h63
  have hwr : IntKind.i64.wrap (n : Int) = n := wrap_i64_in (by omega)
  have hnb : ((n * i.bytes : Nat) : Int) ≤ 281474976710656 := by
    have : n * i.bytes ≤ (sLen + n) * i.bytes := Nat.mul_le_mul_right _ (by omega)
    omega
  have h48 : ¬ (281474976710656 < (n : Int) * (i.bytes : Int)) := by rw [← Int.natCast_mul]; omega
  have hl0 : ¬ ((n : Int) < 0) := by omega
  have hn0 : n ≠ 0 := by omega
  have hst := run_storeCells_at P b sLen e (List.replicate n (Value.int kd 0)) 0 cs.toArray w hb (by simpa using hfit') (fun v hv => by rw [List.eq_of_mem_replicate hv]; rfl)
  simp only [Nat.add_zero, List.length_replicate] at hst
  simp [Builtin.append_, run_underlying ht, run_underlying hti, sizeOf, typeInfo, hi, asInt, asIntOf, hwr, hl0, h48, hroom, hn0, zeroValue, hz, zeroCells_ints, hs1, Addr.add_lit, hst]

theorem run_appz_none (w : World) (t ti ty e : TypeId) (kd ki : IntKind) (by_ : Nat) (ht : P.underlying t = some (.slice e)) (hti : isInt P ti = true) (hE : El P e (.int kd 0) 1 by_) (a : Option Addr) (n c : Nat) (h : n ≤ c) (ha : ∀ x, a = some x → x.spot = none) :
    (Builtin.append_ #[t, ti] ty #[.slice a n c, .int ki 0]).run P w = .ok (.slice a n c) w := by
  obtain ⟨k0, hti⟩ := isInt_u hti
  obtain ⟨i, hi, hz, hs1, rfl, hzs⟩ := hE
  have hwr : IntKind.i64.wrap 0 = 0 := wrap_i64_in (by omega)
  cases a with
  | none => simp [Builtin.append_, run_underlying ht, run_underlying hti, sizeOf, typeInfo, hi, asInt, asIntOf, hwr, h]
  | some b => simp [Builtin.append_, run_underlying ht, run_underlying hti, sizeOf, typeInfo, hi, asInt, asIntOf, hwr, h, storeCells]

end

section
variable {P : Program} {g : World} {F L : List HP} {K : List Value → List HP → Prop} {T : List Value}

theorem SL_appz {w : World} {t ti ty e : TypeId} {kd ki : IntKind} {by_ : Nat} (ht : P.underlying t = some (.slice e)) (hti : isInt P ti = true) (hE : El P e (.int kd 0) 1 by_)
    {a : Option Addr} {c n : Nat} {xs : List Int} (h : SL g (ints e kd a c xs :: L) w) (h63 : xs.length + n ≤ maxLen) (hfit : (xs.length + n) * by_ ≤ 140737488355328) :
    ∃ a' c' w', (Builtin.append_ #[t, ti] ty #[.slice a xs.length c, .int ki n]).run P w = .ok (.slice a' (xs ++ List.replicate n 0).length c') w' ∧ SL g (ints e kd a' c' (xs ++ List.replicate n 0) :: L) w' := by
  have ho := h.own_rd
  have el : (xs ++ List.replicate n (0 : Int)).length = xs.length + n := by simp
  have em : (xs ++ List.replicate n (0 : Int)).map (Value.int kd) = xs.map (Value.int kd) ++ List.replicate n (Value.int kd 0) := by simp
  have grow : c < xs.length + n → 0 < n → SL g L w → ∃ a' c' w', (Builtin.append_ #[t, ti] ty #[.slice a xs.length c, .int ki n]).run P w = .ok (.slice a' (xs ++ List.replicate n 0).length c') w' ∧ SL g (ints e kd a' c' (xs ++ List.replicate n 0) :: L) w' := by
    intro hlt hpos hL
    refine ⟨_, _, _, by rw [el]; exact run_appz_grow w t ti ty e kd ki by_ ht hti hE _ a c xs.length n _ rfl ho hlt hpos h63 hfit, ?_⟩
    rw [ints, em, el]
    exact SL.own_some (sp := List.replicate _ (Value.int kd 0)) (hL.drew.alloc _) (by simp) (grownCap_ge _ _ _ _) (grownCap_le_maxLen _ _ _ _ h63) (by simp)
  obtain ⟨hl, ⟨h1, h2, hL⟩ | ⟨b, cap, sp, h1, hn, hm, hsp, hr⟩⟩ := h.own_cases
  · obtain rfl : xs = [] := List.eq_nil_of_length_eq_zero h2
    cases h1
    by_cases hk : n = 0
    · subst hk
      refine ⟨none, 0, w, by rw [el]; exact (run_appz_none w t ti ty e kd ki by_ ht hti hE none 0 0 (by omega) (fun x h => by cases h)), ?_⟩
      simpa using h
    · exact grow (by omega) (by omega) hL
  · cases h1
    by_cases hk : n = 0
    · subst hk
      refine ⟨some ⟨b, 0, none⟩, c, w, by rw [el]; exact (run_appz_none w t ti ty e kd ki by_ ht hti hE _ xs.length c hn (fun x h => by cases h; rfl)), ?_⟩
      simpa using h
    · by_cases hroom : xs.length + n ≤ c
      · have hlen : (xs.map (Value.int kd) ++ sp).length = c := by simp [hsp]; omega
        refine ⟨some ⟨b, 0, none⟩, c, _, by rw [el]; exact run_appz_room w t ti ty e kd ki by_ ht hti hE b xs.length c n _ (hr.get (.head _)) (by omega) h63 hfit hroom (by omega), ?_⟩
        have e1 : (xs.map (Value.int kd) ++ sp).take xs.length ++ List.replicate n (Value.int kd 0) ++ (xs.map (Value.int kd) ++ sp).drop (xs.length + n) = (xs.map (Value.int kd) ++ List.replicate n (Value.int kd 0)) ++ sp.drop n := by
          have : xs.length = (xs.map (Value.int kd)).length := by simp
          rw [this, List.take_left', List.drop_append]; simp; rfl
        rw [e1, ints, em, el]
        exact SL.own_some (hr.setRow _) (by simp) hroom hm (by simp [hsp]; omega)
      · exact grow (by omega) (by omega) hr.tail

/-- append(x, make([]T, n)...) -/
theorem opx_appz {d : Nat} {t ti ty elem : TypeId} {x y : Operand} {pos : String} {after : Array Edge} {gd : Option (Nat × Bool)} {kd ki : IntKind} {a : Option Addr} {c : Nat} {xs : List Int} {e : Int} (i by_ n : Nat) (ys : List Int)
    (hL : nth L i = some (ints elem kd a c xs)) (hu : slTy P t elem = true) (hti : isInt P ti = true) (hE : intTy P elem kd by_ = true) (hx : ev T x = .slice a xs.length c) (hy : ev T y = .int ki e) (he : e = (n : Int)) (hys : ys = xs ++ List.replicate n 0)
    (hfit : (xs.length + n) * by_ ≤ 140737488351232) (h63 : xs.length + n ≤ 140737488351232)
    (h : ∀ a' c', K (T.set d (.slice a' ys.length c')) (L.set i (ints elem kd a' c' ys))) :
    OpX P g F { dst := some d, op := .call { callee := .builtin .append, args := #[x, y], argTypes := #[t, ti] }, type := ty, pos, after, guard := gd } T L K := by
  constructor
  intro w hS
  subst he; subst hys
  obtain ⟨a', c', w', hr', h'⟩ := SL_appz (ti := ti) (ty := ty) (ki := ki) (n := n) (slTy_u hu) hti (intTy_el hE) (sl_at i hL hS) (by unfold maxLen; omega) (by omega)
  exact op_value (exec_append _ (by rw [act_eval, act_eval, hx, hy]; exact hr')) ⟨_, _, by rw [act_put]; rfl, sl_back i hL h', h a' c'⟩
end

/-- A flag at a point is parted. -/
theorem at_flag {P : Program} {f : FuncId} {g : World} {F : List HP} {R : Ending → World → Prop} {k : List Item} {T : List Value} {L : List HP} (j : Nat) {c : Bool} (hj : nth T j = some (.bool c))
    (h1 : c = true → At P f g F R k (T.set j (.bool true)) L) (h0 : c = false → At P f g F R k (T.set j (.bool false)) L) : At P f g F R k T L := by
  have hs : T.set j (.bool c) = T := by
    rw [nth_eq] at hj
    obtain ⟨hlt, e⟩ := List.getElem?_eq_some_iff.1 hj
    rw [← e]; simp
  cases c with
  | true => have := h1 rfl; rwa [hs] at this
  | false => have := h0 rfl; rwa [hs] at this
end Go.Xg
