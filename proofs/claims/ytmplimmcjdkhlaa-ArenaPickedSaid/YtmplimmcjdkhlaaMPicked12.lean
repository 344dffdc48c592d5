import Derived.Test.YtmplimmcjdkhlaaMPicked11
import Derived.Lib.Overlaps
/- Symbolic running: what slices.Insert does: append(x[:i], make(..)...) that must grow, a slice made longer into its room, copy into a part of it, slices.overlaps. Over any program. -/
namespace Go.Xg
open Go Go.Sl
set_option linter.unusedVariables false
section
variable {P : Program} {f : FuncId} {g : World} {F : List HP} {R : Ending → World → Prop} {k : List Item} {T : List Value} {L : List HP} {K : List Value → List HP → Prop}

/-- append(x[:l], make([]T, n)...) where there is no room. -/
theorem opx_appz_cut {d : Nat} {t ti ty elem : TypeId} {x y : Operand} {pos : String} {after : Array Edge} {gd : Option (Nat × Bool)} {kd ki : IntKind} {ax : Option Addr} {l cx : Nat} {e : Int} (by_ n : Nat) (zs ys : List Int)
    (hu : slTy P t elem = true) (hti : isInt P ti = true) (hE : intTy P elem kd by_ = true) (hx : ev T x = .slice ax l cx) (hy : ev T y = .int ki e) (he : e = (n : Int)) (hzl : zs.length = l) (hys : ys = zs ++ List.replicate n 0)
    (hr : ∀ w, SL g (L ++ F) w → Rd w 1 (.slice ax l cx) l (zs.map (Value.int kd))) (hg : cx < l + n) (hpos : 0 < n)
    (hfit : (l + n) * by_ ≤ 140737488351232) (h63 : l + n ≤ 140737488351232)
    (h : ∀ a' c', K (T.set d (.slice a' ys.length c')) (ints elem kd a' c' ys :: L)) :
    OpX P g F { dst := some d, op := .call { callee := .builtin .append, args := #[x, y], argTypes := #[t, ti] }, type := ty, pos, after, guard := gd } T L K := by
  constructor
  intro w hS
  subst he; subst hys
  have ho := hr w hS
  have el : (zs ++ List.replicate n (0 : Int)).length = l + n := by simp [hzl]
  have em : (zs ++ List.replicate n (0 : Int)).map (Value.int kd) = zs.map (Value.int kd) ++ List.replicate n (Value.int kd 0) := by simp
  have hk := h (some ⟨w.heap.size, 0, none⟩) (grownCap w (l + n) cx elem)
  rw [el] at hk
  have hrun := run_appz_grow w t ti ty elem kd ki by_ (slTy_u hu) hti (intTy_el hE) _ ax cx l n _ rfl ho hg hpos (by unfold maxLen; omega) (by omega)
  refine op_value (exec_append _ (by rw [act_eval, act_eval, hx, hy]; exact hrun)) ⟨_, _, by rw [act_put]; rfl, ?_, hk⟩
  show SL g (ints elem kd _ _ _ :: (L ++ F)) _
  rw [ints, em, el]
  exact SL.own_some (sp := List.replicate _ (Value.int kd 0)) (hS.drew.alloc _) (by simp [hzl]) (grownCap_ge _ _ _ _) (grownCap_le_maxLen _ _ _ _ (by unfold maxLen; omega)) (by simp)

/-- A slice of one's own, made longer: it has room. -/
theorem at_widen {E : TypeId} {a : Option Addr} {n c m : Nat} {us : List Value} (i : Nat) (hL : nth L i = some (ownS E 1 (.slice a n c) n us)) (hn : 0 < n) (hm : n + m ≤ c)
    (h : ∀ sp : List Value, sp.length = m → At P f g F R k T (L.set i (ownS E 1 (.slice a (n + m) c) (n + m) (us ++ sp)))) : At P f g F R k T L := ⟨fun w hS => by
  obtain ⟨hl', ⟨e, h0, h1⟩ | ⟨b, cap, sp, e, hn', hmx, hsp, hrw⟩⟩ := (sl_at i hL hS).own_cases
  · omega
  · cases e
    have hl : (sp.take m).length = m := by rw [List.length_take]; omega
    refine (h (sp.take m) hl).run w (sl_back i hL ?_)
    have e1 : us ++ sp = (us ++ sp.take m) ++ sp.drop m := by rw [List.append_assoc, List.take_append_drop]
    rw [e1] at hrw
    exact SL.own_some hrw (by rw [List.length_append, hl, hl']; omega) hm hmx (by rw [List.length_drop, hsp]; omega)⟩

/-- copy into a row. -/
theorem SL_copy_t {g w : World} {L : List HP} (P : Program) (dT sT ty e : TypeId) (z : Value) (by_ : Nat) (hu : P.underlying dT = some (.slice e)) (hE : El P e z 1 by_)
    {b o dLen dCap : Nat} {E' : TypeId} {cs vs : List Value} {x : Value} {k : Nat} (h : SL g (row b E' cs :: L) w) (hx : Rd w 1 x k vs) (h1 : ∀ u ∈ vs.take dLen, u.oneCell' = true) (hfit : o + Nat.min k dLen ≤ cs.length) :
    ∃ w', (Builtin.copy_ #[dT, sT] ty #[.slice (some ⟨b, o, none⟩) dLen dCap, x]).run P w = .ok (goInt (Nat.min k dLen : Nat)) w' ∧
      SL g (row b E' (cs.take o ++ vs.take dLen ++ cs.drop (o + Nat.min k dLen)) :: L) w' := by
  obtain ⟨i, hi, hz, hsz, rfl, hzs⟩ := hE
  obtain ⟨xa, xc, rfl, hl, hc⟩ := hx
  have hlen : (vs.take dLen).length = Nat.min k dLen := by rw [List.length_take]; have : Nat.min k dLen = min k dLen := rfl; omega
  have hf : (Builtin.firstCells 1 (Nat.min k dLen) (.slice xa k xc)).run P w = .ok (vs.take dLen).toArray w := by
    have : Rd w 1 (.slice xa (Nat.min k dLen) xc) (Nat.min k dLen) (vs.take dLen) := by
      refine ⟨xa, xc, rfl, by omega, fun j u hu => ?_⟩
      refine hc j u ?_
      rw [List.getElem?_take] at hu
      split at hu
      · exact hu
      · cases hu
    have := this.first (P := P)
    cases xa <;> exact this
  have hst := run_storeCells_at P b o E' (vs.take dLen) 0 cs.toArray w (h.get (.head _)) (by simp only [Nat.add_zero, List.size_toArray]; rw [hlen]; exact hfit) h1
  simp only [Nat.add_zero] at hst
  refine ⟨_, ?_, h.setRow _⟩
  simp [Builtin.copy_, run_underlying hu, Builtin.lenOf, sizeOf, typeInfo, hi, hsz, hf, hst, hlen]


/-- copy into a part of what one owns: any values. -/
theorem opx_copy_own {d : Nat} {dT sT ty elem : TypeId} {x y : Operand} {pos : String} {after : Array Edge} {gd : Option (Nat × Bool)} {a ax : Option Addr} {n c cx : Nat} {yv : Value} {kd : IntKind} {vs ys : List Value} (i by_ o m : Nat) (vs' : List Value) (r : Int)
    (hL : nth L i = some (ownS elem 1 (.slice a n c) n vs)) (hu : slTy P dT elem = true) (hE : intTy P elem kd by_ = true) (hx : ev T x = .slice ax m cx) (hax : ∀ b, a = some ⟨b, 0, none⟩ → ax = some ⟨b, o, none⟩) (hy : ev T y = yv)
    (hr : ∀ w, SL g (L ++ F) w → Rd w 1 yv ys.length ys) (h1 : ∀ u ∈ ys.take m, u.oneCell' = true) (hn : 0 < n) (hvn : vs.length = n) (hom : o + m ≤ n) (hv : vs.take o ++ ys.take m ++ vs.drop (o + min ys.length m) = vs') (hl : vs'.length = n) (hrv : r = ((min ys.length m : Nat) : Int))
    (h : K (T.set d (.int .i64 r)) (L.set i (ownS elem 1 (.slice a n c) n vs'))) :
    OpX P g F { dst := some d, op := .call { callee := .builtin .copy, args := #[x, y], argTypes := #[dT, sT] }, type := ty, pos, after, guard := gd } T L K := by
  subst hrv
  constructor
  intro w hS
  have hR := hr w hS
  obtain ⟨hl1, ⟨e, h0, _⟩ | ⟨b, cap, sp, e, hn', hm, hsp, hrw⟩⟩ := (sl_at i hL hS).own_cases
  · omega
  · cases e
    have hx' := hax b rfl
    subst hx'
    have hmin : Nat.min ys.length m = min ys.length m := rfl
    obtain ⟨w', hr', h'⟩ := SL_copy_t P dT sT ty elem (.int kd 0) by_ (slTy_u hu) (intTy_el hE) (dLen := m) (dCap := cx) (o := o) hrw hR h1 (by rw [List.length_append]; omega)
    refine op_value (exec_copy _ (by rw [act_eval, act_eval, hx, hy]; exact hr')) ⟨_, _, by rw [act_put]; rfl, sl_back i hL ?_, h⟩
    have e1 : (vs ++ sp).take o ++ ys.take m ++ (vs ++ sp).drop (o + Nat.min ys.length m) = vs' ++ sp := by
      rw [List.take_append_of_le_length (by omega), List.drop_append_of_le_length (by omega), ← hv, hmin]
      simp
    rw [e1] at h'
    exact SL.own_some h' (by omega) hn' hm hsp

/-- An operation that only tells. -/
theorem opx_tells {o : Oper} {v : Value} (he : ∀ w, SL g (L ++ F) w → (execOp (act T).eval o).run P w = .ok (.value v) w) (hk : K (putD o.dst v T) L) : OpX P g F o T L K := by
  constructor
  intro w hS
  exact op_value (he w hS) ⟨_, _, by rw [act_put], hS, hk⟩

/-- slices.overlaps at two blocks. -/
theorem overlaps_apart {w : World} {E1 E2 : TypeId} {b1 b2 o2 n1 c1 n2 c2 : Nat} {cs1 cs2 : List Value} {tS tR e : TypeId} {by_ : Nat} {kd : IntKind} (hu : slTy P tS e = true) (hE : intTy P e kd by_ = true)
    {L : List HP} (h : SL g (row b1 E1 cs1 :: row b2 E2 cs2 :: L) w) (h2 : cs2 ≠ []) :
    (Extern.SlicesOverlaps.overlaps #[tS, tS] #[tR] #[.slice (some ⟨b1, 0, none⟩) n1 c1, .slice (some ⟨b2, o2, none⟩) n2 c2]).run P w = .ok (.bool false) w := by
  obtain ⟨i, hi, hz, hsz, rfl, hzs⟩ := intTy_el hE
  have hne : b1 ≠ b2 := h.ne (.head _)
  have g1 : w.heap[b1]? = some (.cells cs1.toArray E1) := h.get (.head _)
  have g2 : w.heap[b2]? = some (.cells cs2.toArray E2) := h.get (.tail _ (.head _))
  refine Go.Lib.run_overlaps_apart w tS tR e (slTy_u hu) 1 (fun w => by simp [Go.sizeOf, typeInfo, hi, hsz]) _ _ n1 c1 n2 c2 hne E1 E2 cs1.length cs2.length ?_ ?_ (by cases cs2 with | nil => exact absurd rfl h2 | cons => simp) (h.frozen (.head _) 0) (h.frozen (.head _) cs1.length)
  · simp [World.shape?, g1]
  · simp [World.shape?, g2]
end
end Go.Xg

/- The arena package: slices.Insert of one number. -/
namespace Go.Proofs.Ytmplimmcjdkhlaa
open Go.Sl Go.Xg
set_option linter.unusedVariables false
set_option linter.unusedSimpArgs false
set_option linter.unnecessarySimpa false
set_option maxHeartbeats 4000000
set_option maxRecDepth 100000

theorem insG (b : Nat) (a : Option Addr) (c i : Nat) (l : List Int) (v : Int) (hi : i ≤ l.length) (hl : l.length ≤ 100000) : Does Try.prog 65 [.slice a l.length c, .int .i64 (i : Nat), .slice (some ⟨b, 0, none⟩) 1 1] [I2 a c l, row b 3 [.int .i64 v]]
    (RetE (fun x : Option Addr × Nat => True) (fun x => .slice x.1 (l.length + 1) x.2) (fun x => [I2 x.1 x.2 (l.take i ++ v :: l.drop i)])) := by
  by_cases he : i = l.length
  · subst he
    rw [List.take_length, List.drop_length]
    (focus
      refine Xg.spec_of Go.Proofs.Try.func65 rfl Go.Proofs.Try.ntmps65 fun g F => ?_)
    (focus
      refine Xg.at_seq ?_
      refine Xg.at_region ?_
      refine Xg.ops_op (by kernel_rfl) (Xg.opx_pure ((Value.slice none (0 : Nat) (0 : Nat))) rfl (fun _ => by kernel_rfl) ?_)
      refine Xg.ops_nil ?_
      refine Xg.at_seq ?_
      refine Xg.at_region ?_
      refine Xg.ops_op (by kernel_rfl) (Xg.opx_pure ((Value.slice a l.length c)) rfl (fun _ => by kernel_rfl) ?_)
      refine Xg.ops_op (by kernel_rfl) (Xg.opx_pure ((iv (↑l.length : Int))) rfl (fun _ => by kernel_rfl) ?_)
      refine Xg.ops_op (by kernel_rfl) (Xg.opx_run (.slice (Xg.subA a c l.length 1) (l.length - l.length) (c - l.length)) rfl (Xg.run_sl_lo (elem := 3) (a := a) (c := c) (len := l.length) (k1 := .i64) (e1 := ((↑l.length : Int))) 1 l.length (by kernel_rfl) (by kernel_rfl) (by kernel_rfl) (by kernel_rfl) rfl (by omega)) ?_)
      refine Xg.ops_nil ?_
      refine Xg.at_seq ?_
      refine Xg.at_region ?_
      refine Xg.ops_op (by kernel_rfl) (Xg.opx_pure ((Value.slice (some (Addr.mk b (0 : Nat) none)) (1 : Nat) (1 : Nat))) rfl (fun _ => by kernel_rfl) ?_)
      refine Xg.ops_op (by kernel_rfl) (Xg.opx_pure ((iv 1)) rfl (fun _ => by kernel_rfl) ?_)
      refine Xg.ops_op (by kernel_rfl) (Xg.opx_pure ((iv 1)) rfl (fun _ => by kernel_rfl) ?_)
      refine Xg.ops_nil ?_
      refine Xg.at_seq ?_
      refine Xg.at_seq ?_
      refine Xg.at_region ?_
      refine Xg.ops_op (by kernel_rfl) (Xg.opx_pure ((iv 1)) rfl (fun _ => by kernel_rfl) ?_)
      refine Xg.ops_op (by kernel_rfl) (Xg.opx_pure ((Value.bool false)) rfl (fun _ => by kernel_rfl) ?_)
      refine Xg.ops_nil ?_
      refine Xg.at_false (t := false) (by kernel_rfl) rfl ?_
      refine Xg.at_skip ?_
      refine Xg.at_seq ?_
      refine Xg.at_region ?_
      refine Xg.ops_op (by kernel_rfl) (Xg.opx_pure ((Value.slice a l.length c)) rfl (fun _ => by kernel_rfl) ?_)
      refine Xg.ops_op (by kernel_rfl) (Xg.opx_pure ((iv (↑l.length : Int))) rfl (fun _ => by kernel_rfl) ?_)
      refine Xg.ops_op (by kernel_rfl) (Xg.opx_pure ((iv (↑l.length : Int))) rfl (fun _ => by kernel_rfl) ?_)
      refine Xg.ops_nil ?_
      refine Xg.at_seq ?_
      refine Xg.at_seq ?_
      refine Xg.at_region ?_
      refine Xg.ops_op (by kernel_rfl) (Xg.opx_pure ((iv (↑l.length : Int))) rfl (fun _ => by kernel_rfl) ?_)
      refine Xg.ops_op (by kernel_rfl) (Xg.opx_pure ((iv (↑l.length : Int))) rfl (fun _ => by kernel_rfl) ?_)
      refine Xg.ops_op (by kernel_rfl) (Xg.opx_pure (.bool (decide ((((↑l.length : Int)) : Int) = ((↑l.length : Int))))) rfl (fun _ => by kernel_rfl) ?_)
      refine Xg.ops_nil ?_
      refine Xg.at_true (t := decide (((↑l.length : Int) = (↑l.length : Int)))) (by kernel_rfl) (decide_eq_true (by omega)) ?_
      refine Xg.at_seq ?_
      refine Xg.at_region ?_
      refine Xg.ops_op (by kernel_rfl) (Xg.opx_pure ((Value.slice a l.length c)) rfl (fun _ => by kernel_rfl) ?_)
      refine Xg.ops_op (by kernel_rfl) (Xg.opx_pure ((Value.slice (some (Addr.mk b (0 : Nat) none)) (1 : Nat) (1 : Nat))) rfl (fun _ => by kernel_rfl) ?_)
      refine Xg.ops_op (by kernel_rfl) (Xg.opx_append_ints (kd := .i64) (yv := (Value.slice (some (Addr.mk b (0 : Nat) none)) (1 : Nat) (1 : Nat))) (m := ((1 : Nat))) (xs := l) (elem := 3) 0 8 [v] rfl (by kernel_rfl) (by kernel_rfl) (by kernel_rfl) (by kernel_rfl) (by first | rfl | assumption | omega | (simp; done) | (simp; omega)) (fun _ hS => Xg.row_rd hS 1 rfl (by kernel_rfl)) (by first | omega | (simp only [List.length_nil, List.length_cons]; omega) | (simp; omega)) (by first | omega | (simp only [List.length_nil, List.length_cons]; omega) | (simp; omega)) fun xa1 xc1 => ?_)
      have xl1 : (l ++ [v] : List Int).length = (l : List Int).length + ((1 : Nat)) := by first | (simp; done) | (simp; omega)
      refine Xg.ops_op (by kernel_rfl) (Xg.opx_pure ((Value.slice xa1 (l ++ [v]).length xc1)) rfl (fun _ => by kernel_rfl) ?_)
      refine Xg.ops_nil ?_)
    rw [show (l ++ [v]).length = l.length + 1 from by simp]
    (focus
      refine Xg.at_ret_ps (v := (Value.slice xa1 (l.length + (1 : Nat)) xc1)) [0] [ints (3 : TypeId) IntKind.i64 xa1 xc1 (l ++ [v])] Go.Proofs.Try.func65 (fun _ => by kernel_rfl) (by kernel_rfl) (by kernel_rfl) ?_
      refine ⟨((xa1, xc1)), trivial, by kernel_rfl, by kernel_rfl⟩)
  · by_cases hc : c < l.length + 1
    · (focus
        refine Xg.spec_of Go.Proofs.Try.func65 rfl Go.Proofs.Try.ntmps65 fun g F => ?_)
      refine Xg.at_own 0 rfl fun h1 h2 _ _ => ?_
      unfold maxLen at h2
      (focus
        refine Xg.at_seq ?_
        refine Xg.at_region ?_
        refine Xg.ops_op (by kernel_rfl) (Xg.opx_pure ((Value.slice none (0 : Nat) (0 : Nat))) rfl (fun _ => by kernel_rfl) ?_)
        refine Xg.ops_nil ?_
        refine Xg.at_seq ?_
        refine Xg.at_region ?_
        refine Xg.ops_op (by kernel_rfl) (Xg.opx_pure ((Value.slice a l.length c)) rfl (fun _ => by kernel_rfl) ?_)
        refine Xg.ops_op (by kernel_rfl) (Xg.opx_pure ((iv (↑i : Int))) rfl (fun _ => by kernel_rfl) ?_)
        refine Xg.ops_op (by kernel_rfl) (Xg.opx_run (.slice (Xg.subA a c i 1) (l.length - i) (c - i)) rfl (Xg.run_sl_lo (elem := 3) (a := a) (c := c) (len := l.length) (k1 := .i64) (e1 := ((↑i : Int))) 1 i (by kernel_rfl) (by kernel_rfl) (by kernel_rfl) (by kernel_rfl) rfl (by omega)) ?_)
        refine Xg.ops_nil ?_
        refine Xg.at_seq ?_
        refine Xg.at_region ?_
        refine Xg.ops_op (by kernel_rfl) (Xg.opx_pure ((Value.slice (some (Addr.mk b (0 : Nat) none)) (1 : Nat) (1 : Nat))) rfl (fun _ => by kernel_rfl) ?_)
        refine Xg.ops_op (by kernel_rfl) (Xg.opx_pure ((iv 1)) rfl (fun _ => by kernel_rfl) ?_)
        refine Xg.ops_op (by kernel_rfl) (Xg.opx_pure ((iv 1)) rfl (fun _ => by kernel_rfl) ?_)
        refine Xg.ops_nil ?_
        refine Xg.at_seq ?_
        refine Xg.at_seq ?_
        refine Xg.at_region ?_
        refine Xg.ops_op (by kernel_rfl) (Xg.opx_pure ((iv 1)) rfl (fun _ => by kernel_rfl) ?_)
        refine Xg.ops_op (by kernel_rfl) (Xg.opx_pure ((Value.bool false)) rfl (fun _ => by kernel_rfl) ?_)
        refine Xg.ops_nil ?_
        refine Xg.at_false (t := false) (by kernel_rfl) rfl ?_
        refine Xg.at_skip ?_
        refine Xg.at_seq ?_
        refine Xg.at_region ?_
        refine Xg.ops_op (by kernel_rfl) (Xg.opx_pure ((Value.slice a l.length c)) rfl (fun _ => by kernel_rfl) ?_)
        refine Xg.ops_op (by kernel_rfl) (Xg.opx_pure ((iv (↑l.length : Int))) rfl (fun _ => by kernel_rfl) ?_)
        refine Xg.ops_op (by kernel_rfl) (Xg.opx_pure ((iv (↑l.length : Int))) rfl (fun _ => by kernel_rfl) ?_)
        refine Xg.ops_nil ?_
        refine Xg.at_seq ?_
        refine Xg.at_seq ?_
        refine Xg.at_region ?_
        refine Xg.ops_op (by kernel_rfl) (Xg.opx_pure ((iv (↑i : Int))) rfl (fun _ => by kernel_rfl) ?_)
        refine Xg.ops_op (by kernel_rfl) (Xg.opx_pure ((iv (↑l.length : Int))) rfl (fun _ => by kernel_rfl) ?_)
        refine Xg.ops_op (by kernel_rfl) (Xg.opx_pure (.bool (decide ((((↑i : Int)) : Int) = ((↑l.length : Int))))) rfl (fun _ => by kernel_rfl) ?_)
        refine Xg.ops_nil ?_
        refine Xg.at_false (t := decide (((↑i : Int) = (↑l.length : Int)))) (by kernel_rfl) (decide_eq_false (by omega)) ?_
        refine Xg.at_skip ?_
        refine Xg.at_seq ?_
        refine Xg.at_seq ?_
        refine Xg.at_region ?_
        refine Xg.ops_op (by kernel_rfl) (Xg.opx_pure ((iv (↑l.length : Int))) rfl (fun _ => by kernel_rfl) ?_)
        refine Xg.ops_op (by kernel_rfl) (Xg.opx_pure ((iv 1)) rfl (fun _ => by kernel_rfl) ?_)
        refine Xg.ops_op (by kernel_rfl) (Xg.opx_int .i64 (IntKind.wrap .i64 (((↑l.length : Int) + (1 : Int)))) rfl (fun _ => by kernel_rfl) (Xg.wrap_i64_in (by omega)) ?_)
        refine Xg.ops_op (by kernel_rfl) (Xg.opx_pure ((Value.slice a l.length c)) rfl (fun _ => by kernel_rfl) ?_)
        refine Xg.ops_op (by kernel_rfl) (Xg.opx_pure ((iv (↑c : Int))) rfl (fun _ => by kernel_rfl) ?_)
        refine Xg.ops_op (by kernel_rfl) (Xg.opx_pure (.bool (decide ((((↑l.length : Int) + (1 : Int)) : Int) > ((↑c : Int))))) rfl (fun _ => by kernel_rfl) ?_)
        refine Xg.ops_nil ?_
        refine Xg.at_true (t := decide (((↑l.length : Int) + (1 : Int) > (↑c : Int)))) (by kernel_rfl) (decide_eq_true (by omega)) ?_
        refine Xg.at_seq ?_
        refine Xg.at_region ?_
        refine Xg.ops_op (by kernel_rfl) (Xg.opx_pure ((Value.slice a l.length c)) rfl (fun _ => by kernel_rfl) ?_)
        refine Xg.ops_op (by kernel_rfl) (Xg.opx_pure ((iv (↑i : Int))) rfl (fun _ => by kernel_rfl) ?_)
        refine Xg.ops_op (by kernel_rfl) (Xg.opx_run (.slice a i c) rfl (Xg.run_sl_hi (elem := 3) (a := a) (c := c) (len := l.length) (k2 := .i64) (e2 := ((↑i : Int))) 1 i (by kernel_rfl) (by kernel_rfl) (by kernel_rfl) (by kernel_rfl) rfl (by omega)) ?_)
        refine Xg.ops_op (by kernel_rfl) (Xg.opx_pure ((iv (↑l.length : Int))) rfl (fun _ => by kernel_rfl) ?_)
        refine Xg.ops_op (by kernel_rfl) (Xg.opx_pure ((iv 1)) rfl (fun _ => by kernel_rfl) ?_)
        refine Xg.ops_op (by kernel_rfl) (Xg.opx_int .i64 (IntKind.wrap .i64 (((↑l.length : Int) + (1 : Int)))) rfl (fun _ => by kernel_rfl) (Xg.wrap_i64_in (by omega)) ?_)
        refine Xg.ops_op (by kernel_rfl) (Xg.opx_pure ((iv (↑i : Int))) rfl (fun _ => by kernel_rfl) ?_)
        refine Xg.ops_op (by kernel_rfl) (Xg.opx_int .i64 (IntKind.wrap .i64 (((↑l.length : Int) + (1 : Int) - (↑i : Int)))) rfl (fun _ => by kernel_rfl) (Xg.wrap_i64_in (by omega)) ?_))
      obtain ⟨Z, hZ⟩ : ∃ Z, l.take i ++ List.replicate (l.length + 1 - i) (0 : Int) = Z := ⟨_, rfl⟩
      have hZl : Z.length = l.length + 1 := by rw [← hZ, List.length_append, List.length_take, List.length_replicate]; omega
      have hZt : Z.take i = l.take i := by rw [← hZ, List.take_append_of_le_length (by rw [List.length_take]; omega), List.take_take, Nat.min_self]
      refine Xg.ops_op (by kernel_rfl) (Xg.opx_appz_cut (elem := 3) (kd := .i64) (ki := .i64) (ax := a) (l := i) (cx := c) (e := (l.length : Int) + 1 - (i : Int)) 8 (l.length + 1 - i) (l.take i) Z (by kernel_rfl) (by kernel_rfl) (by kernel_rfl) (by kernel_rfl) (by kernel_rfl) (by omega) (by rw [List.length_take]; omega) hZ.symm (fun w hS => by have h := reads_rd (Xg.reads_hi (E := 3) (a := a) (c := c) (vs := l.map (Value.int .i64)) i hi) 0 rfl hS; rwa [Nat.mul_one, ← List.map_take] at h) (by omega) (by omega) (by omega) (by omega) fun xa xc => ?_)
      (focus
        refine Xg.ops_op (by kernel_rfl) (Xg.opx_pure ((Value.slice xa Z.length xc)) rfl (fun _ => by kernel_rfl) ?_)
        refine Xg.ops_nil ?_
        refine Xg.at_seq ?_)
      refine Xg.at_own 0 rfl fun g1 g2 _ _ => ?_
      (focus
        refine Xg.at_region ?_
        refine Xg.ops_op (by kernel_rfl) (Xg.opx_pure ((Value.slice xa Z.length xc)) rfl (fun _ => by kernel_rfl) ?_)
        refine Xg.ops_op (by kernel_rfl) (Xg.opx_pure ((iv (↑i : Int))) rfl (fun _ => by kernel_rfl) ?_)
        refine Xg.ops_op (by kernel_rfl) (Xg.opx_run (.slice (Xg.subA xa xc i 1) (Z.length - i) (xc - i)) rfl (Xg.run_sl_lo (elem := 3) (a := xa) (c := xc) (len := Z.length) (k1 := .i64) (e1 := ((↑i : Int))) 1 i (by kernel_rfl) (by kernel_rfl) (by kernel_rfl) (by kernel_rfl) rfl (by omega)) ?_)
        refine Xg.ops_op (by kernel_rfl) (Xg.opx_pure ((Value.slice (some (Addr.mk b (0 : Nat) none)) (1 : Nat) (1 : Nat))) rfl (fun _ => by kernel_rfl) ?_))
      obtain ⟨Y, hY⟩ : ∃ Y, l.take i ++ [v] ++ Z.drop (i + 1) = Y := ⟨_, rfl⟩
      have hYl : Y.length = l.length + 1 := by rw [← hY, List.length_append, List.length_append, List.length_take, List.length_drop, List.length_singleton]; omega
      refine Xg.ops_op (by kernel_rfl) (Xg.opx_copy_in (elem := 3) (kd := .i64) (xs := Z) (ys := [v]) (a := xa) (c := xc) (ax := Xg.subA xa xc i 1) (cx := xc - i) (yv := .slice (some ⟨b, 0, none⟩) 1 1) 0 8 i (Z.length - i) Y 1 rfl (by kernel_rfl) (by kernel_rfl) (by kernel_rfl) (fun b e => by rw [e]; exact sub_at (by omega)) (by kernel_rfl) (fun w hS => Xg.row_rd hS 2 rfl (by kernel_rfl)) (by omega) (by omega) (by rw [hZt, List.take_of_length_le (l := [v]) (by rw [List.length_singleton]; omega), List.length_singleton, Nat.min_eq_left (by omega)]; exact hY) (by omega) (by rw [List.length_singleton, Nat.min_eq_left (by omega)]; rfl) ?_)
      rw [show Z.length = Y.length from by omega]
      have hYt : Y.take (i + 1) = l.take i ++ [v] := by
        rw [← hY, List.take_append_of_le_length (by rw [List.length_append, List.length_take, List.length_singleton]; omega), List.take_of_length_le (by rw [List.length_append, List.length_take, List.length_singleton]; omega)]
      have hYd : Y.drop (i + 1 + min (l.drop i).length (Y.length - (i + 1))) = [] := List.drop_eq_nil_of_le (by rw [List.length_drop]; omega)
      have hdl : (l.drop i).length = l.length - i := List.length_drop
      have hWl : (l.take i ++ v :: l.drop i).length = Y.length := by rw [List.length_append, List.length_cons, List.length_take, hdl]; omega
      (focus
        refine Xg.ops_nil ?_
        refine Xg.at_seq ?_
        refine Xg.at_draw [8] [] (by kernel_rfl) ?_
        refine Xg.any_pure ((Value.slice xa Y.length xc)) 0 (by kernel_rfl) rfl (by kernel_rfl) (by kernel_rfl) (by kernel_rfl) (by kernel_rfl) rfl (fun _ => by kernel_rfl) ?_
        refine Xg.any_pure ((iv (↑i : Int))) 1 (by kernel_rfl) rfl (by kernel_rfl) (by kernel_rfl) (by kernel_rfl) (by kernel_rfl) rfl (fun _ => by kernel_rfl) ?_
        refine Xg.any_pure ((iv 1)) 2 (by kernel_rfl) rfl (by kernel_rfl) (by kernel_rfl) (by kernel_rfl) (by kernel_rfl) rfl (fun _ => by kernel_rfl) ?_
        refine Xg.any_int .i64 (IntKind.wrap .i64 (((↑i : Int) + (1 : Int)))) 3 (by kernel_rfl) rfl (by kernel_rfl) (by kernel_rfl) (by kernel_rfl) (by kernel_rfl) rfl (fun _ => by kernel_rfl) (Xg.wrap_i64_in (by omega)) ?_
        refine Xg.any_pure (.slice (Xg.subA xa xc (((↑i : Int) + (1 : Int)).toNat) 1) (Y.length - (((↑i : Int) + (1 : Int)).toNat)) (xc - (((↑i : Int) + (1 : Int)).toNat))) 4 (by kernel_rfl) rfl (by kernel_rfl) (by kernel_rfl) (by kernel_rfl) (by kernel_rfl) rfl (Xg.run_sl_lo (elem := 3) (a := xa) (c := xc) (len := Y.length) (k1 := .i64) (e1 := ((↑i : Int) + (1 : Int))) 1 (((↑i : Int) + (1 : Int)).toNat) (by kernel_rfl) (by kernel_rfl) (by kernel_rfl) (by kernel_rfl) (by omega) (by omega)) ?_
        refine Xg.any_pure ((Value.slice a l.length c)) 5 (by kernel_rfl) rfl (by kernel_rfl) (by kernel_rfl) (by kernel_rfl) (by kernel_rfl) rfl (fun _ => by kernel_rfl) ?_
        refine Xg.any_pure ((iv (↑i : Int))) 6 (by kernel_rfl) rfl (by kernel_rfl) (by kernel_rfl) (by kernel_rfl) (by kernel_rfl) rfl (fun _ => by kernel_rfl) ?_
        refine Xg.any_pure (.slice (Xg.subA a c i 1) (l.length - i) (c - i)) 7 (by kernel_rfl) rfl (by kernel_rfl) (by kernel_rfl) (by kernel_rfl) (by kernel_rfl) rfl (Xg.run_sl_lo (elem := 3) (a := a) (c := c) (len := l.length) (k1 := .i64) (e1 := ((↑i : Int))) 1 i (by kernel_rfl) (by kernel_rfl) (by kernel_rfl) (by kernel_rfl) rfl (by omega)) ?_)
      refine Xg.any_each [8] (by kernel_rfl) rfl ⟨?_, trivial⟩
      refine Xg.comes_act rfl (by kernel_rfl) (by kernel_rfl) (Xg.opx_copy_in (elem := 3) (kd := .i64) (xs := Y) (ys := l.drop i) (a := xa) (c := xc) (ax := Xg.subA xa xc (i + 1) 1) (cx := xc - (i + 1)) (yv := .slice (Xg.subA a c i 1) (l.length - i) (c - i)) 0 8 (i + 1) (Y.length - (i + 1)) (l.take i ++ v :: l.drop i) ((l.length - i : Nat) : Int) rfl (by kernel_rfl) (by kernel_rfl) (by kernel_rfl) (fun b e => by rw [e]; exact sub_at (by omega)) (by kernel_rfl) (fun w hS => by have h := reads_rd (Xg.reads_ints_part (E := 3) (kd := .i64) (a := a) (c := c) (xs := l) i l.length hi (Nat.le_refl _)) 1 rfl hS; rw [List.take_of_length_le (by omega)] at h; rw [hdl]; exact h) (by omega) (by omega) (by rw [hYt, hYd, List.take_of_length_le (l := l.drop i) (by omega), List.append_nil, List.append_assoc]; rfl) hWl (by rw [hdl, Nat.min_eq_left (by omega)]) ?_)
      refine Xg.acts Xg.owes_nil ?_
      rw [hYl]
      (focus
        refine Xg.any_nil (by kernel_rfl) ?_
        refine Xg.at_seq ?_
        refine Xg.at_region ?_
        refine Xg.ops_op (by kernel_rfl) (Xg.opx_pure ((Value.slice xa (l.length + (1 : Nat)) xc)) rfl (fun _ => by kernel_rfl) ?_)
        refine Xg.ops_op (by kernel_rfl) (Xg.opx_pure ((Value.slice xa (l.length + (1 : Nat)) xc)) rfl (fun _ => by kernel_rfl) ?_)
        refine Xg.ops_nil ?_
        refine Xg.at_ret_ps (v := (Value.slice xa (l.length + (1 : Nat)) xc)) [0] [ints (3 : TypeId) IntKind.i64 xa xc (List.take i l ++ v :: List.drop i l)] Go.Proofs.Try.func65 (fun _ => by kernel_rfl) (by kernel_rfl) (by kernel_rfl) ?_
        refine ⟨((xa, xc)), trivial, by kernel_rfl, by kernel_rfl⟩)
    · (focus
        refine Xg.spec_of Go.Proofs.Try.func65 rfl Go.Proofs.Try.ntmps65 fun g F => ?_)
      refine Xg.at_own 0 rfl fun h1 h2 _ _ => ?_
      unfold maxLen at h2
      (focus
        refine Xg.at_seq ?_
        refine Xg.at_region ?_
        refine Xg.ops_op (by kernel_rfl) (Xg.opx_pure ((Value.slice none (0 : Nat) (0 : Nat))) rfl (fun _ => by kernel_rfl) ?_)
        refine Xg.ops_nil ?_
        refine Xg.at_seq ?_
        refine Xg.at_region ?_
        refine Xg.ops_op (by kernel_rfl) (Xg.opx_pure ((Value.slice a l.length c)) rfl (fun _ => by kernel_rfl) ?_)
        refine Xg.ops_op (by kernel_rfl) (Xg.opx_pure ((iv (↑i : Int))) rfl (fun _ => by kernel_rfl) ?_)
        refine Xg.ops_op (by kernel_rfl) (Xg.opx_run (.slice (Xg.subA a c i 1) (l.length - i) (c - i)) rfl (Xg.run_sl_lo (elem := 3) (a := a) (c := c) (len := l.length) (k1 := .i64) (e1 := ((↑i : Int))) 1 i (by kernel_rfl) (by kernel_rfl) (by kernel_rfl) (by kernel_rfl) rfl (by omega)) ?_)
        refine Xg.ops_nil ?_
        refine Xg.at_seq ?_
        refine Xg.at_region ?_
        refine Xg.ops_op (by kernel_rfl) (Xg.opx_pure ((Value.slice (some (Addr.mk b (0 : Nat) none)) (1 : Nat) (1 : Nat))) rfl (fun _ => by kernel_rfl) ?_)
        refine Xg.ops_op (by kernel_rfl) (Xg.opx_pure ((iv 1)) rfl (fun _ => by kernel_rfl) ?_)
        refine Xg.ops_op (by kernel_rfl) (Xg.opx_pure ((iv 1)) rfl (fun _ => by kernel_rfl) ?_)
        refine Xg.ops_nil ?_
        refine Xg.at_seq ?_
        refine Xg.at_seq ?_
        refine Xg.at_region ?_
        refine Xg.ops_op (by kernel_rfl) (Xg.opx_pure ((iv 1)) rfl (fun _ => by kernel_rfl) ?_)
        refine Xg.ops_op (by kernel_rfl) (Xg.opx_pure ((Value.bool false)) rfl (fun _ => by kernel_rfl) ?_)
        refine Xg.ops_nil ?_
        refine Xg.at_false (t := false) (by kernel_rfl) rfl ?_
        refine Xg.at_skip ?_
        refine Xg.at_seq ?_
        refine Xg.at_region ?_
        refine Xg.ops_op (by kernel_rfl) (Xg.opx_pure ((Value.slice a l.length c)) rfl (fun _ => by kernel_rfl) ?_)
        refine Xg.ops_op (by kernel_rfl) (Xg.opx_pure ((iv (↑l.length : Int))) rfl (fun _ => by kernel_rfl) ?_)
        refine Xg.ops_op (by kernel_rfl) (Xg.opx_pure ((iv (↑l.length : Int))) rfl (fun _ => by kernel_rfl) ?_)
        refine Xg.ops_nil ?_
        refine Xg.at_seq ?_
        refine Xg.at_seq ?_
        refine Xg.at_region ?_
        refine Xg.ops_op (by kernel_rfl) (Xg.opx_pure ((iv (↑i : Int))) rfl (fun _ => by kernel_rfl) ?_)
        refine Xg.ops_op (by kernel_rfl) (Xg.opx_pure ((iv (↑l.length : Int))) rfl (fun _ => by kernel_rfl) ?_)
        refine Xg.ops_op (by kernel_rfl) (Xg.opx_pure (.bool (decide ((((↑i : Int)) : Int) = ((↑l.length : Int))))) rfl (fun _ => by kernel_rfl) ?_)
        refine Xg.ops_nil ?_
        refine Xg.at_false (t := decide (((↑i : Int) = (↑l.length : Int)))) (by kernel_rfl) (decide_eq_false (by omega)) ?_
        refine Xg.at_skip ?_
        refine Xg.at_seq ?_
        refine Xg.at_seq ?_
        refine Xg.at_region ?_
        refine Xg.ops_op (by kernel_rfl) (Xg.opx_pure ((iv (↑l.length : Int))) rfl (fun _ => by kernel_rfl) ?_)
        refine Xg.ops_op (by kernel_rfl) (Xg.opx_pure ((iv 1)) rfl (fun _ => by kernel_rfl) ?_)
        refine Xg.ops_op (by kernel_rfl) (Xg.opx_int .i64 (IntKind.wrap .i64 (((↑l.length : Int) + (1 : Int)))) rfl (fun _ => by kernel_rfl) (Xg.wrap_i64_in (by omega)) ?_)
        refine Xg.ops_op (by kernel_rfl) (Xg.opx_pure ((Value.slice a l.length c)) rfl (fun _ => by kernel_rfl) ?_)
        refine Xg.ops_op (by kernel_rfl) (Xg.opx_pure ((iv (↑c : Int))) rfl (fun _ => by kernel_rfl) ?_)
        refine Xg.ops_op (by kernel_rfl) (Xg.opx_pure (.bool (decide ((((↑l.length : Int) + (1 : Int)) : Int) > ((↑c : Int))))) rfl (fun _ => by kernel_rfl) ?_)
        refine Xg.ops_nil ?_
        refine Xg.at_false (t := decide (((↑l.length : Int) + (1 : Int) > (↑c : Int)))) (by kernel_rfl) (decide_eq_false (by omega)) ?_
        refine Xg.at_skip ?_
        refine Xg.at_seq ?_
        refine Xg.at_region ?_
        refine Xg.ops_op (by kernel_rfl) (Xg.opx_pure ((Value.slice a l.length c)) rfl (fun _ => by kernel_rfl) ?_)
        refine Xg.ops_op (by kernel_rfl) (Xg.opx_pure ((iv (↑l.length : Int))) rfl (fun _ => by kernel_rfl) ?_)
        refine Xg.ops_op (by kernel_rfl) (Xg.opx_pure ((iv 1)) rfl (fun _ => by kernel_rfl) ?_)
        refine Xg.ops_op (by kernel_rfl) (Xg.opx_int .i64 (IntKind.wrap .i64 (((↑l.length : Int) + (1 : Int)))) rfl (fun _ => by kernel_rfl) (Xg.wrap_i64_in (by omega)) ?_)
        refine Xg.ops_op (by kernel_rfl) (Xg.opx_run (.slice a (((↑l.length : Int) + (1 : Int)).toNat) c) rfl (Xg.run_sl_hi (elem := 3) (a := a) (c := c) (len := l.length) (k2 := .i64) (e2 := ((↑l.length : Int) + (1 : Int))) 1 (((↑l.length : Int) + (1 : Int)).toNat) (by kernel_rfl) (by kernel_rfl) (by kernel_rfl) (by kernel_rfl) (by omega) (by omega)) ?_)
        refine Xg.ops_op (by kernel_rfl) (Xg.opx_pure ((Value.slice a ((↑l.length : Int) + (1 : Int)).toNat c)) rfl (fun _ => by kernel_rfl) ?_)
        refine Xg.ops_nil ?_
        refine Xg.at_seq ?_
        refine Xg.at_seq ?_)
      rw [show ((l.length : Int) + 1).toNat = l.length + 1 from by omega]
      refine Xg.at_widen (m := 1) 0 rfl (by omega) (by omega) fun sp hsp => ?_
      obtain ⟨q, rfl⟩ : ∃ q, sp = [q] := by
        cases sp with
        | nil => cases hsp
        | cons q t => cases t with
          | nil => exact ⟨q, rfl⟩
          | cons _ _ => cases hsp
      obtain ⟨V, hV⟩ : ∃ V, l.map (Value.int .i64) ++ [q] = V := ⟨_, rfl⟩
      have hVl : V.length = l.length + 1 := by rw [← hV, List.length_append, List.length_map, List.length_singleton]
      rw [hV]
      (focus
        refine Xg.at_region ?_
        refine Xg.ops_op (by kernel_rfl) (Xg.opx_pure ((Value.slice (some (Addr.mk b (0 : Nat) none)) (1 : Nat) (1 : Nat))) rfl (fun _ => by kernel_rfl) ?_)
        refine Xg.ops_op (by kernel_rfl) (Xg.opx_pure ((Value.slice a (l.length + (1 : Nat)) c)) rfl (fun _ => by kernel_rfl) ?_)
        refine Xg.ops_op (by kernel_rfl) (Xg.opx_pure ((iv (↑i : Int))) rfl (fun _ => by kernel_rfl) ?_)
        refine Xg.ops_op (by kernel_rfl) (Xg.opx_pure ((iv 1)) rfl (fun _ => by kernel_rfl) ?_)
        refine Xg.ops_op (by kernel_rfl) (Xg.opx_int .i64 (IntKind.wrap .i64 (((↑i : Int) + (1 : Int)))) rfl (fun _ => by kernel_rfl) (Xg.wrap_i64_in (by omega)) ?_)
        refine Xg.ops_op (by kernel_rfl) (Xg.opx_run (.slice (Xg.subA a c (((↑i : Int) + (1 : Int)).toNat) 1) ((l.length + (1 : Nat)) - (((↑i : Int) + (1 : Int)).toNat)) (c - (((↑i : Int) + (1 : Int)).toNat))) rfl (Xg.run_sl_lo (elem := 3) (a := a) (c := c) (len := (l.length + (1 : Nat))) (k1 := .i64) (e1 := ((↑i : Int) + (1 : Int))) 1 (((↑i : Int) + (1 : Int)).toNat) (by kernel_rfl) (by kernel_rfl) (by kernel_rfl) (by kernel_rfl) (by omega) (by omega)) ?_))
      refine Xg.ops_op (by kernel_rfl) (Xg.opx_tells (v := .bool false) (fun w hS => Eq.trans (b := Sem.run Try.prog (callFunc 81 #[.slice (some ⟨b, 0, none⟩) 1 1, .slice (Xg.subA a c (i + 1) 1) (l.length + 1 - (i + 1)) (c - (i + 1))]) w) (by kernel_rfl) ?_) ?_)
      · obtain ⟨_, ⟨_, h0, _⟩ | ⟨ab, cap, sp', e, _, _, _, hrw⟩⟩ := (sl_at 0 rfl hS).own_cases
        · omega
        · cases e
          rw [run_callFunc_extern Try.func81 (by kernel_rfl) (by kernel_rfl) (by kernel_rfl) (e := Extern.SlicesOverlaps.overlaps #[24, 24] #[4]) (by kernel_rfl), sub_at (by omega), overlaps_apart (e := 3) (by_ := 8) (kd := .i64) (by kernel_rfl) (by kernel_rfl) (hrw.pull 1) (fun e => by have := congrArg List.length e; rw [List.length_append, List.length_nil] at this; omega)]
          rfl
      (focus
        refine Xg.ops_op (by kernel_rfl) (Xg.opx_pure (.bool true) rfl (fun _ => by kernel_rfl) ?_)
        refine Xg.ops_nil ?_
        refine Xg.at_true (t := true) (by kernel_rfl) rfl ?_
        refine Xg.at_seq ?_
        refine Xg.at_draw [8] [] (by kernel_rfl) ?_
        refine Xg.any_pure ((Value.slice a (l.length + (1 : Nat)) c)) 0 (by kernel_rfl) rfl (by kernel_rfl) (by kernel_rfl) (by kernel_rfl) (by kernel_rfl) rfl (fun _ => by kernel_rfl) ?_
        refine Xg.any_pure ((iv (↑i : Int))) 1 (by kernel_rfl) rfl (by kernel_rfl) (by kernel_rfl) (by kernel_rfl) (by kernel_rfl) rfl (fun _ => by kernel_rfl) ?_
        refine Xg.any_pure ((iv 1)) 2 (by kernel_rfl) rfl (by kernel_rfl) (by kernel_rfl) (by kernel_rfl) (by kernel_rfl) rfl (fun _ => by kernel_rfl) ?_
        refine Xg.any_int .i64 (IntKind.wrap .i64 (((↑i : Int) + (1 : Int)))) 3 (by kernel_rfl) rfl (by kernel_rfl) (by kernel_rfl) (by kernel_rfl) (by kernel_rfl) rfl (fun _ => by kernel_rfl) (Xg.wrap_i64_in (by omega)) ?_
        refine Xg.any_pure (.slice (Xg.subA a c (((↑i : Int) + (1 : Int)).toNat) 1) ((l.length + (1 : Nat)) - (((↑i : Int) + (1 : Int)).toNat)) (c - (((↑i : Int) + (1 : Int)).toNat))) 4 (by kernel_rfl) rfl (by kernel_rfl) (by kernel_rfl) (by kernel_rfl) (by kernel_rfl) rfl (Xg.run_sl_lo (elem := 3) (a := a) (c := c) (len := (l.length + (1 : Nat))) (k1 := .i64) (e1 := ((↑i : Int) + (1 : Int))) 1 (((↑i : Int) + (1 : Int)).toNat) (by kernel_rfl) (by kernel_rfl) (by kernel_rfl) (by kernel_rfl) (by omega) (by omega)) ?_
        refine Xg.any_pure ((Value.slice a (l.length + (1 : Nat)) c)) 5 (by kernel_rfl) rfl (by kernel_rfl) (by kernel_rfl) (by kernel_rfl) (by kernel_rfl) rfl (fun _ => by kernel_rfl) ?_
        refine Xg.any_pure ((iv (↑i : Int))) 6 (by kernel_rfl) rfl (by kernel_rfl) (by kernel_rfl) (by kernel_rfl) (by kernel_rfl) rfl (fun _ => by kernel_rfl) ?_
        refine Xg.any_pure (.slice (Xg.subA a c i 1) ((l.length + (1 : Nat)) - i) (c - i)) 7 (by kernel_rfl) rfl (by kernel_rfl) (by kernel_rfl) (by kernel_rfl) (by kernel_rfl) rfl (Xg.run_sl_lo (elem := 3) (a := a) (c := c) (len := (l.length + (1 : Nat))) (k1 := .i64) (e1 := ((↑i : Int))) 1 i (by kernel_rfl) (by kernel_rfl) (by kernel_rfl) (by kernel_rfl) rfl (by omega)) ?_)
      obtain ⟨V1, hV1⟩ : ∃ V1, V.take (i + 1) ++ (V.drop i).take (l.length - i) = V1 := ⟨_, rfl⟩
      have hdv : (V.drop i).length = l.length + 1 - i := by rw [List.length_drop, hVl]
      have hV1l : V1.length = l.length + 1 := by rw [← hV1, List.length_append, List.length_take, List.length_take, hdv, hVl]; omega
      have hmm : l.length + 1 - (i + 1) = l.length - i := by omega
      refine Xg.any_each [8] (by kernel_rfl) rfl ⟨?_, trivial⟩
      refine Xg.comes_act rfl (by kernel_rfl) (by kernel_rfl) (Xg.opx_copy_own (elem := 3) (kd := .i64) (vs := V) (ys := V.drop i) (a := a) (n := l.length + 1) (c := c) (ax := Xg.subA a c (i + 1) 1) (cx := c - (i + 1)) (yv := .slice (Xg.subA a c i 1) (l.length + 1 - i) (c - i)) 0 8 (i + 1) (l.length + 1 - (i + 1)) V1 ((l.length - i : Nat) : Int) rfl (by kernel_rfl) (by kernel_rfl) (by kernel_rfl) (fun b e => by rw [e]; exact sub_at (by omega)) (by kernel_rfl) (fun w hS => by have h := reads_rd (Xg.reads_part (E := 3) (sz := 1) (a := a) (c := c) (vs := V) i (l.length + 1) (by omega) (Nat.le_refl _)) 0 rfl hS; rw [Nat.mul_one, Nat.mul_one, List.take_of_length_le (by omega)] at h; rw [hdv]; exact h) (fun z hz => ?_) (by omega) hVl (by omega) (by rw [hmm, hdv, Nat.min_eq_right (by omega), show V.drop (i + 1 + (l.length - i)) = [] from List.drop_eq_nil_of_le (by omega), List.append_nil]; exact hV1) hV1l (by rw [hmm, hdv, Nat.min_eq_right (by omega)]) ?_)
      · rw [hmm, ← hV, List.drop_append_of_le_length (by rw [List.length_map]; omega), List.take_append_of_le_length (by rw [List.length_drop, List.length_map]; omega), ← List.map_drop, ← List.map_take] at hz
        obtain ⟨y, _, rfl⟩ := List.mem_map.1 hz; rfl
      refine Xg.acts Xg.owes_nil ?_
      (focus
        refine Xg.any_nil (by kernel_rfl) ?_
        refine Xg.at_seq ?_
        refine Xg.at_region ?_
        refine Xg.ops_op (by kernel_rfl) (Xg.opx_pure ((Value.slice a (l.length + (1 : Nat)) c)) rfl (fun _ => by kernel_rfl) ?_)
        refine Xg.ops_op (by kernel_rfl) (Xg.opx_pure ((iv (↑i : Int))) rfl (fun _ => by kernel_rfl) ?_)
        refine Xg.ops_op (by kernel_rfl) (Xg.opx_run (.slice (Xg.subA a c i 1) ((l.length + (1 : Nat)) - i) (c - i)) rfl (Xg.run_sl_lo (elem := 3) (a := a) (c := c) (len := (l.length + (1 : Nat))) (k1 := .i64) (e1 := ((↑i : Int))) 1 i (by kernel_rfl) (by kernel_rfl) (by kernel_rfl) (by kernel_rfl) rfl (by omega)) ?_)
        refine Xg.ops_op (by kernel_rfl) (Xg.opx_pure ((Value.slice (some (Addr.mk b (0 : Nat) none)) (1 : Nat) (1 : Nat))) rfl (fun _ => by kernel_rfl) ?_))
      have hfin : V1.take i ++ [Value.int .i64 v] ++ V1.drop (i + 1) = (l.take i ++ v :: l.drop i).map (Value.int .i64) := by
        have e0 : V.take (i + 1) = (l.take (i + 1)).map (Value.int .i64) := by rw [← hV, List.take_append_of_le_length (by rw [List.length_map]; omega), List.map_take]
        have e1 : V1.take i = (l.take i).map (Value.int .i64) := by rw [← hV1, List.take_append_of_le_length (by rw [List.length_take]; omega), List.take_take, Nat.min_eq_left (by omega), ← hV, List.take_append_of_le_length (by rw [List.length_map]; omega), List.map_take]
        have e2 : V1.drop (i + 1) = (l.drop i).map (Value.int .i64) := by
          rw [← hV1, List.drop_append_of_le_length (by rw [List.length_take]; omega), List.drop_eq_nil_of_le (by rw [List.length_take]; omega), List.nil_append, ← hV, List.drop_append_of_le_length (by rw [List.length_map]; omega), List.take_append_of_le_length (by rw [List.length_drop, List.length_map]; omega), List.take_of_length_le (by rw [List.length_drop, List.length_map]; omega), List.map_drop]
        rw [e1, e2, List.map_append, List.map_cons, List.append_assoc]; rfl
      have hfl : (l.take i ++ v :: l.drop i).length = l.length + 1 := by rw [List.length_append, List.length_cons, List.length_take, List.length_drop]; omega
      refine Xg.ops_op (by kernel_rfl) (Xg.opx_copy_own (elem := 3) (kd := .i64) (vs := V1) (ys := [.int .i64 v]) (a := a) (n := l.length + 1) (c := c) (ax := Xg.subA a c i 1) (cx := c - i) (yv := .slice (some ⟨b, 0, none⟩) 1 1) 0 8 i (l.length + 1 - i) ((l.take i ++ v :: l.drop i).map (Value.int .i64)) 1 rfl (by kernel_rfl) (by kernel_rfl) (by kernel_rfl) (fun b e => by rw [e]; exact sub_at (by omega)) (by kernel_rfl) (fun w hS => Xg.row_rd hS 1 rfl (by kernel_rfl)) (fun z hz => by obtain rfl := List.mem_singleton.1 (List.mem_of_mem_take hz); rfl) (by omega) hV1l (by omega) (by rw [List.take_of_length_le (l := [Value.int .i64 v]) (by rw [List.length_singleton]; omega), List.length_singleton, Nat.min_eq_left (by omega)]; exact hfin) (by rw [List.length_map]; exact hfl) (by rw [List.length_singleton, Nat.min_eq_left (by omega)]; rfl) ?_)
      (focus
        refine Xg.ops_nil ?_
        refine Xg.at_seq ?_
        refine Xg.at_region ?_
        refine Xg.ops_op (by kernel_rfl) (Xg.opx_pure ((Value.slice a (l.length + (1 : Nat)) c)) rfl (fun _ => by kernel_rfl) ?_)
        refine Xg.ops_op (by kernel_rfl) (Xg.opx_pure ((Value.slice a (l.length + (1 : Nat)) c)) rfl (fun _ => by kernel_rfl) ?_)
        refine Xg.ops_nil ?_
        refine Xg.at_ret_ps (v := (Value.slice a (l.length + (1 : Nat)) c)) [0] [ownS (3 : TypeId) (1 : Nat) (Value.slice a (l.length + (1 : Nat)) c) (l.length + (1 : Nat)) (List.map (Value.int IntKind.i64) (List.take i l ++ v :: List.drop i l))] Go.Proofs.Try.func65 (fun _ => by kernel_rfl) (by kernel_rfl) (by kernel_rfl) ?_
        refine ⟨((a, c)), trivial, by kernel_rfl, ?_⟩)
      dsimp only
      unfold I2 Xg.ints
      rw [hfl]
end Go.Proofs.Ytmplimmcjdkhlaa

/- The arena package: put into a sorted free list. -/
namespace Go.Proofs.Ytmplimmcjdkhlaa
open Go.Sl Go.Xg
set_option linter.unusedVariables false
set_option linter.unusedSimpArgs false
set_option linter.unnecessarySimpa false
set_option maxHeartbeats 4000000
set_option maxRecDepth 100000


/-- Into a sorted list. -/
def sins (v : Int) (l : List Int) : List Int := l.takeWhile (fun x => decide (x < v)) ++ v :: l.dropWhile (fun x => decide (x < v))
theorem tw_take (v : Int) : ∀ (l : List Int) (i : Nat), i ≤ l.length → (∀ j, j < i → l.getD j 0 < v) → (∀ j, i ≤ j → j < l.length → v ≤ l.getD j 0) → l.takeWhile (fun x => decide (x < v)) = l.take i ∧ l.dropWhile (fun x => decide (x < v)) = l.drop i
  | [], i, h, _, _ => by simp
  | x :: l, 0, h, h1, h2 => by
    have := h2 0 (Nat.le_refl _) (by simp)
    have hx : decide (x < v) = false := decide_eq_false (by simp at this; omega)
    simp [List.takeWhile_cons, List.dropWhile_cons, hx]
  | x :: l, i + 1, h, h1, h2 => by
    have h0 := h1 0 (by omega)
    have hx : decide (x < v) = true := decide_eq_true (by simpa using h0)
    obtain ⟨e1, e2⟩ := tw_take v l i (by simpa using h) (fun j hj => by simpa using h1 (j + 1) (by omega)) (fun j hj hj2 => by simpa using h2 (j + 1) (by omega) (by simpa using hj2))
    simp [List.takeWhile_cons, List.dropWhile_cons, hx, e1, e2]
theorem sins_len (v : Int) (l : List Int) : (sins v l).length = l.length + 1 := by
  unfold sins
  have := congrArg List.length (List.takeWhile_append_dropWhile (p := fun x => decide (x < v)) (l := l))
  rw [List.length_append] at this
  rw [List.length_append, List.length_cons]; omega

/-- A sorted list of numbers. -/
def Sd (l : List Int) : Prop := l.Pairwise (· ≤ ·) ∧ (∀ x ∈ l, 0 ≤ x ∧ x ≤ 1000000) ∧ l.length ≤ 100000
theorem Sd.at {l : List Int} (h : Sd l) : (∀ i j, i ≤ j → j < l.length → l.getD i 0 ≤ l.getD j 0) ∧ (∀ i, i < l.length → 0 ≤ l.getD i 0 ∧ l.getD i 0 ≤ 1000000) ∧ l.length ≤ 100000 := by
  refine ⟨fun i j hij hj => ?_, fun i hi => ?_, h.2.2⟩
  · rw [List.getD_eq_getElem?_getD, List.getD_eq_getElem?_getD, List.getElem?_eq_getElem hj, List.getElem?_eq_getElem (by omega)]
    by_cases e : i = j
    · subst e; exact Int.le_refl _
    · exact List.pairwise_iff_getElem.1 h.1 i j (by omega) hj (by omega)
  · rw [List.getD_eq_getElem?_getD, List.getElem?_eq_getElem hi]
    exact h.2.1 _ (List.getElem_mem hi)
theorem sins_mem {v : Int} {l : List Int} {x : Int} : x ∈ sins v l ↔ x = v ∨ x ∈ l := by
  unfold sins
  rw [List.mem_append, List.mem_cons]
  conv => rhs; rw [← List.takeWhile_append_dropWhile (p := fun x => decide (x < v)) (l := l), List.mem_append]
  constructor
  · rintro (h | h | h)
    · exact .inr (.inl h)
    · exact .inl h
    · exact .inr (.inr h)
  · rintro (h | h | h)
    · exact .inr (.inl h)
    · exact .inl h
    · exact .inr (.inr h)
theorem dw_ge {v : Int} : ∀ {l : List Int}, l.Pairwise (· ≤ ·) → ∀ x ∈ l.dropWhile (fun x => decide (x < v)), v ≤ x
  | [], _, x, h => by simp at h
  | y :: l, hp, x, h => by
    rw [List.dropWhile_cons] at h
    split at h
    · exact dw_ge (List.pairwise_cons.1 hp).2 x h
    · rename_i hy
      have hy : v ≤ y := by simpa using hy
      rcases List.mem_cons.1 h with e | e
      · rw [e]; exact hy
      · exact Int.le_trans hy ((List.pairwise_cons.1 hp).1 x e)
theorem tw_lt {v : Int} : ∀ {l : List Int}, ∀ x ∈ l.takeWhile (fun x => decide (x < v)), x < v
  | [], x, h => by simp at h
  | y :: l, x, h => by
    rw [List.takeWhile_cons] at h
    split at h
    · rename_i hy
      rcases List.mem_cons.1 h with e | e
      · rw [e]; simpa using hy
      · exact tw_lt x e
    · simp at h
theorem sins_sorted {v : Int} {l : List Int} (h : l.Pairwise (· ≤ ·)) : (sins v l).Pairwise (· ≤ ·) := by
  have h0 := h
  rw [← List.takeWhile_append_dropWhile (p := fun x => decide (x < v)) (l := l), List.pairwise_append] at h0
  unfold sins
  rw [List.pairwise_append, List.pairwise_cons]
  refine ⟨h0.1, ⟨fun x hx => dw_ge h x hx, h0.2.1⟩, fun x hx y hy => ?_⟩
  rcases List.mem_cons.1 hy with e | e
  · rw [e]; exact Int.le_of_lt (tw_lt x hx)
  · exact h0.2.2 x hx y e

theorem putB (b : Nat) (s : Int) (a : Option Addr) (c : Nat) (l : List Int) (v : Int) (hs : Sd l) (hv : 0 ≤ v ∧ v ≤ 1000000) : Does Try.prog 35 [.pointer (some ⟨b, 1, none⟩), .int .i64 v] [row b 98 [.int .i64 s, .slice a l.length c, fnO], I2 a c l]
    (RetE (fun x : Option Addr × Nat => True) (fun x => .tuple #[]) (fun x => [row b 98 [.int .i64 s, .slice x.1 (sins v l).length x.2, fnO], I2 x.1 x.2 (sins v l)])) := by
  obtain ⟨hs1, hs2, hs3⟩ := hs.at
  have h1 := bsG a c l v hs1 hs2 hv hs3
  have h2 := fun b i hi => insG b a c i l v hi hs3
  rw [sins_len]
  have hS : ∀ i, i ≤ l.length → (∀ j, j < i → l.getD j 0 < v) → (∀ j, i ≤ j → j < l.length → v ≤ l.getD j 0) → l.take i ++ v :: l.drop i = sins v l := fun i a1 a2 a3 => by
    obtain ⟨e1, e2⟩ := tw_take v l i a1 a2 a3
    unfold sins; rw [e1, e2]
  (focus
    refine Xg.spec_of Go.Proofs.Try.func35 rfl Go.Proofs.Try.ntmps35 fun g F => ?_)
  (focus
    refine Xg.at_seq ?_
    refine Xg.at_draw [9] [(3, [0, 1, 2, 3, 4, 5, 6, 7, 8], Xg.CellIs (b) (((1 : Nat))) ((Value.slice a l.length c))), (8, [0, 1, 2, 3, 4, 5, 6, 7, 8], Xg.CellIs (b) (((2 : Nat))) ((Value.func (Fn.func (34 : Nat)) #[] #[])))] (by kernel_rfl) ?_
    refine Xg.any_pure ((pv b 1)) 0 (by kernel_rfl) rfl (by kernel_rfl) (by kernel_rfl) (by kernel_rfl) (by kernel_rfl) rfl (fun _ => by kernel_rfl) ?_
    refine Xg.any_pure ((pv b 1)) 1 (by kernel_rfl) rfl (by kernel_rfl) (by kernel_rfl) (by kernel_rfl) (by kernel_rfl) rfl (fun _ => by kernel_rfl) ?_
    refine Xg.any_pure ((pv b 1)) 2 (by kernel_rfl) rfl (by kernel_rfl) (by kernel_rfl) (by kernel_rfl) (by kernel_rfl) rfl (fun _ => by kernel_rfl) ?_
    refine Xg.any_reads (Value.slice a l.length c) 3 0 (by kernel_rfl) rfl (by kernel_rfl) (by kernel_rfl) (by kernel_rfl) (by kernel_rfl) rfl rfl (by kernel_rfl) (Xg.cell_now (b := b) (off := ((1 : Nat))) 0 rfl (by kernel_rfl)) (fun _ h => Xg.run_load (by kernel_rfl) (by kernel_rfl) h) ?_
    refine Xg.any_pure ((iv v)) 4 (by kernel_rfl) rfl (by kernel_rfl) (by kernel_rfl) (by kernel_rfl) (by kernel_rfl) rfl (fun _ => by kernel_rfl) ?_
    refine Xg.any_pure ((pv b 1)) 5 (by kernel_rfl) rfl (by kernel_rfl) (by kernel_rfl) (by kernel_rfl) (by kernel_rfl) rfl (fun _ => by kernel_rfl) ?_
    refine Xg.any_pure ((pv b 1)) 6 (by kernel_rfl) rfl (by kernel_rfl) (by kernel_rfl) (by kernel_rfl) (by kernel_rfl) rfl (fun _ => by kernel_rfl) ?_
    refine Xg.any_pure ((pv b 2)) 7 (by kernel_rfl) rfl (by kernel_rfl) (by kernel_rfl) (by kernel_rfl) (by kernel_rfl) rfl (fun _ => by kernel_rfl) ?_
    refine Xg.any_reads (Value.func (Fn.func (34 : Nat)) #[] #[]) 8 1 (by kernel_rfl) rfl (by kernel_rfl) (by kernel_rfl) (by kernel_rfl) (by kernel_rfl) rfl rfl (by kernel_rfl) (Xg.cell_now (b := b) (off := ((2 : Nat))) 0 rfl (by kernel_rfl)) (fun _ h => Xg.run_load (by kernel_rfl) (by kernel_rfl) h) ?_
    refine Xg.any_each [9] (by kernel_rfl) rfl ⟨?_, trivial⟩
    refine Xg.comes_act rfl (by kernel_rfl) (by kernel_rfl) (Xg.opx_callE' [1] (fun xx1 => [I2 a c l, row b (98 : TypeId) [iv s, Value.slice a l.length c, Value.func (Fn.func (34 : Nat)) #[] #[]]]) (fun _ => by kernel_rfl) (@h1 ) (by kernel_rfl) (by kernel_rfl) (by kernel_rfl) fun xx1 xh1 => ?_)
    try dsimp only at xh1
    obtain ⟨xh1_0, xh1_1, xh1_2⟩ := xh1
    refine Xg.acts (Xg.owes_skip (by kernel_rfl) (Xg.owes_skip (by kernel_rfl) Xg.owes_nil)) ?_
    refine Xg.any_pure ((Value.tuple #[iv (↑xx1.fst : Int), Value.bool xx1.snd])) 10 (by kernel_rfl) rfl (by kernel_rfl) (by kernel_rfl) (by kernel_rfl) (by kernel_rfl) rfl (fun _ => by kernel_rfl) ?_
    refine Xg.any_pure ((iv (↑xx1.fst : Int))) 11 (by kernel_rfl) rfl (by kernel_rfl) (by kernel_rfl) (by kernel_rfl) (by kernel_rfl) rfl (fun _ => by kernel_rfl) ?_
    refine Xg.any_pure ((Value.bool xx1.snd)) 12 (by kernel_rfl) rfl (by kernel_rfl) (by kernel_rfl) (by kernel_rfl) (by kernel_rfl) rfl (fun _ => by kernel_rfl) ?_
    refine Xg.any_pure ((iv (↑xx1.fst : Int))) 13 (by kernel_rfl) rfl (by kernel_rfl) (by kernel_rfl) (by kernel_rfl) (by kernel_rfl) rfl (fun _ => by kernel_rfl) ?_
    refine Xg.any_pure ((Value.bool xx1.snd)) 14 (by kernel_rfl) rfl (by kernel_rfl) (by kernel_rfl) (by kernel_rfl) (by kernel_rfl) rfl (fun _ => by kernel_rfl) ?_
    refine Xg.any_nil (by kernel_rfl) ?_
    refine Xg.at_region ?_
    refine Xg.ops_op (by kernel_rfl) (Xg.opx_pure ((pv b 1)) rfl (fun _ => by kernel_rfl) ?_)
    refine Xg.ops_op (by kernel_rfl) (Xg.opx_pure ((pv b 1)) rfl (fun _ => by kernel_rfl) ?_)
    refine Xg.ops_op (by kernel_rfl) (Xg.opx_pure ((pv b 1)) rfl (fun _ => by kernel_rfl) ?_)
    refine Xg.ops_op (by kernel_rfl) (Xg.opx_pure ((pv b 1)) rfl (fun _ => by kernel_rfl) ?_)
    refine Xg.ops_op (by kernel_rfl) (Xg.opx_load (b := b) (off := ((1 : Nat))) 1 (Value.slice a l.length c) rfl (by kernel_rfl) (by kernel_rfl) (by kernel_rfl) ?_)
    refine Xg.ops_op (by kernel_rfl) (Xg.opx_pure ((iv (↑xx1.fst : Int))) rfl (fun _ => by kernel_rfl) ?_)
    refine Xg.ops_op (by kernel_rfl) (Xg.opx_pure ((iv v)) rfl (fun _ => by kernel_rfl) ?_)
    refine Xg.ops_op (by kernel_rfl) (Xg.opx_bs (elem := 3) 1 [iv v] [iv v] (by kernel_rfl) (by kernel_rfl) (by decide) rfl (by kernel_rfl) (by kernel_rfl) (by kernel_rfl) (by kernel_rfl) fun xb1 => ?_)
    refine Xg.ops_op (by kernel_rfl) (Xg.opx_callE' [1, 0] (fun xx2 => [I2 xx2.fst xx2.snd (List.take xx1.fst l ++ v :: List.drop xx1.fst l), row b (98 : TypeId) [iv s, Value.slice a l.length c, Value.func (Fn.func (34 : Nat)) #[] #[]]]) (fun _ => by kernel_rfl) (@h2 (xb1) (xx1.fst) (by omega)) (by kernel_rfl) (by kernel_rfl) (by kernel_rfl) fun xx2 xh2 => ?_)
    try dsimp only at xh2
    refine Xg.ops_op (by kernel_rfl) (Xg.opx_pure ((pv b 1)) rfl (fun _ => by kernel_rfl) ?_)
    refine Xg.ops_op (by kernel_rfl) (Xg.opx_pure ((pv b 1)) rfl (fun _ => by kernel_rfl) ?_)
    refine Xg.ops_op (by kernel_rfl) (Xg.opx_store1 (off := 1) 1 (Value.slice xx2.fst (l.length + (1 : Nat)) xx2.snd) (by kernel_rfl) rfl (by kernel_rfl) (by kernel_rfl) (by kernel_rfl) (Nat.le_of_ble_eq_true (by kernel_rfl)) ?_)
    refine Xg.ops_nil ?_
    refine Xg.at_end_ps (v := (tu)) [1, 0] [row b (98 : TypeId) [iv s, Value.slice xx2.fst (l.length + (1 : Nat)) xx2.snd, Value.func (Fn.func (34 : Nat)) #[] #[]], I2 xx2.fst xx2.snd (List.take xx1.fst l ++ v :: List.drop xx1.fst l)] Go.Proofs.Try.func35 (fun _ => by kernel_rfl) (by kernel_rfl) (by kernel_rfl) ?_
    refine ⟨((xx2.fst, xx2.snd)), trivial, by kernel_rfl, ?_⟩)
  rw [hS _ xh1_0 xh1_1 xh1_2]
theorem g_c2 (n : Nat) (sp : List Value) (C : Nat → Cls) (i : Nat) (hi : i < n) : Gets (claR n sp C) (i * 3 + 1 + 1) fnO := rowF_get 3 (fun _ => rfl) n sp C i 2 hi _ (by decide) rfl
theorem putG (cb nc : Nat) (sp : List Value) (C : Nat → Cls) (k : Nat) (hk : k < nc) (hnc : nc ≤ 100) (v : Int) (hs : Sd (C k).fr) (hv : 0 ≤ v ∧ v ≤ 1000000) : Does Try.prog 35 [.pointer (some ⟨cb, k * 3 + 1, none⟩), .int .i64 v] [CG cb nc sp C, I2 (C k).fa (C k).fc (C k).fr]
    (RetE (fun x : Option Addr × Nat => True) (fun x => .tuple #[]) (fun x => [CG cb nc sp (updF C k ⟨(C k).size, x.1, x.2, sins v (C k).fr⟩), I2 x.1 x.2 (sins v (C k).fr)])) := by
  obtain ⟨hs1, hs2, hs3⟩ := hs.at
  have h1 := bsG (C k).fa (C k).fc (C k).fr v hs1 hs2 hv hs3
  have h2 := fun b i hi => insG b (C k).fa (C k).fc i (C k).fr v hi hs3
  have hl := sins_len v (C k).fr
  have hg := g_c2 nc sp C k hk
  have hS : ∀ i, i ≤ (C k).fr.length → (∀ j, j < i → (C k).fr.getD j 0 < v) → (∀ j, i ≤ j → j < (C k).fr.length → v ≤ (C k).fr.getD j 0) → (C k).fr.take i ++ v :: (C k).fr.drop i = sins v (C k).fr := fun i a1 a2 a3 => by
    obtain ⟨e1, e2⟩ := tw_take v (C k).fr i a1 a2 a3
    unfold sins; rw [e1, e2]
  have hp : ∀ (x : Option Addr) (y : Nat), Sets (claR nc sp C) (k * 3 + 1) (.slice x ((C k).fr.length + 1) y) (claR nc sp (updF C k ⟨(C k).size, x, y, sins v (C k).fr⟩)) := fun x y => by
    have := s_c1 nc sp C k x (sins v (C k).fr) y hk
    rwa [hl] at this
  (focus
    refine Xg.spec_of Go.Proofs.Try.func35 rfl Go.Proofs.Try.ntmps35 fun g F => ?_)
  (focus
    refine Xg.at_seq ?_
    refine Xg.at_draw [9] [(3, [0, 1, 2, 3, 4, 5, 6, 7, 8], Xg.CellIs (cb) ((k * (3 : Nat) + (1 : Nat))) ((Value.slice (C k).fa (C k).fr.length (C k).fc))), (8, [0, 1, 2, 3, 4, 5, 6, 7, 8], Xg.CellIs (cb) ((k * (3 : Nat) + (1 : Nat) + (1 : Nat))) ((Value.func (Fn.func (34 : Nat)) #[] #[])))] (by kernel_rfl) ?_
    refine Xg.any_pure ((Value.pointer (some (Addr.mk cb (k * (3 : Nat) + (1 : Nat)) none)))) 0 (by kernel_rfl) rfl (by kernel_rfl) (by kernel_rfl) (by kernel_rfl) (by kernel_rfl) rfl (fun _ => by kernel_rfl) ?_
    refine Xg.any_pure ((Value.pointer (some (Addr.mk cb (k * (3 : Nat) + (1 : Nat)) none)))) 1 (by kernel_rfl) rfl (by kernel_rfl) (by kernel_rfl) (by kernel_rfl) (by kernel_rfl) rfl (fun _ => by kernel_rfl) ?_
    refine Xg.any_pure ((Value.pointer (some (Addr.mk cb (k * (3 : Nat) + (1 : Nat)) none)))) 2 (by kernel_rfl) rfl (by kernel_rfl) (by kernel_rfl) (by kernel_rfl) (by kernel_rfl) rfl (fun _ => by kernel_rfl) ?_
    refine Xg.any_reads (Value.slice (C k).fa (C k).fr.length (C k).fc) 3 0 (by kernel_rfl) rfl (by kernel_rfl) (by kernel_rfl) (by kernel_rfl) (by kernel_rfl) rfl rfl (by kernel_rfl) (Xg.cell_now (b := cb) (off := (k * (3 : Nat) + (1 : Nat))) 0 rfl (@Go.Proofs.Ytmplimmcjdkhlaa.g_c1 (nc) (sp) (C) (k) (by omega))) (fun _ h => Xg.run_load (by kernel_rfl) (by kernel_rfl) h) ?_
    refine Xg.any_pure ((iv v)) 4 (by kernel_rfl) rfl (by kernel_rfl) (by kernel_rfl) (by kernel_rfl) (by kernel_rfl) rfl (fun _ => by kernel_rfl) ?_
    refine Xg.any_pure ((Value.pointer (some (Addr.mk cb (k * (3 : Nat) + (1 : Nat)) none)))) 5 (by kernel_rfl) rfl (by kernel_rfl) (by kernel_rfl) (by kernel_rfl) (by kernel_rfl) rfl (fun _ => by kernel_rfl) ?_
    refine Xg.any_pure ((Value.pointer (some (Addr.mk cb (k * (3 : Nat) + (1 : Nat)) none)))) 6 (by kernel_rfl) rfl (by kernel_rfl) (by kernel_rfl) (by kernel_rfl) (by kernel_rfl) rfl (fun _ => by kernel_rfl) ?_
    refine Xg.any_pure ((Value.pointer (some (Addr.mk cb (k * (3 : Nat) + (1 : Nat) + (1 : Nat)) none)))) 7 (by kernel_rfl) rfl (by kernel_rfl) (by kernel_rfl) (by kernel_rfl) (by kernel_rfl) rfl (fun _ => by kernel_rfl) ?_
    refine Xg.any_reads (Value.func (Fn.func (34 : Nat)) #[] #[]) 8 1 (by kernel_rfl) rfl (by kernel_rfl) (by kernel_rfl) (by kernel_rfl) (by kernel_rfl) rfl rfl (by kernel_rfl) (Xg.cell_now (b := cb) (off := (k * (3 : Nat) + (1 : Nat) + (1 : Nat))) 0 rfl (@hg )) (fun _ h => Xg.run_load (by kernel_rfl) (by kernel_rfl) h) ?_
    refine Xg.any_each [9] (by kernel_rfl) rfl ⟨?_, trivial⟩
    refine Xg.comes_act rfl (by kernel_rfl) (by kernel_rfl) (Xg.opx_callE' [1] (fun xx1 => [I2 (C k).fa (C k).fc (C k).fr, CG cb nc sp C]) (fun _ => by kernel_rfl) (@h1 ) (by kernel_rfl) (by kernel_rfl) (by kernel_rfl) fun xx1 xh1 => ?_)
    try dsimp only at xh1
    obtain ⟨xh1_0, xh1_1, xh1_2⟩ := xh1
    refine Xg.acts (Xg.owes_skip (by kernel_rfl) (Xg.owes_skip (by kernel_rfl) Xg.owes_nil)) ?_
    refine Xg.any_pure ((Value.tuple #[iv (↑xx1.fst : Int), Value.bool xx1.snd])) 10 (by kernel_rfl) rfl (by kernel_rfl) (by kernel_rfl) (by kernel_rfl) (by kernel_rfl) rfl (fun _ => by kernel_rfl) ?_
    refine Xg.any_pure ((iv (↑xx1.fst : Int))) 11 (by kernel_rfl) rfl (by kernel_rfl) (by kernel_rfl) (by kernel_rfl) (by kernel_rfl) rfl (fun _ => by kernel_rfl) ?_
    refine Xg.any_pure ((Value.bool xx1.snd)) 12 (by kernel_rfl) rfl (by kernel_rfl) (by kernel_rfl) (by kernel_rfl) (by kernel_rfl) rfl (fun _ => by kernel_rfl) ?_
    refine Xg.any_pure ((iv (↑xx1.fst : Int))) 13 (by kernel_rfl) rfl (by kernel_rfl) (by kernel_rfl) (by kernel_rfl) (by kernel_rfl) rfl (fun _ => by kernel_rfl) ?_
    refine Xg.any_pure ((Value.bool xx1.snd)) 14 (by kernel_rfl) rfl (by kernel_rfl) (by kernel_rfl) (by kernel_rfl) (by kernel_rfl) rfl (fun _ => by kernel_rfl) ?_
    refine Xg.any_nil (by kernel_rfl) ?_
    refine Xg.at_region ?_
    refine Xg.ops_op (by kernel_rfl) (Xg.opx_pure ((Value.pointer (some (Addr.mk cb (k * (3 : Nat) + (1 : Nat)) none)))) rfl (fun _ => by kernel_rfl) ?_)
    refine Xg.ops_op (by kernel_rfl) (Xg.opx_pure ((Value.pointer (some (Addr.mk cb (k * (3 : Nat) + (1 : Nat)) none)))) rfl (fun _ => by kernel_rfl) ?_)
    refine Xg.ops_op (by kernel_rfl) (Xg.opx_pure ((Value.pointer (some (Addr.mk cb (k * (3 : Nat) + (1 : Nat)) none)))) rfl (fun _ => by kernel_rfl) ?_)
    refine Xg.ops_op (by kernel_rfl) (Xg.opx_pure ((Value.pointer (some (Addr.mk cb (k * (3 : Nat) + (1 : Nat)) none)))) rfl (fun _ => by kernel_rfl) ?_)
    refine Xg.ops_op (by kernel_rfl) (Xg.opx_load (b := cb) (off := (k * (3 : Nat) + (1 : Nat))) 1 (Value.slice (C k).fa (C k).fr.length (C k).fc) rfl (by kernel_rfl) (@Go.Proofs.Ytmplimmcjdkhlaa.g_c1 (nc) (sp) (C) (k) (by omega)) (by kernel_rfl) ?_)
    refine Xg.ops_op (by kernel_rfl) (Xg.opx_pure ((iv (↑xx1.fst : Int))) rfl (fun _ => by kernel_rfl) ?_)
    refine Xg.ops_op (by kernel_rfl) (Xg.opx_pure ((iv v)) rfl (fun _ => by kernel_rfl) ?_)
    refine Xg.ops_op (by kernel_rfl) (Xg.opx_bs (elem := 3) 1 [iv v] [iv v] (by kernel_rfl) (by kernel_rfl) (by decide) rfl (by kernel_rfl) (by kernel_rfl) (by kernel_rfl) (by kernel_rfl) fun xb1 => ?_)
    refine Xg.ops_op (by kernel_rfl) (Xg.opx_callE' [1, 0] (fun xx2 => [I2 xx2.fst xx2.snd (List.take xx1.fst (C k).fr ++ v :: List.drop xx1.fst (C k).fr), CG cb nc sp C]) (fun _ => by kernel_rfl) (@h2 (xb1) (xx1.fst) (by omega)) (by kernel_rfl) (by kernel_rfl) (by kernel_rfl) fun xx2 xh2 => ?_)
    try dsimp only at xh2
    refine Xg.ops_op (by kernel_rfl) (Xg.opx_pure ((Value.pointer (some (Addr.mk cb (k * (3 : Nat) + (1 : Nat)) none)))) rfl (fun _ => by kernel_rfl) ?_)
    refine Xg.ops_op (by kernel_rfl) (Xg.opx_pure ((Value.pointer (some (Addr.mk cb (k * (3 : Nat) + (1 : Nat)) none)))) rfl (fun _ => by kernel_rfl) ?_)
    refine Xg.ops_op (by kernel_rfl) (Xg.opx_store_c (off := (k * (3 : Nat) + (1 : Nat))) (cs' := (claR nc sp (updF C k (Cls.mk (C k).size xx2.fst xx2.snd (sins v (C k).fr))))) 1 (Value.slice xx2.fst ((C k).fr.length + (1 : Nat)) xx2.snd) (by kernel_rfl) rfl (by kernel_rfl) (by kernel_rfl) (by kernel_rfl) (@hp (xx2.fst) (xx2.snd)) ?_)
    refine Xg.ops_nil ?_
    refine Xg.at_end_ps (v := (tu)) [1, 0] [row cb (98 : TypeId) (claR nc sp (updF C k (Cls.mk (C k).size xx2.fst xx2.snd (sins v (C k).fr)))), I2 xx2.fst xx2.snd (List.take xx1.fst (C k).fr ++ v :: List.drop xx1.fst (C k).fr)] Go.Proofs.Try.func35 (fun _ => by kernel_rfl) (by kernel_rfl) (by kernel_rfl) ?_
    refine ⟨((xx2.fst, xx2.snd)), trivial, by kernel_rfl, ?_⟩)
  rw [hS _ xh1_0 xh1_1 xh1_2]
end Go.Proofs.Ytmplimmcjdkhlaa

/- The arena package, any Pool: back, Give. -/
namespace Go.Proofs.Ytmplimmcjdkhlaa
open Go.Sl Go.Xg
set_option linter.unusedVariables false
set_option linter.unusedSimpArgs false
set_option linter.unnecessarySimpa false
set_option maxHeartbeats 4000000
set_option maxRecDepth 100000


theorem backG (p cb nc cc bb nb bc ab na : Nat) (sp sq : List Value) (C : Nat → Cls) (B : Nat → Buf) (b k : Nat) (hb : b < nb) (hk : k < nc) (hcl : (B b).cls = k) (hnb : nb ≤ 100000) (hnc : nc ≤ 100) (hs : Sd (C k).fr) : Does Try.prog 37 [.pointer (some ⟨p, 0, none⟩), .int .i64 (b : Nat)] [HG p cb nc cc bb nb bc ab na, CG cb nc sp C, BG bb nb sq B, I2 (C k).fa (C k).fc (C k).fr]
    (RetE (fun x : Option Addr × Nat => True) (fun x => .int .i64 (C k).size) (fun x => [HG p cb nc cc bb nb bc ab na, CG cb nc sp (updF C k ⟨(C k).size, x.1, x.2, sins b (C k).fr⟩), BG bb nb sq (updF B b ⟨(B b).cls, nA, 0, 0⟩), I2 x.1 x.2 (sins b (C k).fr)])) := by
  have hp := putG cb nc sp C k hk hnc b hs (by omega)
  have hg0 := g_b0 nb sq B b hb
  rw [hcl] at hg0
  have hg : ∀ (x : Option Addr) (y : Nat), Gets (claR nc sp (updF C k ⟨(C k).size, x, y, sins b (C k).fr⟩)) (k * 3) (.int .i64 (C k).size) := fun x y => by
    have := g_c0 nc sp (updF C k ⟨(C k).size, x, y, sins b (C k).fr⟩) k hk
    rwa [updF_same] at this
  have hn := s_b1 nb sq B b nA 0 0 hb
  (focus
    refine Xg.spec_of Go.Proofs.Try.func37 rfl Go.Proofs.Try.ntmps37 fun g F => ?_)
  (focus
    refine Xg.at_seq ?_
    refine Xg.at_region ?_
    refine Xg.ops_op (by kernel_rfl) (Xg.opx_pure ((iv 0)) rfl (fun _ => by kernel_rfl) ?_)
    refine Xg.ops_nil ?_
    refine Xg.at_seq ?_
    refine Xg.at_draw [] [(3, [0, 1, 2, 3, 4, 5, 6, 7, 8, 9, 10, 11], Xg.CellIs (p) (((0 : Nat))) ((Value.slice (some (Addr.mk cb (0 : Nat) none)) nc cc))), (7, [0, 1, 2, 3, 4, 5, 6, 7, 8], Xg.CellIs (p) (((1 : Nat))) ((Value.slice (some (Addr.mk bb (0 : Nat) none)) nb bc))), (11, [0, 1, 2, 3, 4, 5, 6, 7, 8, 9, 10, 11], Xg.CellIs (bb) ((b * (2 : Nat))) ((iv (↑k : Int))))] (by kernel_rfl) ?_
    refine Xg.any_pure ((pv p 0)) 0 (by kernel_rfl) rfl (by kernel_rfl) (by kernel_rfl) (by kernel_rfl) (by kernel_rfl) rfl (fun _ => by kernel_rfl) ?_
    refine Xg.any_pure ((pv p 0)) 1 (by kernel_rfl) rfl (by kernel_rfl) (by kernel_rfl) (by kernel_rfl) (by kernel_rfl) rfl (fun _ => by kernel_rfl) ?_
    refine Xg.any_pure ((pv p 0)) 2 (by kernel_rfl) rfl (by kernel_rfl) (by kernel_rfl) (by kernel_rfl) (by kernel_rfl) rfl (fun _ => by kernel_rfl) ?_
    refine Xg.any_reads (Value.slice (some (Addr.mk cb (0 : Nat) none)) nc cc) 3 0 (by kernel_rfl) rfl (by kernel_rfl) (by kernel_rfl) (by kernel_rfl) (by kernel_rfl) rfl rfl (by kernel_rfl) (Xg.cell_now (b := p) (off := ((0 : Nat))) 0 rfl (by kernel_rfl)) (fun _ h => Xg.run_load (by kernel_rfl) (by kernel_rfl) h) ?_
    refine Xg.any_pure ((pv p 0)) 4 (by kernel_rfl) rfl (by kernel_rfl) (by kernel_rfl) (by kernel_rfl) (by kernel_rfl) rfl (fun _ => by kernel_rfl) ?_
    refine Xg.any_pure ((pv p 0)) 5 (by kernel_rfl) rfl (by kernel_rfl) (by kernel_rfl) (by kernel_rfl) (by kernel_rfl) rfl (fun _ => by kernel_rfl) ?_
    refine Xg.any_pure ((pv p 1)) 6 (by kernel_rfl) rfl (by kernel_rfl) (by kernel_rfl) (by kernel_rfl) (by kernel_rfl) rfl (fun _ => by kernel_rfl) ?_
    refine Xg.any_reads (Value.slice (some (Addr.mk bb (0 : Nat) none)) nb bc) 7 1 (by kernel_rfl) rfl (by kernel_rfl) (by kernel_rfl) (by kernel_rfl) (by kernel_rfl) rfl rfl (by kernel_rfl) (Xg.cell_now (b := p) (off := ((1 : Nat))) 0 rfl (by kernel_rfl)) (fun _ h => Xg.run_load (by kernel_rfl) (by kernel_rfl) h) ?_
    refine Xg.any_pure ((iv (↑b : Int))) 8 (by kernel_rfl) rfl (by kernel_rfl) (by kernel_rfl) (by kernel_rfl) (by kernel_rfl) rfl (fun _ => by kernel_rfl) ?_
    refine Xg.any_pure (.pointer (some (Addr.mk bb (b * (2 : Nat)) none))) 9 (by kernel_rfl) rfl (by kernel_rfl) (by kernel_rfl) (by kernel_rfl) (by kernel_rfl) rfl (Xg.run_ix_slice' (elem := 101) (b := bb) (off := ((0 : Nat))) (len := nb) (cap := bc) (kd := .i64) (e := ((↑b : Int))) 2 b (b * (2 : Nat)) (by kernel_rfl) (by kernel_rfl) (by kernel_rfl) (by kernel_rfl) rfl (by omega) (by omega)) ?_
    refine Xg.any_pure ((Value.pointer (some (Addr.mk bb (b * (2 : Nat)) none)))) 10 (by kernel_rfl) rfl (by kernel_rfl) (by kernel_rfl) (by kernel_rfl) (by kernel_rfl) rfl (fun _ => by kernel_rfl) ?_
    refine Xg.any_reads (iv (↑k : Int)) 11 2 (by kernel_rfl) rfl (by kernel_rfl) (by kernel_rfl) (by kernel_rfl) (by kernel_rfl) rfl rfl (by kernel_rfl) (Xg.cell_now (b := bb) (off := (b * (2 : Nat))) 2 rfl (@hg0 )) (fun _ h => Xg.run_load (by kernel_rfl) (by kernel_rfl) h) ?_
    refine Xg.any_pure (.pointer (some (Addr.mk cb (k * (3 : Nat)) none))) 12 (by kernel_rfl) rfl (by kernel_rfl) (by kernel_rfl) (by kernel_rfl) (by kernel_rfl) rfl (Xg.run_ix_slice' (elem := 98) (b := cb) (off := ((0 : Nat))) (len := nc) (cap := cc) (kd := .i64) (e := ((↑k : Int))) 3 k (k * (3 : Nat)) (by kernel_rfl) (by kernel_rfl) (by kernel_rfl) (by kernel_rfl) rfl (by omega) (by omega)) ?_
    refine Xg.any_pure ((Value.pointer (some (Addr.mk cb (k * (3 : Nat)) none)))) 13 (by kernel_rfl) rfl (by kernel_rfl) (by kernel_rfl) (by kernel_rfl) (by kernel_rfl) rfl (fun _ => by kernel_rfl) ?_
    refine Xg.any_nil (by kernel_rfl) ?_
    refine Xg.at_seq ?_
    refine Xg.at_region ?_
    refine Xg.ops_op (by kernel_rfl) (Xg.opx_pure ((pv p 0)) rfl (fun _ => by kernel_rfl) ?_)
    refine Xg.ops_op (by kernel_rfl) (Xg.opx_pure ((pv p 0)) rfl (fun _ => by kernel_rfl) ?_)
    refine Xg.ops_op (by kernel_rfl) (Xg.opx_pure ((pv p 1)) rfl (fun _ => by kernel_rfl) ?_)
    refine Xg.ops_op (by kernel_rfl) (Xg.opx_load (b := p) (off := ((1 : Nat))) 0 (Value.slice (some (Addr.mk bb (0 : Nat) none)) nb bc) rfl (by kernel_rfl) (by kernel_rfl) (by kernel_rfl) ?_)
    refine Xg.ops_op (by kernel_rfl) (Xg.opx_pure ((iv (↑b : Int))) rfl (fun _ => by kernel_rfl) ?_)
    refine Xg.ops_op (by kernel_rfl) (Xg.opx_run (.pointer (some (Addr.mk bb (b * (2 : Nat)) none))) rfl (Xg.run_ix_slice' (elem := 101) (b := bb) (off := ((0 : Nat))) (len := nb) (cap := bc) (kd := .i64) (e := ((↑b : Int))) 2 b (b * (2 : Nat)) (by kernel_rfl) (by kernel_rfl) (by kernel_rfl) (by kernel_rfl) rfl (by omega) (by omega)) ?_)
    refine Xg.ops_op (by kernel_rfl) (Xg.opx_pure ((Value.pointer (some (Addr.mk bb (b * (2 : Nat) + (1 : Nat)) none)))) rfl (fun _ => by kernel_rfl) ?_)
    refine Xg.ops_op (by kernel_rfl) (Xg.opx_store_c (off := (b * (2 : Nat) + (1 : Nat))) (cs' := (bufR nb sq (updF B b (Buf.mk (B b).cls nA (0 : Nat) (0 : Nat))))) 2 (Value.slice none (0 : Nat) (0 : Nat)) (by kernel_rfl) rfl (by kernel_rfl) (by kernel_rfl) (by kernel_rfl) (@hn ) ?_)
    refine Xg.ops_nil ?_
    refine Xg.at_seq ?_
    refine Xg.at_region ?_
    refine Xg.ops_op (by kernel_rfl) (Xg.opx_pure ((Value.pointer (some (Addr.mk cb (k * (3 : Nat)) none)))) rfl (fun _ => by kernel_rfl) ?_)
    refine Xg.ops_op (by kernel_rfl) (Xg.opx_pure ((Value.pointer (some (Addr.mk cb (k * (3 : Nat)) none)))) rfl (fun _ => by kernel_rfl) ?_)
    refine Xg.ops_op (by kernel_rfl) (Xg.opx_pure ((Value.pointer (some (Addr.mk cb (k * (3 : Nat) + (1 : Nat)) none)))) rfl (fun _ => by kernel_rfl) ?_)
    refine Xg.ops_op (by kernel_rfl) (Xg.opx_pure ((iv (↑b : Int))) rfl (fun _ => by kernel_rfl) ?_)
    refine Xg.ops_op (by kernel_rfl) (Xg.opx_callE' [1, 3] (fun xx1 => [CG cb nc sp (updF C k (Cls.mk (C k).size xx1.fst xx1.snd (sins (↑b : Int) (C k).fr))), I2 xx1.fst xx1.snd (sins (↑b : Int) (C k).fr), HG p cb nc cc bb nb bc ab na, row bb (101 : TypeId) (bufR nb sq (updF B b (Buf.mk (B b).cls nA (0 : Nat) (0 : Nat))))]) (fun _ => by kernel_rfl) (@hp ) (by kernel_rfl) (by kernel_rfl) (by kernel_rfl) fun xx1 xh1 => ?_)
    try dsimp only at xh1
    refine Xg.ops_nil ?_
    refine Xg.at_seq ?_
    refine Xg.at_region ?_
    refine Xg.ops_op (by kernel_rfl) (Xg.opx_pure ((Value.pointer (some (Addr.mk cb (k * (3 : Nat)) none)))) rfl (fun _ => by kernel_rfl) ?_)
    refine Xg.ops_op (by kernel_rfl) (Xg.opx_pure ((Value.pointer (some (Addr.mk cb (k * (3 : Nat)) none)))) rfl (fun _ => by kernel_rfl) ?_)
    refine Xg.ops_op (by kernel_rfl) (Xg.opx_pure ((Value.pointer (some (Addr.mk cb (k * (3 : Nat)) none)))) rfl (fun _ => by kernel_rfl) ?_)
    refine Xg.ops_op (by kernel_rfl) (Xg.opx_load (b := cb) (off := (k * (3 : Nat))) 0 (iv (C k).size) rfl (by kernel_rfl) (@hg (xx1.fst) (xx1.snd)) (by kernel_rfl) ?_)
    refine Xg.ops_op (by kernel_rfl) (Xg.opx_pure ((iv (C k).size)) rfl (fun _ => by kernel_rfl) ?_)
    refine Xg.ops_nil ?_
    refine Xg.at_ret_ps (v := (iv (C k).size)) [2, 0, 3, 1] [HG p cb nc cc bb nb bc ab na, CG cb nc sp (updF C k (Cls.mk (C k).size xx1.fst xx1.snd (sins (↑b : Int) (C k).fr))), row bb (101 : TypeId) (bufR nb sq (updF B b (Buf.mk (B b).cls nA (0 : Nat) (0 : Nat)))), I2 xx1.fst xx1.snd (sins (↑b : Int) (C k).fr)] Go.Proofs.Try.func37 (fun _ => by kernel_rfl) (by kernel_rfl) (by kernel_rfl) ?_
    refine ⟨((xx1.fst, xx1.snd)), trivial, by kernel_rfl, by kernel_rfl⟩)
section
variable (p cb nc cc bb nb bc ab na : Nat) (u : Nat → Option Nat) (id r : Nat) (hid : id < na) (hna : na ≤ 64) (hu : u id = some r) (sp sq : List Value) (C : Nat → Cls) (B : Nat → Buf) (q us : Int) (ta : Option Addr) (tc : Nat) (tk : List Int)
include hid hna hu
theorem giveG (b k i z : Nat) (hi : fidx (fun x => ((b : Nat) : Int) == x) tk = i) (hb : b < nb) (hk : k < nc) (hcl : (B b).cls = k) (hnb : nb ≤ 100000) (hnc : nc ≤ 100) (hs : Sd (C k).fr) (hz : (C k).size = (z : Nat)) (hz1 : z ≤ 65536) (hus : 0 ≤ us ∧ us ≤ 1000000000000) (htk : tk.length ≤ 100000) : Does Try.prog 23 [.pointer (some ⟨p, 0, none⟩), .int .i64 (id : Nat), .int .i64 (b : Nat)] [HG p cb nc cc bb nb bc ab na, PtP ab na u, R2 r q us ta tk.length tc, I2 ta tc tk, CG cb nc sp C, BG bb nb sq B, I2 (C k).fa (C k).fc (C k).fr]
    (RetE (fun x : Option Addr × Nat => True) (fun x => .int .i64 0) (fun x => [HG p cb nc cc bb nb bc ab na, PtP ab na u, R2 r q (us - z) ta (tk.eraseIdx i).length tc, I2 ta tc (tk.eraseIdx i), CG cb nc sp (updF C k ⟨(C k).size, x.1, x.2, sins b (C k).fr⟩), BG bb nb sq (updF B b ⟨(B b).cls, nA, 0, 0⟩), I2 x.1 x.2 (sins b (C k).fr)])) := by
  have ho := of_some p ab na id r (.slice (some ⟨cb, 0, none⟩) nc cc) (.slice (some ⟨bb, 0, none⟩) nb bc) u hid hna hu
  have hx := index_d ta tc tk b
  have hg := fidx_ge (p := fun x => ((b : Nat) : Int) == x) tk
  rw [hi] at hx hg
  have hd := deli_d ta tc tk i (by omega)
  have hbk := backG p cb nc cc bb nb bc ab na sp sq C B b k hb hk hcl hnb hnc hs
  rw [hz] at hbk ⊢
  (focus
    refine Xg.spec_of Go.Proofs.Try.func23 rfl Go.Proofs.Try.ntmps23 fun g F => ?_)
  (focus
    refine Xg.at_seq ?_
    refine Xg.at_region ?_
    refine Xg.ops_op (by kernel_rfl) (Xg.opx_pure ((iv 0)) rfl (fun _ => by kernel_rfl) ?_)
    refine Xg.ops_nil ?_
    refine Xg.at_seq ?_
    refine Xg.at_region ?_
    refine Xg.ops_op (by kernel_rfl) (Xg.opx_pure ((pv p 0)) rfl (fun _ => by kernel_rfl) ?_)
    refine Xg.ops_op (by kernel_rfl) (Xg.opx_pure ((iv (↑id : Int))) rfl (fun _ => by kernel_rfl) ?_)
    refine Xg.ops_op (by kernel_rfl) (Xg.opx_call1' [0, 1] [HdP p ab na (Value.slice (some (Addr.mk cb (0 : Nat) none)) nc cc) (Value.slice (some (Addr.mk bb (0 : Nat) none)) nb bc), PtP ab na u, R2 r q us ta tk.length tc, I2 ta tc tk, CG cb nc sp C, BG bb nb sq B, I2 (C k).fa (C k).fc (C k).fr] (fun _ => by kernel_rfl) (@ho ) (by kernel_rfl) (by kernel_rfl) (by kernel_rfl) ?_)
    refine Xg.ops_op (by kernel_rfl) (Xg.opx_pure ((pv r 0)) rfl (fun _ => by kernel_rfl) ?_)
    refine Xg.ops_nil ?_
    refine Xg.at_seq ?_
    refine Xg.at_seq ?_
    refine Xg.at_region ?_
    refine Xg.ops_op (by kernel_rfl) (Xg.opx_pure ((pv r 0)) rfl (fun _ => by kernel_rfl) ?_)
    refine Xg.ops_op (by kernel_rfl) (Xg.opx_pure ((Value.bool false)) rfl (fun _ => by kernel_rfl) ?_)
    refine Xg.ops_nil ?_
    refine Xg.at_false (t := false) (by kernel_rfl) rfl ?_
    refine Xg.at_skip ?_
    refine Xg.at_seq ?_
    refine Xg.at_region ?_
    refine Xg.ops_op (by kernel_rfl) (Xg.opx_pure ((pv r 0)) rfl (fun _ => by kernel_rfl) ?_)
    refine Xg.ops_op (by kernel_rfl) (Xg.opx_pure ((pv r 0)) rfl (fun _ => by kernel_rfl) ?_)
    refine Xg.ops_op (by kernel_rfl) (Xg.opx_pure ((pv r 2)) rfl (fun _ => by kernel_rfl) ?_)
    refine Xg.ops_op (by kernel_rfl) (Xg.opx_load (b := r) (off := ((2 : Nat))) 2 (Value.slice ta tk.length tc) rfl (by kernel_rfl) (by kernel_rfl) (by kernel_rfl) ?_)
    refine Xg.ops_op (by kernel_rfl) (Xg.opx_pure ((iv (↑b : Int))) rfl (fun _ => by kernel_rfl) ?_)
    refine Xg.ops_op (by kernel_rfl) (Xg.opx_call1' [3] [ints (3 : TypeId) IntKind.i64 ta tc tk, HdP p ab na (Value.slice (some (Addr.mk cb (0 : Nat) none)) nc cc) (Value.slice (some (Addr.mk bb (0 : Nat) none)) nb bc), PtP ab na u, R2 r q us ta tk.length tc, CG cb nc sp C, BG bb nb sq B, I2 (C k).fa (C k).fc (C k).fr] (fun _ => by kernel_rfl) (@hx ) (by kernel_rfl) (by kernel_rfl) (by kernel_rfl) ?_)
    refine Xg.ops_op (by kernel_rfl) (Xg.opx_pure ((iv (↑i : Int))) rfl (fun _ => by kernel_rfl) ?_)
    refine Xg.ops_nil ?_
    refine Xg.at_seq ?_
    refine Xg.at_seq ?_
    refine Xg.at_region ?_
    refine Xg.ops_op (by kernel_rfl) (Xg.opx_pure ((iv (↑i : Int))) rfl (fun _ => by kernel_rfl) ?_)
    refine Xg.ops_op (by kernel_rfl) (Xg.opx_pure (.bool (decide ((((↑i : Int)) : Int) < ((0 : Int))))) rfl (fun _ => by kernel_rfl) ?_)
    refine Xg.ops_nil ?_
    refine Xg.at_false (t := false) (by kernel_rfl) rfl ?_
    refine Xg.at_skip ?_
    refine Xg.at_seq ?_
    refine Xg.at_region ?_
    refine Xg.ops_op (by kernel_rfl) (Xg.opx_pure ((pv r 0)) rfl (fun _ => by kernel_rfl) ?_)
    refine Xg.ops_op (by kernel_rfl) (Xg.opx_pure ((pv r 0)) rfl (fun _ => by kernel_rfl) ?_)
    refine Xg.ops_op (by kernel_rfl) (Xg.opx_pure ((pv r 0)) rfl (fun _ => by kernel_rfl) ?_)
    refine Xg.ops_op (by kernel_rfl) (Xg.opx_pure ((pv r 2)) rfl (fun _ => by kernel_rfl) ?_)
    refine Xg.ops_op (by kernel_rfl) (Xg.opx_load (b := r) (off := ((2 : Nat))) 3 (Value.slice ta tk.length tc) rfl (by kernel_rfl) (by kernel_rfl) (by kernel_rfl) ?_)
    refine Xg.ops_op (by kernel_rfl) (Xg.opx_pure ((iv (↑i : Int))) rfl (fun _ => by kernel_rfl) ?_)
    refine Xg.ops_op (by kernel_rfl) (Xg.opx_pure ((iv (↑i : Int))) rfl (fun _ => by kernel_rfl) ?_)
    refine Xg.ops_op (by kernel_rfl) (Xg.opx_int .i64 (IntKind.wrap .i64 (((↑i : Int) + (1 : Int)))) rfl (fun _ => by kernel_rfl) (Xg.wrap_i64_in (by omega)) ?_)
    refine Xg.ops_op (by kernel_rfl) (Xg.opx_call1' [0] [I2 ta tc (tk.eraseIdx i), HdP p ab na (Value.slice (some (Addr.mk cb (0 : Nat) none)) nc cc) (Value.slice (some (Addr.mk bb (0 : Nat) none)) nb bc), PtP ab na u, R2 r q us ta tk.length tc, CG cb nc sp C, BG bb nb sq B, I2 (C k).fa (C k).fc (C k).fr] (fun _ => by kernel_rfl) (@hd ) (by kernel_rfl) (by kernel_rfl) (by kernel_rfl) ?_)
    refine Xg.ops_op (by kernel_rfl) (Xg.opx_pure ((pv r 0)) rfl (fun _ => by kernel_rfl) ?_)
    refine Xg.ops_op (by kernel_rfl) (Xg.opx_pure ((pv r 2)) rfl (fun _ => by kernel_rfl) ?_)
    refine Xg.ops_op (by kernel_rfl) (Xg.opx_store1 (off := 2) 3 (Value.slice ta (tk.eraseIdx i).length tc) (by kernel_rfl) rfl (by kernel_rfl) (by kernel_rfl) (by kernel_rfl) (Nat.le_of_ble_eq_true (by kernel_rfl)) ?_)
    refine Xg.ops_nil ?_
    refine Xg.at_seq ?_
    refine Xg.at_draw [6, 10] [(3, [0, 1, 2, 3, 4, 5, 6], Xg.CellIs (r) (((1 : Nat))) ((iv us)))] (by kernel_rfl) ?_
    refine Xg.any_pure ((pv r 0)) 0 (by kernel_rfl) rfl (by kernel_rfl) (by kernel_rfl) (by kernel_rfl) (by kernel_rfl) rfl (fun _ => by kernel_rfl) ?_
    refine Xg.any_pure ((pv r 0)) 1 (by kernel_rfl) rfl (by kernel_rfl) (by kernel_rfl) (by kernel_rfl) (by kernel_rfl) rfl (fun _ => by kernel_rfl) ?_
    refine Xg.any_pure ((pv r 1)) 2 (by kernel_rfl) rfl (by kernel_rfl) (by kernel_rfl) (by kernel_rfl) (by kernel_rfl) rfl (fun _ => by kernel_rfl) ?_
    refine Xg.any_reads (iv us) 3 0 (by kernel_rfl) rfl (by kernel_rfl) (by kernel_rfl) (by kernel_rfl) (by kernel_rfl) rfl rfl (by kernel_rfl) (Xg.cell_now (b := r) (off := ((1 : Nat))) 3 rfl (by kernel_rfl)) (fun _ h => Xg.run_load (by kernel_rfl) (by kernel_rfl) h) ?_
    refine Xg.any_pure ((pv p 0)) 4 (by kernel_rfl) rfl (by kernel_rfl) (by kernel_rfl) (by kernel_rfl) (by kernel_rfl) rfl (fun _ => by kernel_rfl) ?_
    refine Xg.any_pure ((iv (↑b : Int))) 5 (by kernel_rfl) rfl (by kernel_rfl) (by kernel_rfl) (by kernel_rfl) (by kernel_rfl) rfl (fun _ => by kernel_rfl) ?_
    refine Xg.any_each [6] (by kernel_rfl) rfl ⟨?_, trivial⟩
    refine Xg.comes_act rfl (by kernel_rfl) (by kernel_rfl) (Xg.opx_callE' [1, 4, 5, 6] (fun xx1 => [HG p cb nc cc bb nb bc ab na, CG cb nc sp (updF C k (Cls.mk (↑z : Int) xx1.fst xx1.snd (sins (↑b : Int) (C k).fr))), BG bb nb sq (updF B b (Buf.mk (B b).cls nA (0 : Nat) (0 : Nat))), I2 xx1.fst xx1.snd (sins (↑b : Int) (C k).fr), I2 ta tc (tk.eraseIdx i), PtP ab na u, row r (105 : TypeId) [iv q, iv us, Value.slice ta (tk.eraseIdx i).length tc]]) (fun _ => by kernel_rfl) (@hbk ) (by kernel_rfl) (by kernel_rfl) (by kernel_rfl) fun xx1 xh1 => ?_)
    try dsimp only at xh1
    refine Xg.acts (Xg.owes_cell 6 rfl (by kernel_rfl) Xg.owes_nil) ?_
    refine Xg.any_int .i64 (IntKind.wrap .i64 ((us - (↑z : Int)))) 7 (by kernel_rfl) rfl (by kernel_rfl) (by kernel_rfl) (by kernel_rfl) (by kernel_rfl) rfl (fun _ => by kernel_rfl) (Xg.wrap_i64_in (by omega)) ?_
    refine Xg.any_pure ((pv r 0)) 8 (by kernel_rfl) rfl (by kernel_rfl) (by kernel_rfl) (by kernel_rfl) (by kernel_rfl) rfl (fun _ => by kernel_rfl) ?_
    refine Xg.any_pure ((pv r 1)) 9 (by kernel_rfl) rfl (by kernel_rfl) (by kernel_rfl) (by kernel_rfl) (by kernel_rfl) rfl (fun _ => by kernel_rfl) ?_
    refine Xg.any_each [10] (by kernel_rfl) rfl ⟨?_, trivial⟩
    refine Xg.comes_act rfl (by kernel_rfl) (by kernel_rfl) (Xg.opx_store1 (off := 1) 6 (iv (us - (↑z : Int))) (by kernel_rfl) rfl (by kernel_rfl) (by kernel_rfl) (by kernel_rfl) (Nat.le_of_ble_eq_true (by kernel_rfl)) ?_)
    refine Xg.acts (Xg.owes_skip (by kernel_rfl) Xg.owes_nil) ?_
    refine Xg.any_nil (by kernel_rfl) ?_
    refine Xg.at_seq ?_
    refine Xg.at_region ?_
    refine Xg.ops_op (by kernel_rfl) (Xg.opx_pure ((iv 0)) rfl (fun _ => by kernel_rfl) ?_)
    refine Xg.ops_nil ?_
    refine Xg.at_ret_ps (v := (iv 0)) [0, 5, 6, 4, 1, 2, 3] [HG p cb nc cc bb nb bc ab na, PtP ab na u, row r (105 : TypeId) [iv q, iv (us - (↑z : Int)), Value.slice ta (tk.eraseIdx i).length tc], I2 ta tc (tk.eraseIdx i), CG cb nc sp (updF C k (Cls.mk (↑z : Int) xx1.fst xx1.snd (sins (↑b : Int) (C k).fr))), BG bb nb sq (updF B b (Buf.mk (B b).cls nA (0 : Nat) (0 : Nat))), I2 xx1.fst xx1.snd (sins (↑b : Int) (C k).fr)] Go.Proofs.Try.func23 (fun _ => by kernel_rfl) (by kernel_rfl) (by kernel_rfl) ?_
    refine ⟨((xx1.fst, xx1.snd)), trivial, by kernel_rfl, by kernel_rfl⟩)
end

theorem does_conv {pre pre' K : List HP} {f : FuncId} {args : List Value} {α β : Type} {pp : α → Prop} {V : α → Value} {PS : α → List HP} {q : β → Prop} {V' : β → Value} {QS : β → List HP}
    (h : Does Try.prog f args pre' (RetE pp V PS)) (h1 : ∀ g w F, SL g (pre ++ F) w → SL g (pre' ++ (K ++ F)) w) (h2 : ∀ x, pp x → ∀ g w F, SL g (PS x ++ (K ++ F)) w → ∃ y, q y ∧ V x = V' y ∧ SL g (QS y ++ F) w) : Does Try.prog f args pre (RetE q V' QS) := by
  constructor
  intro g F w hS cs
  obtain ⟨e, w', fr, ⟨v, ps, ⟨x, hx, rfl, rfl⟩, rfl, h3⟩, h4⟩ := h.run g (K ++ F) w (h1 _ _ _ hS) cs
  obtain ⟨y, hy, hv, hs⟩ := h2 x hx _ _ _ h3
  exact ⟨_, w', fr, ⟨_, _, ⟨y, hy, hv, rfl⟩, rfl, hs⟩, h4⟩
/-- back, with all free lists at hand. -/
theorem backA (p cb nc cc bb nb bc ab na : Nat) (sp sq : List Value) (C : Nat → Cls) (B : Nat → Buf) (b k : Nat) (hb : b < nb) (hk : k < nc) (hcl : (B b).cls = k) (hnb : nb ≤ 100000) (hnc : nc ≤ 100) (hs : Sd (C k).fr) : Does Try.prog 37 [.pointer (some ⟨p, 0, none⟩), .int .i64 (b : Nat)] [HG p cb nc cc bb nb bc ab na, CG cb nc sp C, BG bb nb sq B, S0 C nc]
    (RetE (fun x : Option Addr × Nat => True) (fun x => .int .i64 (C k).size) (fun x => [HG p cb nc cc bb nb bc ab na, CG cb nc sp (updF C k ⟨(C k).size, x.1, x.2, sins b (C k).fr⟩), BG bb nb sq (updF B b ⟨(B b).cls, nA, 0, 0⟩), S0 (updF C k ⟨(C k).size, x.1, x.2, sins b (C k).fr⟩) nc])) := by
  refine does_conv (K := [H0 C nc k]) (backG p cb nc cc bb nb bc ab na sp sq C B b k hb hk hcl hnb hnc hs) (fun g w F hS => ?_) fun x hx g w F hS => ⟨x, hx, rfl, ?_⟩
  · have h1 := s0_take hk (sl_ord [3, 0, 1, 2] 4 rfl hS)
    exact sl_ord [2, 3, 4, 0, 1] 5 rfl h1
  · have h1 := s0_put ⟨(C k).size, x.1, x.2, sins b (C k).fr⟩ hk (sl_ord [3, 4, 0, 1, 2] 5 rfl hS)
    exact sl_ord [1, 2, 3, 0] 4 rfl h1

def giveσ (σ : Po) (id : Nat) (r : Ar) (b i : Nat) : Po := { σ with fr := updF σ.fr (σ.cl b) (sins b (σ.fr (σ.cl b))), bs := updF σ.bs b none, ar := updF σ.ar id (some ⟨r.q, r.us - σ.size (σ.cl b), r.tk.eraseIdx i⟩) }
theorem giveS (p : Nat) (σ : Po) (hna : σ.na ≤ 64) (hnb : σ.nb ≤ 100000) (hnc : σ.nc ≤ 100) (id : Nat) (hid : id < σ.na) (r : Ar) (hr : σ.ar id = some r) (b i : Nat) (hi : fidx (fun x => ((b : Nat) : Int) == x) r.tk = i) (hb : b < σ.nb) (hk : σ.cl b < σ.nc) (hs : Sd (σ.fr (σ.cl b))) (hz1 : σ.size (σ.cl b) ≤ 65536) (hus : 0 ≤ r.us ∧ r.us ≤ 1000000000000) (htk : r.tk.length ≤ 100000) (l : List Int) (hbs : σ.bs b = some l) :
    Does Try.prog 23 [.pointer (some ⟨p, 0, none⟩), .int .i64 (id : Nat), .int .i64 (b : Nat)] [PoolS p σ] (Ret (.int .i64 0) [PoolS p (giveσ σ id r b i)]) := by
  obtain ⟨k, hkk⟩ : ∃ k, σ.cl b = k := ⟨_, rfl⟩
  unfold giveσ
  rw [hkk] at hk hs hz1 ⊢
  refine e_ret (does_pool (X := []) fun a => ?_)
  obtain ⟨c, hc, ho⟩ := open_ar (p := p) hid hr a
  obtain ⟨hCs, hCf⟩ := a.hC k hk
  refine ⟨_, [H0 a.C σ.nc k, H1 σ.bs a.B σ.nb b, H2x σ.ar a.u a.T σ.na id], _, _, _, _, giveG p a.cb σ.nc a.cc a.bb σ.nb a.bc a.ab σ.na a.u id c hid hna hc a.sp a.sq a.C a.B r.q r.us (a.T id).1 (a.T id).2 r.tk b k i (σ.size k) hi hb hk ((a.hB b hb).trans hkk) hnb hnc (by rw [hCf]; exact hs) hCs hz1 hus htk, fun g w F hS => ?_, fun x hx g w F hS => ⟨(), trivial, rfl, ?_⟩⟩
  · have h1 := s0_take hk (sl_ord [6, 0, 1, 2, 3, 4, 5, 7, 8] 9 rfl (ho g w F hS))
    have h2 := (s1_take hb hbs (sl_ord [8, 0, 1, 2, 3, 4, 5, 6, 7, 9] 10 rfl h1)).tail
    exact sl_ord [3, 4, 5, 6, 7, 8, 1, 2, 0, 9] 10 rfl h2
  · rw [hCf, hCs] at hS
    have h1 := s0_put ⟨(σ.size k : Nat), x.1, x.2, sins b (σ.fr k)⟩ hk (sl_ord [6, 7, 0, 1, 2, 3, 4, 5, 8, 9] 10 rfl hS)
    have h2 := s1_putN ⟨(a.B b).cls, nA, 0, 0⟩ hb (sl_ord [7, 0, 1, 2, 3, 4, 5, 6, 8] 9 rfl h1)
    have h3 := s2_put ⟨r.q, r.us - σ.size k, r.tk.eraseIdx i⟩ c (a.T id) hid (sl_ord [4, 5, 8, 0, 1, 2, 3, 6, 7] 9 rfl h2)
    rw [← hc, updF_self, updF_self] at h3
    refine pools_shut (σ := { σ with fr := updF σ.fr k (sins b (σ.fr k)), bs := updF σ.bs b none, ar := updF σ.ar id (some ⟨r.q, r.us - σ.size k, r.tk.eraseIdx i⟩) }) (PAd.mk a.cb a.cc a.bb a.bc a.ab a.sp a.sq (updF a.C k ⟨(σ.size k : Nat), x.1, x.2, sins b (σ.fr k)⟩) (updF a.B b ⟨(a.B b).cls, nA, 0, 0⟩) a.u a.T (fun j hj => ?_) (fun j hj => ?_) (fun j m hj hm => ?_) fun j hj => ?_) (sl_ord [3, 5, 6, 4, 2, 1, 0] 7 rfl h3)
    · unfold updF
      dsimp only
      split
      · rename_i e; subst e; exact ⟨rfl, rfl⟩
      · exact a.hC j hj
    · unfold updF
      dsimp only
      split
      · rename_i e; subst e; exact a.hB j hj
      · exact a.hB j hj
    · unfold updF at hm ⊢
      dsimp only at hm ⊢
      split
      · rename_i e; rw [if_pos e] at hm; cases hm
      · rename_i e; rw [if_neg e] at hm; exact a.hb j m hj hm
    · unfold updF
      dsimp only
      split
      · rename_i e; rw [e, hc]; rfl
      · exact a.hu j hj
end Go.Proofs.Ytmplimmcjdkhlaa

/- The arena package, any Pool: Close. -/
namespace Go.Proofs.Ytmplimmcjdkhlaa
open Go.Sl Go.Xg
set_option linter.unusedVariables false
set_option linter.unusedSimpArgs false
set_option linter.unnecessarySimpa false
set_option maxHeartbeats 4000000
set_option maxRecDepth 100000


def backB (B : Nat → Buf) (l : List Int) : Nat → Buf := l.foldl (fun B b => updF B b.toNat ⟨(B b.toNat).cls, nA, 0, 0⟩) B
def backF (cl : Nat → Nat) (fr : Nat → List Int) (l : List Int) : Nat → List Int := l.foldl (fun fr b => updF fr (cl b.toNat) (sins b (fr (cl b.toNat)))) fr
def backS (bs : Nat → Option (List Int)) (l : List Int) : Nat → Option (List Int) := l.foldl (fun bs b => updF bs b.toNat none) bs
theorem take_one (l : List Int) (j : Nat) (h : j < l.length) : l.take (j + 1) = l.take j ++ [l.getD j 0] := by
  rw [List.take_add_one, List.getElem?_eq_getElem h, List.getD_eq_getElem?_getD, List.getElem?_eq_getElem h]; rfl
theorem backB_one (B : Nat → Buf) (l : List Int) (x : Int) : backB B (l ++ [x]) = updF (backB B l) x.toNat ⟨(backB B l x.toNat).cls, nA, 0, 0⟩ := by unfold backB; rw [List.foldl_append]; rfl
theorem backF_one (cl : Nat → Nat) (fr : Nat → List Int) (l : List Int) (x : Int) : backF cl fr (l ++ [x]) = updF (backF cl fr l) (cl x.toNat) (sins x (backF cl fr l (cl x.toNat))) := by unfold backF; rw [List.foldl_append]; rfl
theorem backB_cls (l : List Int) : ∀ (B : Nat → Buf) (b : Nat), (backB B l b).cls = (B b).cls := by
  induction l with
  | nil => intro B b; rfl
  | cons x l ih =>
    intro B b
    show (backB (updF B x.toNat ⟨(B x.toNat).cls, nA, 0, 0⟩) l b).cls = _
    rw [ih]; unfold updF; split
    · rename_i e; rw [e]
    · rfl
theorem backF_ok (cl : Nat → Nat) (M : Nat) (l : List Int) : ∀ (fr : Nat → List Int) (m : Nat), (∀ x ∈ l, 0 ≤ x ∧ x ≤ 1000000) → (∀ k, (fr k).Pairwise (· ≤ ·) ∧ (∀ x ∈ fr k, 0 ≤ x ∧ x ≤ 1000000) ∧ (fr k).length ≤ m) → ∀ k, (backF cl fr l k).Pairwise (· ≤ ·) ∧ (∀ x ∈ backF cl fr l k, 0 ≤ x ∧ x ≤ 1000000) ∧ (backF cl fr l k).length ≤ m + l.length := by
  induction l with
  | nil => intro fr m _ h k; exact h k
  | cons x l ih =>
    intro fr m hx h k
    have := ih (updF fr (cl x.toNat) (sins x (fr (cl x.toNat)))) (m + 1) (fun y hy => hx y (.tail _ hy)) (fun j => by
      unfold updF
      split
      · obtain ⟨h1, h2, h3⟩ := h (cl x.toNat)
        refine ⟨sins_sorted h1, fun y hy => ?_, by rw [sins_len]; omega⟩
        rcases sins_mem.1 hy with e | e
        · rw [e]; exact hx x (.head _)
        · exact h2 y e
      · obtain ⟨h1, h2, h3⟩ := h j
        exact ⟨h1, h2, by omega⟩) k
    obtain ⟨h1, h2, h3⟩ := this
    have h4 : (backF cl fr (x :: l) k).length ≤ m + 1 + l.length := h3
    exact ⟨h1, h2, by rw [List.length_cons]; omega⟩

section
variable (p cb nc cc bb nb bc ab na : Nat) (u : Nat → Option Nat) (id r : Nat) (hid : id < na) (hna : na ≤ 64) (hu : u id = some r) (sp sq : List Value) (C : Nat → Cls) (B : Nat → Buf) (q us : Int) (ta : Option Addr) (tc : Nat) (tk : List Int)
include hid hna hu
theorem closeG (hnb : nb ≤ 100000) (hnc : nc ≤ 100) (hl : tk.length ≤ 40000) (htk : ∀ x ∈ tk, 0 ≤ x ∧ x < nb ∧ (B x.toNat).cls < nc) (fr : Nat → List Int) (hfr : ∀ k, k < nc → (C k).fr = fr k) (hs : ∀ k, (fr k).Pairwise (· ≤ ·) ∧ (∀ x ∈ fr k, 0 ≤ x ∧ x ≤ 1000000) ∧ (fr k).length ≤ 50000) : Does Try.prog 15 [.pointer (some ⟨p, 0, none⟩), .int .i64 (id : Nat)] [HG p cb nc cc bb nb bc ab na, PtP ab na u, R2 r q us ta tk.length tc, I2 ta tc tk, CG cb nc sp C, BG bb nb sq B, S0 C nc]
    (RetE (fun C' : Nat → Cls => ∀ k, k < nc → (C' k).size = (C k).size ∧ (C' k).fr = backF (fun b => (B b).cls) fr tk k) (fun x => .tuple #[.int .i64 us, .int .i64 0]) (fun C' => [HG p cb nc cc bb nb bc ab na, PtP ab na (upd u id none), CG cb nc sp C', BG bb nb sq (backB B tk), S0 C' nc])) := by
  have ho := of_some p ab na id r (.slice (some ⟨cb, 0, none⟩) nc cc) (.slice (some ⟨bb, 0, none⟩) nb bc) u hid hna hu
  (focus
    refine Xg.spec_of Go.Proofs.Try.func15 rfl Go.Proofs.Try.ntmps15 fun g F => ?_)
  (focus
    refine Xg.at_seq ?_
    refine Xg.at_region ?_
    refine Xg.ops_op (by kernel_rfl) (Xg.opx_pure ((iv 0)) rfl (fun _ => by kernel_rfl) ?_)
    refine Xg.ops_op (by kernel_rfl) (Xg.opx_pure ((iv 0)) rfl (fun _ => by kernel_rfl) ?_)
    refine Xg.ops_nil ?_
    refine Xg.at_seq ?_
    refine Xg.at_region ?_
    refine Xg.ops_op (by kernel_rfl) (Xg.opx_pure ((pv p 0)) rfl (fun _ => by kernel_rfl) ?_)
    refine Xg.ops_op (by kernel_rfl) (Xg.opx_pure ((iv (↑id : Int))) rfl (fun _ => by kernel_rfl) ?_)
    refine Xg.ops_op (by kernel_rfl) (Xg.opx_call1' [0, 1] [HdP p ab na (Value.slice (some (Addr.mk cb (0 : Nat) none)) nc cc) (Value.slice (some (Addr.mk bb (0 : Nat) none)) nb bc), PtP ab na u, R2 r q us ta tk.length tc, I2 ta tc tk, CG cb nc sp C, BG bb nb sq B, S0 C nc] (fun _ => by kernel_rfl) (@ho ) (by kernel_rfl) (by kernel_rfl) (by kernel_rfl) ?_)
    refine Xg.ops_op (by kernel_rfl) (Xg.opx_pure ((pv r 0)) rfl (fun _ => by kernel_rfl) ?_)
    refine Xg.ops_nil ?_
    refine Xg.at_seq ?_
    refine Xg.at_seq ?_
    refine Xg.at_region ?_
    refine Xg.ops_op (by kernel_rfl) (Xg.opx_pure ((pv r 0)) rfl (fun _ => by kernel_rfl) ?_)
    refine Xg.ops_op (by kernel_rfl) (Xg.opx_pure ((Value.bool false)) rfl (fun _ => by kernel_rfl) ?_)
    refine Xg.ops_nil ?_
    refine Xg.at_false (t := false) (by kernel_rfl) rfl ?_
    refine Xg.at_skip ?_
    refine Xg.at_seq ?_
    refine Xg.at_seq ?_
    refine Xg.at_region ?_
    refine Xg.ops_op (by kernel_rfl) (Xg.opx_pure ((pv r 0)) rfl (fun _ => by kernel_rfl) ?_)
    refine Xg.ops_op (by kernel_rfl) (Xg.opx_pure ((pv r 0)) rfl (fun _ => by kernel_rfl) ?_)
    refine Xg.ops_op (by kernel_rfl) (Xg.opx_pure ((pv r 2)) rfl (fun _ => by kernel_rfl) ?_)
    refine Xg.ops_op (by kernel_rfl) (Xg.opx_load (b := r) (off := ((2 : Nat))) 2 (Value.slice ta tk.length tc) rfl (by kernel_rfl) (by kernel_rfl) (by kernel_rfl) ?_)
    refine Xg.ops_op (by kernel_rfl) (Xg.opx_pure ((iv (↑tk.length : Int))) rfl (fun _ => by kernel_rfl) ?_)
    refine Xg.ops_op (by kernel_rfl) (Xg.opx_pure ((iv 0)) rfl (fun _ => by kernel_rfl) ?_)
    refine Xg.ops_nil ?_
    refine Xg.at_block ?_)
  (focus
    refine Xg.at_rounds_inv (α := (Nat × (Nat → Cls)) × (Nat → Value)) (fun x => ((fun x => x.1 ≤ tk.length ∧ ∀ k, k < nc → (x.2 k).size = (C k).size ∧ (x.2 k).fr = backF (fun b => (B b).cls) fr (tk.take x.1) k) : (Nat × (Nat → Cls)) → Prop) x.1) (fun x => ((fun x => tk.length - x.1) : (Nat × (Nat → Cls)) → Nat) x.1) (fun x => Xg.headT [pv p 0, iv (↑id : Int), tu, tu, iv 0, iv 0, pv r 0, tu, tu, pv p 0, iv (↑id : Int), pv r 0, pv r 0, Value.bool false, pv r 0, pv r 0, pv r 2, Value.slice ta tk.length tc, iv (↑tk.length : Int), iv 0, tu, tu, tu, tu, tu, tu, tu, tu, tu, tu, tu, tu, tu, tu, tu, tu, tu] [8, 20, 21, 22, 23, 24, 25, 26] (((fun x => [(19, .int .i64 (x.1 : Nat))]) : (Nat × (Nat → Cls)) → List (Nat × Go.Value)) x.1) x.2) (fun x => ((fun x => [HG p cb nc cc bb nb bc ab na, PtP ab na u, R2 r q us ta tk.length tc, I2 ta tc tk, CG cb nc sp x.2, BG bb nb sq (backB B (tk.take x.1)), S0 x.2 nc]) : (Nat × (Nat → Cls)) → List Go.Sl.HP) x.1) (((0, C)), fun j9 => ([pv p 0, iv (↑id : Int), tu, tu, iv 0, iv 0, pv r 0, tu, tu, pv p 0, iv (↑id : Int), pv r 0, pv r 0, Value.bool false, pv r 0, pv r 0, pv r 2, Value.slice ta tk.length tc, iv (↑tk.length : Int), iv 0, tu, tu, tu, tu, tu, tu, tu, tu, tu, tu, tu, tu, tu, tu, tu, tu, tu] : List Value).getD j9 undef) (by kernel_rfl) (by kernel_rfl) ?_ ?_)
  · exact ⟨Nat.zero_le _, fun k hk => ⟨rfl, hfr k hk⟩⟩
  rintro ⟨⟨j, D⟩, J⟩ ⟨hj, hD⟩ ih
  dsimp only at hj hD
  (focus
    refine Xg.At.same (T' := [pv p 0, iv (↑id : Int), tu, tu, iv 0, iv 0, pv r 0, tu, J 8, pv p 0, iv (↑id : Int), pv r 0, pv r 0, Value.bool false, pv r 0, pv r 0, pv r 2, Value.slice ta tk.length tc, iv (↑tk.length : Int), iv (↑j : Int), J 20, J 21, J 22, J 23, J 24, J 25, J 26, tu, tu, tu, tu, tu, tu, tu, tu, tu, tu]) (L' := [HG p cb nc cc bb nb bc ab na, PtP ab na u, R2 r q us ta tk.length tc, I2 ta tc tk, CG cb nc sp ((j, D), J).fst.snd, BG bb nb sq (backB B (List.take ((j, D), J).fst.fst tk)), S0 ((j, D), J).fst.snd nc]) (by kernel_rfl) rfl ?_)
  by_cases hlt : j < tk.length
  · have hm : tk.getD j 0 ∈ tk := by rw [List.getD_eq_getElem?_getD, List.getElem?_eq_getElem hlt]; exact List.getElem_mem hlt
    obtain ⟨hx0, hx1, hx2⟩ := htk _ hm
    obtain ⟨b, hb⟩ : ∃ b : Nat, tk.getD j 0 = (b : Int) := ⟨(tk.getD j 0).toNat, by omega⟩
    rw [hb] at hx1 hx2
    rw [Int.toNat_natCast] at hx2
    have htl : (tk.take j).length ≤ j := by rw [List.length_take]; omega
    have hcl : (backB B (tk.take j) b).cls = (B b).cls := backB_cls _ _ _
    obtain ⟨hDs, hDf⟩ := hD _ hx2
    obtain ⟨o1, o2, o3⟩ := backF_ok (fun b => (B b).cls) 0 (tk.take j) fr 50000 (fun x hx => by
      obtain ⟨a1, a2, _⟩ := htk x (List.mem_of_mem_take hx)
      omega) hs (B b).cls
    have hbk := backA p cb nc cc bb nb bc ab na sp sq D (backB B (tk.take j)) b (B b).cls (by omega) hx2 hcl hnb hnc ⟨by rw [hDf]; exact o1, by rw [hDf]; exact o2, by rw [hDf]; omega⟩
    have hBn : updF (backB B (tk.take j)) b ⟨(backB B (tk.take j) b).cls, nA, 0, 0⟩ = backB B (tk.take (j + 1)) := by rw [take_one tk j hlt, backB_one, hb, Int.toNat_natCast]
    rw [hBn] at hbk
    (focus
      refine Xg.at_seq ?_
      refine Xg.at_region ?_
      refine Xg.ops_op (by kernel_rfl) (Xg.opx_pure (.bool (decide ((((↑j : Int)) : Int) < ((↑tk.length : Int))))) rfl (fun _ => by kernel_rfl) ?_)
      refine Xg.ops_nil ?_
      refine Xg.at_seq ?_
      refine Xg.at_true (t := decide (((↑j : Int) < (↑tk.length : Int)))) (by kernel_rfl) (decide_eq_true (by omega)) ?_
      refine Xg.at_skip ?_
      refine Xg.at_seq ?_
      refine Xg.at_block ?_
      refine Xg.at_seq ?_
      refine Xg.at_region ?_
      refine Xg.ops_op (by kernel_rfl) (Xg.opx_ix_own (elem := 3) (kd := .i64) (e := ((↑j : Int))) 3 1 j j rfl (by kernel_rfl) (by kernel_rfl) (by kernel_rfl) (by kernel_rfl) rfl (by omega) (by omega) ?_)
      refine Xg.ops_op (by kernel_rfl) (Xg.opx_load_own (a := ta) (off := j) 3 (iv (tk.getD j (0 : Int))) rfl (by kernel_rfl) (Xg.get_ints (by omega)) (by kernel_rfl) ?_)
      refine Xg.ops_op (by kernel_rfl) (Xg.opx_pure ((iv (tk.getD j (0 : Int)))) rfl (fun _ => by kernel_rfl) ?_)
      refine Xg.ops_nil ?_
      refine Xg.at_region ?_
      refine Xg.ops_op (by kernel_rfl) (Xg.opx_pure ((pv p 0)) rfl (fun _ => by kernel_rfl) ?_)
      refine Xg.ops_op (by kernel_rfl) (Xg.opx_pure ((iv (tk.getD j (0 : Int)))) rfl (fun _ => by kernel_rfl) ?_))
    rw [hb]
    (focus
      refine Xg.ops_op (by kernel_rfl) (Xg.opx_callE' [0, 4, 5, 6] (fun xx1 => [HG p cb nc cc bb nb bc ab na, CG cb nc sp (updF D (B b).cls (Cls.mk (D (B b).cls).size xx1.fst xx1.snd (sins (↑b : Int) (D (B b).cls).fr))), BG bb nb sq (backB B (List.take (j + (1 : Nat)) tk)), S0 (updF D (B b).cls (Cls.mk (D (B b).cls).size xx1.fst xx1.snd (sins (↑b : Int) (D (B b).cls).fr))) nc, PtP ab na u, R2 r q us ta tk.length tc, I2 ta tc tk]) (fun _ => by kernel_rfl) (@hbk ) (by kernel_rfl) (by kernel_rfl) (by kernel_rfl) fun xx1 xh1 => ?_)
      try dsimp only at xh1
      refine Xg.ops_nil ?_
      refine Xg.at_inBlock ?_
      refine Xg.at_region ?_
      refine Xg.ops_op (by kernel_rfl) (Xg.opx_int .i64 (IntKind.wrap .i64 (((↑j : Int) + (1 : Int)))) rfl (fun _ => by kernel_rfl) (Xg.wrap_i64_in (by omega)) ?_)
      refine Xg.ops_op (by kernel_rfl) (Xg.opx_pure ((iv ((↑j : Int) + (1 : Int)))) rfl (fun _ => by kernel_rfl) ?_)
      refine Xg.ops_nil ?_
      refine Xg.at_inLoop ?_)
    (focus
      refine Xg.at_keep [0, 4, 5, 6, 1, 2, 3] (by kernel_rfl) ?_
      refine Xs.same ?_ (fun J9 => ih (((j + 1, updF D (B b).cls ⟨(D (B b).cls).size, xx1.1, xx1.2, sins b (D (B b).cls).fr⟩)), J9) ?_ ?_) (by kernel_rfl))
    · rfl
    · refine ⟨by dsimp only; omega, fun k hk => ?_⟩
      dsimp only
      rw [take_one tk j hlt, backF_one, hb, Int.toNat_natCast]
      unfold updF
      by_cases e : k = (B b).cls
      · subst e
        rw [if_pos rfl, if_pos rfl, hDf]
        exact ⟨hDs, rfl⟩
      · rw [if_neg e, if_neg e]
        exact hD k hk
    · dsimp only; omega
  · obtain rfl : j = tk.length := by omega
    rw [List.take_length] at hD ⊢
    clear ih
    have hsn := s_none na u id hid
    (focus
      refine Xg.at_seq ?_
      refine Xg.at_region ?_
      refine Xg.ops_op (by kernel_rfl) (Xg.opx_pure (.bool (decide ((((↑tk.length : Int)) : Int) < ((↑tk.length : Int))))) rfl (fun _ => by kernel_rfl) ?_)
      refine Xg.ops_nil ?_
      refine Xg.at_seq ?_
      refine Xg.at_false (t := decide (((↑tk.length : Int) < (↑tk.length : Int)))) (by kernel_rfl) (decide_eq_false (by omega)) ?_
      refine Xg.at_exit rfl ?_
      refine Xg.at_seq ?_
      refine Xg.at_region ?_
      refine Xg.ops_op (by kernel_rfl) (Xg.opx_pure ((pv p 0)) rfl (fun _ => by kernel_rfl) ?_)
      refine Xg.ops_op (by kernel_rfl) (Xg.opx_pure ((pv p 0)) rfl (fun _ => by kernel_rfl) ?_)
      refine Xg.ops_op (by kernel_rfl) (Xg.opx_pure ((pv p 2)) rfl (fun _ => by kernel_rfl) ?_)
      refine Xg.ops_op (by kernel_rfl) (Xg.opx_load (b := p) (off := ((2 : Nat))) 0 (Value.slice (some (Addr.mk ab (0 : Nat) none)) na na) rfl (by kernel_rfl) (by kernel_rfl) (by kernel_rfl) ?_)
      refine Xg.ops_op (by kernel_rfl) (Xg.opx_pure ((iv (↑id : Int))) rfl (fun _ => by kernel_rfl) ?_)
      refine Xg.ops_op (by kernel_rfl) (Xg.opx_run (.pointer (some (Addr.mk ab id none))) rfl (Xg.run_ix_slice' (elem := 102) (b := ab) (off := ((0 : Nat))) (len := na) (cap := na) (kd := .i64) (e := ((↑id : Int))) 1 id id (by kernel_rfl) (by kernel_rfl) (by kernel_rfl) (by kernel_rfl) rfl (by omega) (by omega)) ?_)
      refine Xg.ops_op (by kernel_rfl) (Xg.opx_store_c (off := id) (cs' := (pcs na (upd u id none))) 1 (Value.pointer none) (by kernel_rfl) rfl (by kernel_rfl) (by kernel_rfl) (by kernel_rfl) (@hsn ) ?_)
      refine Xg.ops_nil ?_
      refine Xg.at_seq ?_
      refine Xg.at_region ?_
      refine Xg.ops_op (by kernel_rfl) (Xg.opx_pure ((pv r 0)) rfl (fun _ => by kernel_rfl) ?_)
      refine Xg.ops_op (by kernel_rfl) (Xg.opx_pure ((pv r 0)) rfl (fun _ => by kernel_rfl) ?_)
      refine Xg.ops_op (by kernel_rfl) (Xg.opx_pure ((pv r 1)) rfl (fun _ => by kernel_rfl) ?_)
      refine Xg.ops_op (by kernel_rfl) (Xg.opx_load (b := r) (off := ((1 : Nat))) 2 (iv us) rfl (by kernel_rfl) (by kernel_rfl) (by kernel_rfl) ?_)
      refine Xg.ops_op (by kernel_rfl) (Xg.opx_pure ((iv us)) rfl (fun _ => by kernel_rfl) ?_)
      refine Xg.ops_op (by kernel_rfl) (Xg.opx_pure ((iv 0)) rfl (fun _ => by kernel_rfl) ?_)
      refine Xg.ops_nil ?_
      refine Xg.at_ret_ps (v := (Value.tuple #[iv us, iv 0])) [0, 1, 4, 5, 6] [HG p cb nc cc bb nb bc ab na, row ab (102 : TypeId) (pcs na (upd u id none)), CG cb nc sp D, BG bb nb sq (backB B tk), S0 D nc] Go.Proofs.Try.func15 (fun _ => by kernel_rfl) (by kernel_rfl) (by kernel_rfl) ?_
      refine ⟨D, ?_, by kernel_rfl, by kernel_rfl⟩)
    exact hD
end

def closeσ (σ : Po) (id : Nat) (r : Ar) : Po := { σ with fr := backF σ.cl σ.fr r.tk, bs := backS σ.bs r.tk, ar := updF σ.ar id none }
theorem s1_back_all {n : Nat} (l : List Int) : ∀ {g w : World} {L : List HP} {bs : Nat → Option (List Int)} {B : Nat → Buf}, (∀ x ∈ l, 0 ≤ x ∧ x < n) → SL g (S1 bs B n :: L) w → SL g (S1 (backS bs l) (backB B l) n :: L) w := by
  induction l with
  | nil => intro g w L bs B _ h; exact h
  | cons x l ih =>
    intro g w L bs B hx h
    obtain ⟨h0, h1⟩ := hx x (.head _)
    refine ih (fun y hy => hx y (.tail _ hy)) ?_
    have hk : x.toNat < n := by omega
    refine s1_putN ⟨(B x.toNat).cls, nA, 0, 0⟩ hk ?_
    cases e : bs x.toNat with
    | none => exact s1_none hk e h
    | some m => exact (s1_take hk e h).tail
theorem backS_some (l : List Int) : ∀ (bs : Nat → Option (List Int)) (B : Nat → Buf) (b : Nat) (m : List Int), backS bs l b = some m → bs b = some m ∧ backB B l b = B b := by
  induction l with
  | nil => intro bs B b m h; exact ⟨h, rfl⟩
  | cons x l ih =>
    intro bs B b m h
    obtain ⟨h1, h2⟩ := ih (updF bs x.toNat none) (updF B x.toNat ⟨(B x.toNat).cls, nA, 0, 0⟩) b m h
    unfold updF at h1
    split at h1
    · cases h1
    · rename_i e
      refine ⟨h1, h2.trans ?_⟩
      unfold updF; rw [if_neg e]
theorem backF_cl (cl cl' : Nat → Nat) (l : List Int) : ∀ (fr : Nat → List Int), (∀ x ∈ l, cl x.toNat = cl' x.toNat) → backF cl fr l = backF cl' fr l := by
  induction l with
  | nil => intro fr _; rfl
  | cons x l ih =>
    intro fr h
    show backF cl (updF fr (cl x.toNat) (sins x (fr (cl x.toNat)))) l = backF cl' (updF fr (cl' x.toNat) (sins x (fr (cl' x.toNat)))) l
    rw [h x (.head _)]
    exact ih _ fun y hy => h y (.tail _ hy)
theorem closeS (p : Nat) (σ : Po) (hna : σ.na ≤ 64) (hnb : σ.nb ≤ 100000) (hnc : σ.nc ≤ 100) (id : Nat) (hid : id < σ.na) (r : Ar) (hr : σ.ar id = some r) (hl : r.tk.length ≤ 40000) (htk : ∀ x ∈ r.tk, 0 ≤ x ∧ x < σ.nb ∧ σ.cl x.toNat < σ.nc) (hs : ∀ k, (σ.fr k).Pairwise (· ≤ ·) ∧ (∀ x ∈ σ.fr k, 0 ≤ x ∧ x ≤ 1000000) ∧ (σ.fr k).length ≤ 50000) :
    Does Try.prog 15 [.pointer (some ⟨p, 0, none⟩), .int .i64 (id : Nat)] [PoolS p σ] (Ret (.tuple #[.int .i64 r.us, .int .i64 0]) [PoolS p (closeσ σ id r)]) := by
  refine e_ret (does_pool (X := []) fun a => ?_)
  obtain ⟨c, hc, ho⟩ := open_ar (p := p) hid hr a
  have hB : ∀ x ∈ r.tk, (a.B x.toNat).cls = σ.cl x.toNat := fun x hx => a.hB _ (by have := htk x hx; omega)
  refine ⟨_, [S1 σ.bs a.B σ.nb, H2x σ.ar a.u a.T σ.na id], _, _, _, _, closeG p a.cb σ.nc a.cc a.bb σ.nb a.bc a.ab σ.na a.u id c hid hna hc a.sp a.sq a.C a.B r.q r.us (a.T id).1 (a.T id).2 r.tk hnb hnc hl (fun x hx => by rw [hB x hx]; exact htk x hx) σ.fr (fun k hk => (a.hC k hk).2) hs, fun g w F hS => ho g w F hS, fun C' hC' g w F hS => ⟨(), trivial, rfl, ?_⟩⟩
  have h1 := s1_back_all r.tk (fun x hx => ⟨(htk x hx).1, (htk x hx).2.1⟩) (sl_ord [5, 0, 1, 2, 3, 4, 6] 7 rfl hS)
  have h2 := s2_putN (a.T id) hid (sl_ord [6, 0, 1, 2, 3, 4, 5] 7 rfl h1)
  refine pools_shut (σ := closeσ σ id r) (PAd.mk a.cb a.cc a.bb a.bc a.ab a.sp a.sq C' (backB a.B r.tk) (updF a.u id none) (updF a.T id (a.T id)) (fun k hk => ?_) (fun b hb => ?_) (fun b m hb hm => ?_) fun i hi => ?_) (sl_ord [2, 4, 5, 3, 6, 1, 0] 7 rfl h2)
  · obtain ⟨e1, e2⟩ := hC' k hk
    exact ⟨e1.trans (a.hC k hk).1, e2.trans (congrFun (backF_cl _ _ r.tk σ.fr hB) k)⟩
  · rw [backB_cls]; exact a.hB b hb
  · obtain ⟨e1, e2⟩ := backS_some r.tk σ.bs a.B b m hm
    rw [e2]; exact a.hb b m hb e1
  · unfold closeσ updF
    dsimp only
    split
    · rfl
    · exact a.hu i hi
end Go.Proofs.Ytmplimmcjdkhlaa

/- The arena package, any Pool: Leases. -/
namespace Go.Proofs.Ytmplimmcjdkhlaa
open Go.Sl Go.Xg
set_option linter.unusedVariables false
set_option linter.unusedSimpArgs false
set_option linter.unnecessarySimpa false
set_option maxHeartbeats 4000000
set_option maxRecDepth 100000


section
variable {P : Program} {g : World} {F : List HP} {T : List Value} {L : List HP} {K : List Value → List HP → Prop}
end

abbrev leK (x : Int × Int × Int) : List Value := [.int .i64 x.1, .int .i64 x.2.1, .int .i64 x.2.2]
noncomputable abbrev leR (n : Nat) (f : Nat → Int × Int × Int) : List Value := rowF leK n [] f
section
variable (p cb nc cc bb nb bc ab na : Nat) (u : Nat → Option Nat) (id r : Nat) (hid : id < na) (hna : na ≤ 64) (hu : u id = some r) (sp sq : List Value) (C : Nat → Cls) (B : Nat → Buf) (q us : Int) (ta : Option Addr) (tc : Nat) (tk : List Int)
include hid hna hu
/-- What is told of a buffer. -/
def leOf (cl : Nat → Nat) (size : Nat → Int) (b : Int) : Int × Int × Int := (b, (cl b.toNat : Int), size (cl b.toNat))
end

/-- What is told of an arena's buffers. -/
def lesOf (σ : Po) (tk : List Int) : List (Int × Int × Int) := tk.map (leOf σ.cl fun k => (σ.size k : Int))
end Go.Proofs.Ytmplimmcjdkhlaa

/- The arena package: New, any classes. -/
namespace Go.Proofs.Ytmplimmcjdkhlaa
open Go.Sl Go.Xg
set_option linter.unusedVariables false
set_option linter.unusedSimpArgs false
set_option linter.unnecessarySimpa false
set_option maxHeartbeats 4000000
set_option maxRecDepth 100000

abbrev kC (x : Int × Int) : List Value := [.int .i64 x.1, .int .i64 x.2]
def totK : List (Int × Int) → Int
  | [] => 0
  | x :: l => x.1 * x.2 + totK l
theorem totK_one (l : List (Int × Int)) (x : Int × Int) : totK (l ++ [x]) = totK l + x.1 * x.2 := by
  induction l with
  | nil => simp [totK]
  | cons y l ih => simp only [List.cons_append, totK, ih]; omega
def prevK (ks : List (Int × Int)) (i : Nat) : Int := if i = 0 then 0 else (ks.getD (i - 1) default).1
def Kok (ks : List (Int × Int)) : Prop := 1 ≤ ks.length ∧ ks.length ≤ 8 ∧ (∀ i, i < ks.length → prevK ks i < (ks.getD i default).1 ∧ (ks.getD i default).1 ≤ 65536 ∧ 0 ≤ (ks.getD i default).2 ∧ (ks.getD i default).2 ≤ 512) ∧ totK ks ≤ 16777216
theorem take_one' {α : Type} (d : α) (l : List α) (j : Nat) (h : j < l.length) : l.take (j + 1) = l.take j ++ [l.getD j d] := by
  rw [List.take_add_one, List.getElem?_eq_getElem h, List.getD_eq_getElem?_getD, List.getElem?_eq_getElem h]; rfl
theorem prevK_nn {ks : List (Int × Int)} (h : Kok ks) : ∀ i, i ≤ ks.length → 0 ≤ prevK ks i
  | 0, _ => by unfold prevK; simp
  | i + 1, hi => by
    have h1 := prevK_nn h i (by omega)
    have h2 := (h.2.2.1 i (by omega)).1
    have e : prevK ks (i + 1) = (ks.getD i default).1 := by unfold prevK; rw [if_neg (by omega), Nat.add_sub_cancel]
    omega
theorem totK_bd {ks : List (Int × Int)} (h : Kok ks) : ∀ i, i ≤ ks.length → 0 ≤ totK (ks.take i) ∧ totK (ks.take i) ≤ 33554432 * i
  | 0, _ => by simp [totK]
  | i + 1, hi => by
    obtain ⟨h1, h2⟩ := totK_bd h i (by omega)
    obtain ⟨h3, h4, h5, h6⟩ := h.2.2.1 i (by omega)
    have h7 := prevK_nn h i (by omega)
    rw [take_one' default ks i (by omega), totK_one]
    have h8 : 0 ≤ (ks.getD i default).1 * (ks.getD i default).2 := Int.mul_nonneg (by omega) h5
    have h9 : (ks.getD i default).1 * (ks.getD i default).2 ≤ 65536 * 512 := Int.mul_le_mul h4 h6 h5 (by omega)
    omega

theorem mayG (A : HP) (a : Option Addr) (c : Nat) (ks : List (Int × Int)) (hR : Reads A 2 (.slice a ks.length c) ks.length (recs kC ks)) (hk : Kok ks) (n : Nat) (h1 : 1 ≤ n) (h64 : n ≤ 64) : Does Try.prog 33 [.agg #[.slice a ks.length c, .int .i64 (n : Nat)]] [A] (Ret (.bool true) [A]) := by
  obtain ⟨k1, k2, k3, k4⟩ := id hk
  (focus
    refine Xg.spec_of Go.Proofs.Try.func33 rfl Go.Proofs.Try.ntmps33 fun g F => ?_)
  (focus
    refine Xg.at_seq ?_
    refine Xg.at_region ?_
    refine Xg.ops_op (by kernel_rfl) (Xg.opx_box (v := (Value.agg #[Value.slice a ks.length c, iv (↑n : Int)])) [Value.slice a ks.length c, iv (↑n : Int)] (by kernel_rfl) (by kernel_rfl) fun xb1 => ?_)
    refine Xg.ops_op (by kernel_rfl) (Xg.opx_pure ((Value.bool false)) rfl (fun _ => by kernel_rfl) ?_)
    refine Xg.ops_nil ?_
    refine Xg.at_seq ?_
    refine Xg.at_seq ?_
    refine Xg.at_region ?_
    refine Xg.ops_op (by kernel_rfl) (Xg.opx_pure ((pv xb1 0)) rfl (fun _ => by kernel_rfl) ?_)
    refine Xg.ops_op (by kernel_rfl) (Xg.opx_load (b := xb1) (off := ((0 : Nat))) 0 (Value.slice a ks.length c) rfl (by kernel_rfl) (by kernel_rfl) (by kernel_rfl) ?_)
    refine Xg.ops_op (by kernel_rfl) (Xg.opx_pure ((iv (↑ks.length : Int))) rfl (fun _ => by kernel_rfl) ?_)
    refine Xg.ops_op (by kernel_rfl) (Xg.opx_pure (.bool (decide ((((↑ks.length : Int)) : Int) < ((1 : Int))))) rfl (fun _ => by kernel_rfl) ?_)
    refine Xg.ops_op (by kernel_rfl) (Xg.opx_pure ((Value.bool (decide ((↑ks.length : Int) < (1 : Int))))) rfl (fun _ => by kernel_rfl) ?_)
    refine Xg.ops_flag (j := 11) (c := (decide ((↑ks.length : Int) < (1 : Int)))) (by kernel_rfl) (fun xh1 => absurd (of_decide_eq_true xh1) (by omega)) (fun _ => ?_)
    refine Xg.ops_op (by kernel_rfl) (Xg.opx_pure ((pv xb1 0)) rfl (fun _ => by kernel_rfl) ?_)
    refine Xg.ops_op (by kernel_rfl) (Xg.opx_load (b := xb1) (off := ((0 : Nat))) 0 (Value.slice a ks.length c) rfl (by kernel_rfl) (by kernel_rfl) (by kernel_rfl) ?_)
    refine Xg.ops_op (by kernel_rfl) (Xg.opx_pure ((iv (↑ks.length : Int))) rfl (fun _ => by kernel_rfl) ?_)
    refine Xg.ops_op (by kernel_rfl) (Xg.opx_pure (.bool (decide ((((↑ks.length : Int)) : Int) > ((8 : Int))))) rfl (fun _ => by kernel_rfl) ?_)
    refine Xg.ops_flag (j := 15) (c := (decide ((↑ks.length : Int) > (8 : Int)))) (by kernel_rfl) (fun xh1 => absurd (of_decide_eq_true xh1) (by omega)) (fun _ => ?_)
    refine Xg.ops_op (by kernel_rfl) (Xg.opx_pure ((Value.bool false)) rfl (fun _ => by kernel_rfl) ?_)
    refine Xg.ops_op (by kernel_rfl) (Xg.opx_pure ((Value.bool false)) rfl (fun _ => by kernel_rfl) ?_)
    refine Xg.ops_op (by kernel_rfl) (Xg.opx_pure ((pv xb1 1)) rfl (fun _ => by kernel_rfl) ?_)
    refine Xg.ops_op (by kernel_rfl) (Xg.opx_load (b := xb1) (off := ((1 : Nat))) 0 (iv (↑n : Int)) rfl (by kernel_rfl) (by kernel_rfl) (by kernel_rfl) ?_)
    refine Xg.ops_op (by kernel_rfl) (Xg.opx_pure (.bool (decide ((((↑n : Int)) : Int) < ((1 : Int))))) rfl (fun _ => by kernel_rfl) ?_)
    refine Xg.ops_flag (j := 20) (c := (decide ((↑n : Int) < (1 : Int)))) (by kernel_rfl) (fun xh1 => absurd (of_decide_eq_true xh1) (by omega)) (fun _ => ?_)
    refine Xg.ops_op (by kernel_rfl) (Xg.opx_pure ((Value.bool false)) rfl (fun _ => by kernel_rfl) ?_)
    refine Xg.ops_op (by kernel_rfl) (Xg.opx_pure ((Value.bool false)) rfl (fun _ => by kernel_rfl) ?_)
    refine Xg.ops_op (by kernel_rfl) (Xg.opx_pure ((pv xb1 1)) rfl (fun _ => by kernel_rfl) ?_)
    refine Xg.ops_op (by kernel_rfl) (Xg.opx_load (b := xb1) (off := ((1 : Nat))) 0 (iv (↑n : Int)) rfl (by kernel_rfl) (by kernel_rfl) (by kernel_rfl) ?_)
    refine Xg.ops_op (by kernel_rfl) (Xg.opx_pure (.bool (decide ((((↑n : Int)) : Int) > ((64 : Int))))) rfl (fun _ => by kernel_rfl) ?_)
    refine Xg.ops_flag (j := 25) (c := (decide ((↑n : Int) > (64 : Int)))) (by kernel_rfl) (fun xh1 => absurd (of_decide_eq_true xh1) (by omega)) (fun _ => ?_)
    refine Xg.ops_op (by kernel_rfl) (Xg.opx_pure ((Value.bool false)) rfl (fun _ => by kernel_rfl) ?_)
    refine Xg.ops_nil ?_
    refine Xg.at_false (t := false) (by kernel_rfl) rfl ?_
    refine Xg.at_skip ?_
    refine Xg.at_seq ?_
    refine Xg.at_region ?_
    refine Xg.ops_op (by kernel_rfl) (Xg.opx_pure ((iv 0)) rfl (fun _ => by kernel_rfl) ?_)
    refine Xg.ops_op (by kernel_rfl) (Xg.opx_pure ((iv 0)) rfl (fun _ => by kernel_rfl) ?_)
    refine Xg.ops_nil ?_
    refine Xg.at_seq ?_
    refine Xg.at_seq ?_
    refine Xg.at_region ?_
    refine Xg.ops_op (by kernel_rfl) (Xg.opx_pure ((pv xb1 0)) rfl (fun _ => by kernel_rfl) ?_)
    refine Xg.ops_op (by kernel_rfl) (Xg.opx_load (b := xb1) (off := ((0 : Nat))) 0 (Value.slice a ks.length c) rfl (by kernel_rfl) (by kernel_rfl) (by kernel_rfl) ?_)
    refine Xg.ops_op (by kernel_rfl) (Xg.opx_pure ((iv (↑ks.length : Int))) rfl (fun _ => by kernel_rfl) ?_)
    refine Xg.ops_op (by kernel_rfl) (Xg.opx_pure ((iv 0)) rfl (fun _ => by kernel_rfl) ?_)
    refine Xg.ops_nil ?_
    refine Xg.at_block ?_)
  (focus
    refine Xg.at_rounds_inv (α := (Nat × Int × Int) × (Nat → Value)) (fun x => ((fun x => x.1 ≤ ks.length ∧ x.2.1 = prevK ks x.1 ∧ x.2.2 = totK (ks.take x.1)) : (Nat × Int × Int) → Prop) x.1) (fun x => ((fun x => ks.length - x.1) : (Nat × Int × Int) → Nat) x.1) (fun x => Xg.headT [Value.agg #[Value.slice a ks.length c, iv (↑n : Int)], pv xb1 0, Value.bool false, iv 0, iv 0, tu, tu, pv xb1 0, Value.slice a ks.length c, iv (↑ks.length : Int), Value.bool (decide ((↑ks.length : Int) < (1 : Int))), Value.bool false, pv xb1 0, Value.slice a ks.length c, iv (↑ks.length : Int), Value.bool false, Value.bool false, Value.bool false, pv xb1 1, iv (↑n : Int), Value.bool false, Value.bool false, Value.bool false, pv xb1 1, iv (↑n : Int), Value.bool false, Value.bool false, pv xb1 0, Value.slice a ks.length c, iv (↑ks.length : Int), iv 0, tu, tu, tu, tu, tu, tu, tu, tu, tu, tu, tu, tu, tu, tu, tu, tu, tu, tu, tu, tu, tu, tu, tu, tu, tu, tu, tu, tu, tu, tu, tu, tu, tu, tu] [2, 6, 31, 32, 33, 34, 35, 36, 37, 38, 39, 40, 41, 42, 43, 44, 45, 46, 47, 48, 49, 50, 51, 52, 53, 54, 55, 56, 57, 58, 59, 60, 61, 62] (((fun x => [(3, .int .i64 x.2.1), (4, .int .i64 x.2.2), (30, .int .i64 (x.1 : Nat))]) : (Nat × Int × Int) → List (Nat × Go.Value)) x.1) x.2) (fun x => ((fun x => [row xb1 35 [.slice a ks.length c, .int .i64 (n : Nat)], A]) : (Nat × Int × Int) → List Go.Sl.HP) x.1) (((0, 0, 0)), fun j9 => ([Value.agg #[Value.slice a ks.length c, iv (↑n : Int)], pv xb1 0, Value.bool false, iv 0, iv 0, tu, tu, pv xb1 0, Value.slice a ks.length c, iv (↑ks.length : Int), Value.bool (decide ((↑ks.length : Int) < (1 : Int))), Value.bool false, pv xb1 0, Value.slice a ks.length c, iv (↑ks.length : Int), Value.bool false, Value.bool false, Value.bool false, pv xb1 1, iv (↑n : Int), Value.bool false, Value.bool false, Value.bool false, pv xb1 1, iv (↑n : Int), Value.bool false, Value.bool false, pv xb1 0, Value.slice a ks.length c, iv (↑ks.length : Int), iv 0, tu, tu, tu, tu, tu, tu, tu, tu, tu, tu, tu, tu, tu, tu, tu, tu, tu, tu, tu, tu, tu, tu, tu, tu, tu, tu, tu, tu, tu, tu, tu, tu, tu, tu] : List Value).getD j9 undef) (by kernel_rfl) (by kernel_rfl) ?_ ?_)
  · exact ⟨Nat.zero_le _, rfl, rfl⟩
  rintro ⟨⟨i, la, to⟩, J⟩ hi ih
  obtain ⟨hi, hla, hto⟩ := hi
  dsimp only at hi hla hto
  (focus
    refine Xg.At.same (T' := [Value.agg #[Value.slice a ks.length c, iv (↑n : Int)], pv xb1 0, J 2, iv la, iv to, tu, J 6, pv xb1 0, Value.slice a ks.length c, iv (↑ks.length : Int), Value.bool (decide ((↑ks.length : Int) < (1 : Int))), Value.bool false, pv xb1 0, Value.slice a ks.length c, iv (↑ks.length : Int), Value.bool false, Value.bool false, Value.bool false, pv xb1 1, iv (↑n : Int), Value.bool false, Value.bool false, Value.bool false, pv xb1 1, iv (↑n : Int), Value.bool false, Value.bool false, pv xb1 0, Value.slice a ks.length c, iv (↑ks.length : Int), iv (↑i : Int), J 31, J 32, J 33, J 34, J 35, J 36, J 37, J 38, J 39, J 40, J 41, J 42, J 43, J 44, J 45, J 46, J 47, J 48, J 49, J 50, J 51, J 52, J 53, J 54, J 55, J 56, J 57, J 58, J 59, J 60, J 61, J 62, tu, tu]) (L' := [row xb1 (35 : TypeId) [Value.slice a ks.length c, iv (↑n : Int)], A]) (by kernel_rfl) rfl ?_)
  by_cases hlt : i < ks.length
  · obtain ⟨g1, g2, g3, g4⟩ := k3 i hlt
    have g5 := totK_bd hk i (by omega)
    have g6 := totK_bd hk (i + 1) hlt
    have g7 := prevK_nn hk i (by omega)
    have e1 : prevK ks (i + 1) = (ks.getD i default).1 := by unfold prevK; rw [if_neg (by omega), Nat.add_sub_cancel]
    have e2 : totK (ks.take (i + 1)) = totK (ks.take i) + (ks.getD i default).1 * (ks.getD i default).2 := by rw [take_one' default ks i hlt, totK_one]
    rw [e2, ← hto] at g6
    rw [← hto] at g5 e2
    rw [← hla] at g1 g7
    have g8 : 0 ≤ (ks.getD i default).1 * (ks.getD i default).2 ∧ (ks.getD i default).1 * (ks.getD i default).2 ≤ 33554432 := ⟨Int.mul_nonneg (by omega) g3, Int.le_trans (Int.mul_le_mul g2 g4 g3 (by omega)) (by decide)⟩
    (focus
      refine Xg.at_seq ?_
      refine Xg.at_region ?_
      refine Xg.ops_op (by kernel_rfl) (Xg.opx_pure (.bool (decide ((((↑i : Int)) : Int) < ((↑ks.length : Int))))) rfl (fun _ => by kernel_rfl) ?_)
      refine Xg.ops_nil ?_
      refine Xg.at_seq ?_
      refine Xg.at_true (t := decide (((↑i : Int) < (↑ks.length : Int)))) (by kernel_rfl) (decide_eq_true (by omega)) ?_
      refine Xg.at_skip ?_
      refine Xg.at_seq ?_
      refine Xg.at_block ?_
      refine Xg.at_seq ?_
      refine Xg.at_region ?_
      refine Xg.ops_op (by kernel_rfl) (Xg.opx_rd 1 (.pointer (some (Addr.mk (Xg.blk a) (offA a + i * (2 : Nat)) none))) rfl hR (by kernel_rfl) (Xg.run_ix_rd (elem := 32) (kd := .i64) (e := ((↑i : Int))) 2 i (offA a + i * (2 : Nat)) (by kernel_rfl) (by kernel_rfl) (by kernel_rfl) (by kernel_rfl) rfl (by omega) (by rw [Xg.recs_len (wd := 2) (fun _ => rfl)]; omega) (by omega)) ?_)
      refine Xg.ops_op (by kernel_rfl) (Xg.opx_rd 1 (.agg (List.toArray [iv (ks.getD i default).fst, iv (ks.getD i default).snd])) rfl hR (by kernel_rfl) (Xg.run_loadn_rd (off0 := (offA a + i * (2 : Nat))) 2 (i * (2 : Nat)) [iv (ks.getD i default).fst, iv (ks.getD i default).snd] (by kernel_rfl) (by kernel_rfl) (by omega) rfl (Xg.recs_at' (wd := 2) (fun _ => rfl) default i (by omega) (by omega) (by kernel_rfl)) (by kernel_rfl)) ?_)
      refine Xg.ops_op (by kernel_rfl) (Xg.opx_new 2 [iv 0, iv 0] (by kernel_rfl) (by kernel_rfl) fun xb2 => ?_)
      refine Xg.ops_op (by kernel_rfl) (Xg.opx_storen 2 (off := 0) 0 [iv (ks.getD i default).fst, iv (ks.getD i default).snd] (by kernel_rfl) rfl (by kernel_rfl) (by kernel_rfl) rfl (by kernel_rfl) (Nat.le_of_ble_eq_true (by kernel_rfl)) ?_)
      refine Xg.ops_nil ?_
      refine Xg.at_seq ?_
      refine Xg.at_seq ?_
      refine Xg.at_region ?_
      refine Xg.ops_op (by kernel_rfl) (Xg.opx_pure ((pv xb2 0)) rfl (fun _ => by kernel_rfl) ?_)
      refine Xg.ops_op (by kernel_rfl) (Xg.opx_load (b := xb2) (off := ((0 : Nat))) 0 (iv (ks.getD i default).fst) rfl (by kernel_rfl) (by kernel_rfl) (by kernel_rfl) ?_)
      refine Xg.ops_op (by kernel_rfl) (Xg.opx_pure ((iv la)) rfl (fun _ => by kernel_rfl) ?_)
      refine Xg.ops_op (by kernel_rfl) (Xg.opx_pure (.bool (decide ((((ks.getD i default).fst) : Int) ≤ la))) rfl (fun _ => by kernel_rfl) ?_)
      refine Xg.ops_op (by kernel_rfl) (Xg.opx_pure ((Value.bool (decide ((ks.getD i default).fst ≤ la)))) rfl (fun _ => by kernel_rfl) ?_)
      refine Xg.ops_flag (j := 38) (c := (decide ((ks.getD i default).fst ≤ la))) (by kernel_rfl) (fun xh1 => absurd (of_decide_eq_true xh1) (by omega)) (fun _ => ?_)
      refine Xg.ops_op (by kernel_rfl) (Xg.opx_pure ((pv xb2 0)) rfl (fun _ => by kernel_rfl) ?_)
      refine Xg.ops_op (by kernel_rfl) (Xg.opx_load (b := xb2) (off := ((0 : Nat))) 0 (iv (ks.getD i default).fst) rfl (by kernel_rfl) (by kernel_rfl) (by kernel_rfl) ?_)
      refine Xg.ops_op (by kernel_rfl) (Xg.opx_pure (.bool (decide ((((ks.getD i default).fst) : Int) > ((65536 : Int))))) rfl (fun _ => by kernel_rfl) ?_)
      refine Xg.ops_flag (j := 41) (c := (decide ((ks.getD i default).fst > (65536 : Int)))) (by kernel_rfl) (fun xh1 => absurd (of_decide_eq_true xh1) (by omega)) (fun _ => ?_)
      refine Xg.ops_op (by kernel_rfl) (Xg.opx_pure ((Value.bool false)) rfl (fun _ => by kernel_rfl) ?_)
      refine Xg.ops_op (by kernel_rfl) (Xg.opx_pure ((Value.bool false)) rfl (fun _ => by kernel_rfl) ?_)
      refine Xg.ops_op (by kernel_rfl) (Xg.opx_pure ((pv xb2 1)) rfl (fun _ => by kernel_rfl) ?_)
      refine Xg.ops_op (by kernel_rfl) (Xg.opx_load (b := xb2) (off := ((1 : Nat))) 0 (iv (ks.getD i default).snd) rfl (by kernel_rfl) (by kernel_rfl) (by kernel_rfl) ?_)
      refine Xg.ops_op (by kernel_rfl) (Xg.opx_pure (.bool (decide ((((ks.getD i default).snd) : Int) < ((0 : Int))))) rfl (fun _ => by kernel_rfl) ?_)
      refine Xg.ops_flag (j := 46) (c := (decide ((ks.getD i default).snd < (0 : Int)))) (by kernel_rfl) (fun xh1 => absurd (of_decide_eq_true xh1) (by omega)) (fun _ => ?_)
      refine Xg.ops_op (by kernel_rfl) (Xg.opx_pure ((Value.bool false)) rfl (fun _ => by kernel_rfl) ?_)
      refine Xg.ops_op (by kernel_rfl) (Xg.opx_pure ((Value.bool false)) rfl (fun _ => by kernel_rfl) ?_)
      refine Xg.ops_op (by kernel_rfl) (Xg.opx_pure ((pv xb2 1)) rfl (fun _ => by kernel_rfl) ?_)
      refine Xg.ops_op (by kernel_rfl) (Xg.opx_load (b := xb2) (off := ((1 : Nat))) 0 (iv (ks.getD i default).snd) rfl (by kernel_rfl) (by kernel_rfl) (by kernel_rfl) ?_)
      refine Xg.ops_op (by kernel_rfl) (Xg.opx_pure (.bool (decide ((((ks.getD i default).snd) : Int) > ((512 : Int))))) rfl (fun _ => by kernel_rfl) ?_)
      refine Xg.ops_flag (j := 51) (c := (decide ((ks.getD i default).snd > (512 : Int)))) (by kernel_rfl) (fun xh1 => absurd (of_decide_eq_true xh1) (by omega)) (fun _ => ?_)
      refine Xg.ops_op (by kernel_rfl) (Xg.opx_pure ((Value.bool false)) rfl (fun _ => by kernel_rfl) ?_)
      refine Xg.ops_nil ?_
      refine Xg.at_false (t := false) (by kernel_rfl) rfl ?_
      refine Xg.at_skip ?_
      refine Xg.at_seq ?_
      refine Xg.at_region ?_
      refine Xg.ops_op (by kernel_rfl) (Xg.opx_pure ((pv xb2 0)) rfl (fun _ => by kernel_rfl) ?_)
      refine Xg.ops_op (by kernel_rfl) (Xg.opx_load (b := xb2) (off := ((0 : Nat))) 0 (iv (ks.getD i default).fst) rfl (by kernel_rfl) (by kernel_rfl) (by kernel_rfl) ?_)
      refine Xg.ops_op (by kernel_rfl) (Xg.opx_pure ((iv (ks.getD i default).fst)) rfl (fun _ => by kernel_rfl) ?_)
      refine Xg.ops_nil ?_
      refine Xg.at_region ?_
      refine Xg.ops_op (by kernel_rfl) (Xg.opx_pure ((iv to)) rfl (fun _ => by kernel_rfl) ?_)
      refine Xg.ops_op (by kernel_rfl) (Xg.opx_pure ((pv xb2 0)) rfl (fun _ => by kernel_rfl) ?_)
      refine Xg.ops_op (by kernel_rfl) (Xg.opx_load (b := xb2) (off := ((0 : Nat))) 0 (iv (ks.getD i default).fst) rfl (by kernel_rfl) (by kernel_rfl) (by kernel_rfl) ?_)
      refine Xg.ops_op (by kernel_rfl) (Xg.opx_pure ((pv xb2 1)) rfl (fun _ => by kernel_rfl) ?_)
      refine Xg.ops_op (by kernel_rfl) (Xg.opx_load (b := xb2) (off := ((1 : Nat))) 0 (iv (ks.getD i default).snd) rfl (by kernel_rfl) (by kernel_rfl) (by kernel_rfl) ?_)
      refine Xg.ops_op (by kernel_rfl) (Xg.opx_int .i64 (IntKind.wrap .i64 (((ks.getD i default).fst * (ks.getD i default).snd))) rfl (fun _ => by kernel_rfl) (Xg.wrap_i64_in (by omega)) ?_)
      refine Xg.ops_op (by kernel_rfl) (Xg.opx_int .i64 (IntKind.wrap .i64 ((to + (ks.getD i default).fst * (ks.getD i default).snd))) rfl (fun _ => by kernel_rfl) (Xg.wrap_i64_in (by omega)) ?_)
      refine Xg.ops_op (by kernel_rfl) (Xg.opx_pure ((iv (to + (ks.getD i default).fst * (ks.getD i default).snd))) rfl (fun _ => by kernel_rfl) ?_)
      refine Xg.ops_nil ?_
      refine Xg.at_inBlock ?_
      refine Xg.at_region ?_
      refine Xg.ops_op (by kernel_rfl) (Xg.opx_int .i64 (IntKind.wrap .i64 (((↑i : Int) + (1 : Int)))) rfl (fun _ => by kernel_rfl) (Xg.wrap_i64_in (by omega)) ?_)
      refine Xg.ops_op (by kernel_rfl) (Xg.opx_pure ((iv ((↑i : Int) + (1 : Int)))) rfl (fun _ => by kernel_rfl) ?_)
      refine Xg.ops_nil ?_
      refine Xg.at_inLoop ?_)
    (focus
      refine Xg.at_keep [1, 2] (by kernel_rfl) ?_
      refine Xs.same ?_ (fun J9 => ih (((i + 1, (ks.getD i default).1, to + (ks.getD i default).1 * (ks.getD i default).2)), J9) ?_ ?_) (by kernel_rfl))
    · rfl
    · exact ⟨hlt, e1.symm, e2.symm⟩
    · dsimp only; omega
  · obtain rfl : i = ks.length := by omega
    rw [List.take_length] at hto
    subst hto
    clear ih
    (focus
      refine Xg.at_seq ?_
      refine Xg.at_region ?_
      refine Xg.ops_op (by kernel_rfl) (Xg.opx_pure (.bool (decide ((((↑ks.length : Int)) : Int) < ((↑ks.length : Int))))) rfl (fun _ => by kernel_rfl) ?_)
      refine Xg.ops_nil ?_
      refine Xg.at_seq ?_
      refine Xg.at_false (t := decide (((↑ks.length : Int) < (↑ks.length : Int)))) (by kernel_rfl) (decide_eq_false (by omega)) ?_
      refine Xg.at_exit rfl ?_
      refine Xg.at_seq ?_
      refine Xg.at_region ?_
      refine Xg.ops_op (by kernel_rfl) (Xg.opx_pure ((iv (totK ks))) rfl (fun _ => by kernel_rfl) ?_)
      refine Xg.ops_op (by kernel_rfl) (Xg.opx_pure (.bool (decide (((totK ks) : Int) ≤ ((16777216 : Int))))) rfl (fun _ => by kernel_rfl) ?_)
      refine Xg.ops_op (by kernel_rfl) (Xg.opx_pure ((Value.bool (decide (totK ks ≤ (16777216 : Int))))) rfl (fun _ => by kernel_rfl) ?_)
      refine Xg.ops_nil ?_
      refine Xg.at_ret_ps (v := (Value.bool (decide (totK ks ≤ (16777216 : Int))))) [1] [A] Go.Proofs.Try.func33 (fun _ => by kernel_rfl) (by kernel_rfl) (by kernel_rfl) ?_)
    exact ⟨by rw [decide_eq_true k4], rfl⟩
end Go.Proofs.Ytmplimmcjdkhlaa

/- The arena package: New, any classes: the lists that come of it. -/
namespace Go.Proofs.Ytmplimmcjdkhlaa
open Go.Sl Go.Xg
set_option linter.unusedVariables false
set_option linter.unusedSimpArgs false
set_option linter.unnecessarySimpa false
set_option maxHeartbeats 4000000
set_option maxRecDepth 100000

/-- The numbers from b on. -/
def iotaN (b n : Nat) : List Int := (List.range n).map fun i => ((b + i : Nat) : Int)
theorem iotaN_len (b n : Nat) : (iotaN b n).length = n := by simp [iotaN]
theorem iotaN_one (b n : Nat) : iotaN b (n + 1) = iotaN b n ++ [((b + n : Nat) : Int)] := by
  unfold iotaN; rw [List.range_succ, List.map_append]; rfl
theorem iotaN_mem (b n : Nat) (x : Int) : x ∈ iotaN b n ↔ (b : Int) ≤ x ∧ x < b + n := by
  unfold iotaN
  rw [List.mem_map]
  constructor
  · rintro ⟨i, hi, rfl⟩
    have := List.mem_range.1 hi
    omega
  · intro h
    exact ⟨(x - b).toNat, List.mem_range.2 (by omega), by omega⟩
theorem iotaN_sd (b n : Nat) (h : b + n ≤ 5000) : Sd (iotaN b n) := by
  refine ⟨?_, fun x hx => ?_, ?_⟩
  · unfold iotaN
    rw [List.pairwise_map]
    refine List.Pairwise.imp ?_ List.pairwise_lt_range
    intro a c hac
    omega
  · have := (iotaN_mem b n x).1 hx
    omega
  · rw [iotaN_len]; omega
theorem sins_end (v : Int) (l : List Int) (h : ∀ x ∈ l, x < v) : sins v l = l ++ [v] := by
  obtain ⟨e1, e2⟩ := tw_take v l l.length (Nat.le_refl _) (fun j hj => by
    rw [List.getD_eq_getElem?_getD, List.getElem?_eq_getElem hj]
    exact h _ (List.getElem_mem hj)) (fun j h1 h2 => by omega)
  unfold sins
  rw [e1, e2, List.take_length, List.drop_length]
theorem sins_iota (b n : Nat) : sins ((b + n : Nat) : Int) (iotaN b n) = iotaN b (n + 1) := by
  rw [sins_end _ _ (fun x hx => by have := (iotaN_mem b n x).1 hx; omega), iotaN_one]

abbrev manyK (ks : List (Int × Int)) (i : Nat) : Nat := (ks.getD i default).2.toNat
def bufL (ks : List (Int × Int)) : Nat → List Buf
  | 0 => []
  | i + 1 => bufL ks i ++ List.replicate (manyK ks i) ⟨i, nA, 0, 0⟩
theorem bufL_le {ks : List (Int × Int)} (h : Kok ks) : ∀ i, i ≤ ks.length → (bufL ks i).length ≤ 512 * i
  | 0, _ => by simp [bufL]
  | i + 1, hi => by
    have h1 := bufL_le h i (by omega)
    obtain ⟨h3, h4, h5, h6⟩ := h.2.2.1 i (by omega)
    have h7 : manyK ks i ≤ 512 := by unfold manyK; omega
    unfold bufL
    rw [List.length_append, List.length_replicate]
    omega
/-- The classes that were made. -/
def Lok (ks : List (Int × Int)) (i : Nat) (L : List Cls) : Prop := L.length = i ∧ ∀ k, k < i → (L.getD k default).size = (ks.getD k default).1 ∧ (L.getD k default).fr = iotaN (bufL ks k).length (manyK ks k)
theorem Lok_one {ks : List (Int × Int)} {i : Nat} {L : List Cls} (h : Lok ks i L) (x : Cls) (h1 : x.size = (ks.getD i default).1) (h2 : x.fr = iotaN (bufL ks i).length (manyK ks i)) : Lok ks (i + 1) (L ++ [x]) := by
  obtain ⟨e1, e2⟩ := h
  refine ⟨by rw [List.length_append, e1]; rfl, fun k hk => ?_⟩
  rw [List.getD_eq_getElem?_getD]
  by_cases hki : k < i
  · rw [List.getElem?_append_left (by omega), ← List.getD_eq_getElem?_getD]
    exact e2 k hki
  · obtain rfl : k = i := by omega
    rw [List.getElem?_append_right (by omega), e1, Nat.sub_self]
    exact ⟨h1, h2⟩
abbrev starC (L : List Cls) : HP := seps (L.map fun x => I2 x.fa x.fc x.fr)
theorem starC_one {g w : World} {F : List HP} {L : List Cls} {x : Cls} (h : SL g (I2 x.fa x.fc x.fr :: starC L :: F) w) : SL g (starC (L ++ [x]) :: F) w := by
  refine SL.flat.2 ?_
  rw [List.map_append]
  have h1 := SL.flat.1 (h.perm (.swap _ _ _))
  refine h1.perm ?_
  simp only [List.map_cons, List.map_nil, List.append_assoc, List.cons_append, List.nil_append]
  exact List.Perm.refl _
theorem starC_nil {g w : World} {F : List HP} : SL g (starC [] :: F) w ↔ SL g F w := SL.flat (K := [])
theorem at_starC_nil {P : Program} {f : FuncId} {g : World} {F : List HP} {R : Ending → World → Prop} {k : List Item} {T : List Value} {L : List HP} (h : At P f g F R k T (starC [] :: L)) : At P f g F R k T L := h.sl fun w hS => starC_nil.2 hS
theorem at_pick {P : Program} {f : FuncId} {g : World} {F : List HP} {R : Ending → World → Prop} {k : List Item} {T : List Value} {L : List HP} (is : List Nat) (hi : okPick is L.length = true) (h : At P f g F R k T (pick is L)) : At P f g F R k T L := h.sl fun w hS => sl_keep is hi hS
theorem at_starC_one {P : Program} {f : FuncId} {g : World} {F : List HP} {R : Ending → World → Prop} {k : List Item} {T : List Value} {L : List HP} {M : List Cls} {x : Cls} (h : At P f g F R k T (starC (M ++ [x]) :: L)) : At P f g F R k T (I2 x.fa x.fc x.fr :: starC M :: L) := h.sl fun w hS => starC_one hS
end Go.Proofs.Ytmplimmcjdkhlaa

/- The arena package: New, any classes. -/
namespace Go.Proofs.Ytmplimmcjdkhlaa
open Go.Sl Go.Xg
set_option linter.unusedVariables false
set_option linter.unusedSimpArgs false
set_option linter.unnecessarySimpa false
set_option maxHeartbeats 4000000
set_option maxRecDepth 100000

theorem newL (A : HP) (a : Option Addr) (c : Nat) (ks : List (Int × Int)) (hR : Reads A 2 (.slice a ks.length c) ks.length (recs kC ks)) (hk : Kok ks) (n : Nat) (h1 : 1 ≤ n) (h64 : n ≤ 64) : Does Try.prog 14 [.agg #[.slice a ks.length c, .int .i64 (n : Nat)]] [A]
    (RetE (fun x : Nat × Nat × (Option Addr × Nat) × (Option Addr × Nat) × List Cls => Lok ks ks.length x.2.2.2.2) (fun x => .tuple #[.pointer (some ⟨x.1, 0, none⟩), .int .i64 0]) (fun x => [row x.1 94 [.slice x.2.2.1.1 x.2.2.2.2.length x.2.2.1.2, .slice x.2.2.2.1.1 (bufL ks ks.length).length x.2.2.2.1.2, .slice (some ⟨x.2.1, 0, none⟩) n n],
      recsO 98 3 claK x.2.2.1.1 x.2.2.1.2 x.2.2.2.2, recsO 101 2 bufK x.2.2.2.1.1 x.2.2.2.1.2 (bufL ks ks.length), row x.2.1 102 (pcs n fun _ => none), starC x.2.2.2.2, A])) := by
  have hm := mayG A a c ks hR hk n h1 h64
  obtain ⟨k1, k2, k3, k4⟩ := id hk
  (focus
    refine Xg.spec_of Go.Proofs.Try.func14 rfl Go.Proofs.Try.ntmps14 fun g F => ?_)
  (focus
    refine Xg.at_seq ?_
    refine Xg.at_region ?_
    refine Xg.ops_op (by kernel_rfl) (Xg.opx_box (v := (Value.agg #[Value.slice a ks.length c, iv (↑n : Int)])) [Value.slice a ks.length c, iv (↑n : Int)] (by kernel_rfl) (by kernel_rfl) fun xb1 => ?_)
    refine Xg.ops_op (by kernel_rfl) (Xg.opx_pure ((Value.pointer none)) rfl (fun _ => by kernel_rfl) ?_)
    refine Xg.ops_op (by kernel_rfl) (Xg.opx_pure ((iv 0)) rfl (fun _ => by kernel_rfl) ?_)
    refine Xg.ops_nil ?_
    refine Xg.at_seq ?_
    refine Xg.at_seq ?_
    refine Xg.at_region ?_
    refine Xg.ops_op (by kernel_rfl) (Xg.opx_loadn (off := 0) 2 0 [Value.slice a ks.length c, iv (↑n : Int)] (by kernel_rfl) rfl (by kernel_rfl) rfl (Xg.cells_at (by kernel_rfl)) (by kernel_rfl) ?_)
    refine Xg.ops_op (by kernel_rfl) (Xg.opx_call1' [1] [A, row xb1 (35 : Nat) [Value.slice a ks.length c, iv (↑n : Int)]] (fun _ => by kernel_rfl) (@hm ) (by kernel_rfl) (by kernel_rfl) (by kernel_rfl) ?_)
    refine Xg.ops_op (by kernel_rfl) (Xg.opx_pure (.bool false) rfl (fun _ => by kernel_rfl) ?_)
    refine Xg.ops_nil ?_
    refine Xg.at_false (t := false) (by kernel_rfl) rfl ?_
    refine Xg.at_skip ?_
    refine Xg.at_seq ?_
    refine Xg.at_region ?_
    refine Xg.ops_op (by kernel_rfl) (Xg.opx_pure ((pv xb1 1)) rfl (fun _ => by kernel_rfl) ?_)
    refine Xg.ops_op (by kernel_rfl) (Xg.opx_load (b := xb1) (off := ((1 : Nat))) 1 (iv (↑n : Int)) rfl (by kernel_rfl) (by kernel_rfl) (by kernel_rfl) ?_))
  refine Xg.ops_op (by kernel_rfl) (opx_make_row (k1 := .i64) (k2 := .i64) (elem := 102) n 8 (.pointer none) (by kernel_rfl) (El.mk' (by kernel_rfl) rfl) rfl (by kernel_rfl) (by kernel_rfl) (by omega) (by unfold maxLen; omega) fun ab => ?_)
  rw [arr_rep n (.pointer none)]
  (focus
    refine Xg.ops_op (by kernel_rfl) (Xg.opx_pure ((Value.agg #[Value.slice none (0 : Nat) (0 : Nat), Value.slice none (0 : Nat) (0 : Nat), Value.slice (some (Addr.mk ab (0 : Nat) none)) n n])) rfl (fun _ => by kernel_rfl) ?_)
    refine Xg.ops_op (by kernel_rfl) (Xg.opx_box (v := (Value.agg #[Value.slice none (0 : Nat) (0 : Nat), Value.slice none (0 : Nat) (0 : Nat), Value.slice (some (Addr.mk ab (0 : Nat) none)) n n])) [Value.slice none (0 : Nat) (0 : Nat), Value.slice none (0 : Nat) (0 : Nat), Value.slice (some (Addr.mk ab (0 : Nat) none)) n n] (by kernel_rfl) (by kernel_rfl) fun xb2 => ?_)
    refine Xg.ops_op (by kernel_rfl) (Xg.opx_pure ((pv xb2 0)) rfl (fun _ => by kernel_rfl) ?_)
    refine Xg.ops_nil ?_
    refine Xg.at_seq ?_
    refine Xg.at_seq ?_)
  refine at_nil_recs 101 2 bufK ?_
  refine at_nil_recs 98 3 claK ?_
  refine at_starC_nil ?_
  (focus
    refine Xg.at_region ?_
    refine Xg.ops_op (by kernel_rfl) (Xg.opx_pure ((pv xb1 0)) rfl (fun _ => by kernel_rfl) ?_)
    refine Xg.ops_op (by kernel_rfl) (Xg.opx_load (b := xb1) (off := ((0 : Nat))) 6 (Value.slice a ks.length c) rfl (by kernel_rfl) (by kernel_rfl) (by kernel_rfl) ?_)
    refine Xg.ops_op (by kernel_rfl) (Xg.opx_pure ((iv (↑ks.length : Int))) rfl (fun _ => by kernel_rfl) ?_)
    refine Xg.ops_op (by kernel_rfl) (Xg.opx_pure ((iv 0)) rfl (fun _ => by kernel_rfl) ?_)
    refine Xg.ops_nil ?_
    refine Xg.at_block ?_)
  (focus
    refine Xg.at_keep [3, 1, 2, 4, 0, 5] (by kernel_rfl) ?_
    refine Xg.at_rounds_inv (α := (Nat × List Cls × (Option Addr × Nat) × (Option Addr × Nat) × List Buf) × (Nat → Value)) (fun x => ((fun x => x.1 ≤ ks.length ∧ Lok ks x.1 x.2.1 ∧ x.2.2.2.2 = bufL ks x.1) : (Nat × List Cls × (Option Addr × Nat) × (Option Addr × Nat) × List Buf) → Prop) x.1) (fun x => ((fun x => ks.length - x.1) : (Nat × List Cls × (Option Addr × Nat) × (Option Addr × Nat) × List Buf) → Nat) x.1) (fun x => Xg.headT [Value.agg #[Value.slice a ks.length c, iv (↑n : Int)], pv xb1 0, Value.pointer none, iv 0, pv xb2 0, tu, tu, tu, Value.agg #[Value.slice a ks.length c, iv (↑n : Int)], Value.bool true, Value.bool false, pv xb1 1, iv (↑n : Int), Value.slice (some (Addr.mk ab (0 : Nat) none)) n n, Value.agg #[Value.slice none (0 : Nat) (0 : Nat), Value.slice none (0 : Nat) (0 : Nat), Value.slice (some (Addr.mk ab (0 : Nat) none)) n n], pv xb2 0, pv xb1 0, Value.slice a ks.length c, iv (↑ks.length : Int), iv 0, tu, tu, tu, tu, tu, tu, tu, tu, tu, tu, tu, tu, tu, tu, tu, tu, tu, tu, tu, tu, tu, tu, tu, tu, tu, tu, tu, tu, tu, tu, tu, tu, tu, tu, tu, tu, tu, tu, tu, tu, tu, tu, tu] [5, 6, 7, 20, 21, 22, 23, 24, 25, 26, 27, 28, 29, 30, 31, 32, 33, 34, 35, 36, 37, 38, 39, 40, 41, 42, 43, 44, 45, 46, 47, 48, 49, 50, 51, 52, 53, 54, 55, 56, 57, 58, 59, 60, 61] (((fun x => [(19, .int .i64 (x.1 : Nat))]) : (Nat × List Cls × (Option Addr × Nat) × (Option Addr × Nat) × List Buf) → List (Nat × Go.Value)) x.1) x.2) (fun x => ((fun x => [row xb2 94 [.slice x.2.2.1.1 x.2.1.length x.2.2.1.2, .slice x.2.2.2.1.1 x.2.2.2.2.length x.2.2.2.1.2, .slice (some ⟨ab, 0, none⟩) n n], recsO 98 3 claK x.2.2.1.1 x.2.2.1.2 x.2.1, recsO 101 2 bufK x.2.2.2.1.1 x.2.2.2.1.2 x.2.2.2.2, row ab 102 (arr n fun _ => .pointer none), starC x.2.1, A]) : (Nat × List Cls × (Option Addr × Nat) × (Option Addr × Nat) × List Buf) → List Go.Sl.HP) x.1) (((0, [], (none, 0), (none, 0), [])), fun j9 => ([Value.agg #[Value.slice a ks.length c, iv (↑n : Int)], pv xb1 0, Value.pointer none, iv 0, pv xb2 0, tu, tu, tu, Value.agg #[Value.slice a ks.length c, iv (↑n : Int)], Value.bool true, Value.bool false, pv xb1 1, iv (↑n : Int), Value.slice (some (Addr.mk ab (0 : Nat) none)) n n, Value.agg #[Value.slice none (0 : Nat) (0 : Nat), Value.slice none (0 : Nat) (0 : Nat), Value.slice (some (Addr.mk ab (0 : Nat) none)) n n], pv xb2 0, pv xb1 0, Value.slice a ks.length c, iv (↑ks.length : Int), iv 0, tu, tu, tu, tu, tu, tu, tu, tu, tu, tu, tu, tu, tu, tu, tu, tu, tu, tu, tu, tu, tu, tu, tu, tu, tu, tu, tu, tu, tu, tu, tu, tu, tu, tu, tu, tu, tu, tu, tu, tu, tu, tu, tu] : List Value).getD j9 undef) (by kernel_rfl) (by kernel_rfl) ?_ ?_)
  · exact ⟨Nat.zero_le _, ⟨rfl, fun k hk => absurd hk (Nat.not_lt_zero k)⟩, rfl⟩
  rintro ⟨⟨i, L, ⟨ca, cc⟩, ⟨ba, bc⟩, Bl⟩, J⟩ hi ih
  obtain ⟨hi, hL, hB⟩ := hi
  dsimp only at hi hL hB
  (focus
    refine Xg.At.same (T' := [Value.agg #[Value.slice a ks.length c, iv (↑n : Int)], pv xb1 0, Value.pointer none, iv 0, pv xb2 0, ((i, L, (ca, cc), (ba, bc), Bl), J).snd (5 : Nat), ((i, L, (ca, cc), (ba, bc), Bl), J).snd (6 : Nat), ((i, L, (ca, cc), (ba, bc), Bl), J).snd (7 : Nat), Value.agg #[Value.slice a ks.length c, iv (↑n : Int)], Value.bool true, Value.bool false, pv xb1 1, iv (↑n : Int), Value.slice (some (Addr.mk ab (0 : Nat) none)) n n, Value.agg #[Value.slice none (0 : Nat) (0 : Nat), Value.slice none (0 : Nat) (0 : Nat), Value.slice (some (Addr.mk ab (0 : Nat) none)) n n], pv xb2 0, pv xb1 0, Value.slice a ks.length c, iv (↑ks.length : Int), iv (↑i : Int), ((i, L, (ca, cc), (ba, bc), Bl), J).snd (20 : Nat), ((i, L, (ca, cc), (ba, bc), Bl), J).snd (21 : Nat), ((i, L, (ca, cc), (ba, bc), Bl), J).snd (22 : Nat), ((i, L, (ca, cc), (ba, bc), Bl), J).snd (23 : Nat), ((i, L, (ca, cc), (ba, bc), Bl), J).snd (24 : Nat), ((i, L, (ca, cc), (ba, bc), Bl), J).snd (25 : Nat), ((i, L, (ca, cc), (ba, bc), Bl), J).snd (26 : Nat), ((i, L, (ca, cc), (ba, bc), Bl), J).snd (27 : Nat), ((i, L, (ca, cc), (ba, bc), Bl), J).snd (28 : Nat), ((i, L, (ca, cc), (ba, bc), Bl), J).snd (29 : Nat), ((i, L, (ca, cc), (ba, bc), Bl), J).snd (30 : Nat), ((i, L, (ca, cc), (ba, bc), Bl), J).snd (31 : Nat), ((i, L, (ca, cc), (ba, bc), Bl), J).snd (32 : Nat), ((i, L, (ca, cc), (ba, bc), Bl), J).snd (33 : Nat), ((i, L, (ca, cc), (ba, bc), Bl), J).snd (34 : Nat), ((i, L, (ca, cc), (ba, bc), Bl), J).snd (35 : Nat), ((i, L, (ca, cc), (ba, bc), Bl), J).snd (36 : Nat), ((i, L, (ca, cc), (ba, bc), Bl), J).snd (37 : Nat), ((i, L, (ca, cc), (ba, bc), Bl), J).snd (38 : Nat), ((i, L, (ca, cc), (ba, bc), Bl), J).snd (39 : Nat), ((i, L, (ca, cc), (ba, bc), Bl), J).snd (40 : Nat), ((i, L, (ca, cc), (ba, bc), Bl), J).snd (41 : Nat), ((i, L, (ca, cc), (ba, bc), Bl), J).snd (42 : Nat), ((i, L, (ca, cc), (ba, bc), Bl), J).snd (43 : Nat), ((i, L, (ca, cc), (ba, bc), Bl), J).snd (44 : Nat), ((i, L, (ca, cc), (ba, bc), Bl), J).snd (45 : Nat), ((i, L, (ca, cc), (ba, bc), Bl), J).snd (46 : Nat), ((i, L, (ca, cc), (ba, bc), Bl), J).snd (47 : Nat), ((i, L, (ca, cc), (ba, bc), Bl), J).snd (48 : Nat), ((i, L, (ca, cc), (ba, bc), Bl), J).snd (49 : Nat), ((i, L, (ca, cc), (ba, bc), Bl), J).snd (50 : Nat), ((i, L, (ca, cc), (ba, bc), Bl), J).snd (51 : Nat), ((i, L, (ca, cc), (ba, bc), Bl), J).snd (52 : Nat), ((i, L, (ca, cc), (ba, bc), Bl), J).snd (53 : Nat), ((i, L, (ca, cc), (ba, bc), Bl), J).snd (54 : Nat), ((i, L, (ca, cc), (ba, bc), Bl), J).snd (55 : Nat), ((i, L, (ca, cc), (ba, bc), Bl), J).snd (56 : Nat), ((i, L, (ca, cc), (ba, bc), Bl), J).snd (57 : Nat), ((i, L, (ca, cc), (ba, bc), Bl), J).snd (58 : Nat), ((i, L, (ca, cc), (ba, bc), Bl), J).snd (59 : Nat), ((i, L, (ca, cc), (ba, bc), Bl), J).snd (60 : Nat), ((i, L, (ca, cc), (ba, bc), Bl), J).snd (61 : Nat), tu]) (L' := [row xb2 (94 : TypeId) [Value.slice ((i, L, (ca, cc), (ba, bc), Bl), J).fst.snd.snd.fst.fst ((i, L, (ca, cc), (ba, bc), Bl), J).fst.snd.fst.length ((i, L, (ca, cc), (ba, bc), Bl), J).fst.snd.snd.fst.snd, Value.slice ((i, L, (ca, cc), (ba, bc), Bl), J).fst.snd.snd.snd.fst.fst ((i, L, (ca, cc), (ba, bc), Bl), J).fst.snd.snd.snd.snd.length ((i, L, (ca, cc), (ba, bc), Bl), J).fst.snd.snd.snd.fst.snd, Value.slice (some (Addr.mk ab (0 : Nat) none)) n n], recsO (98 : Nat) (3 : Nat) claK ((i, L, (ca, cc), (ba, bc), Bl), J).fst.snd.snd.fst.fst ((i, L, (ca, cc), (ba, bc), Bl), J).fst.snd.snd.fst.snd ((i, L, (ca, cc), (ba, bc), Bl), J).fst.snd.fst, recsO (101 : Nat) (2 : Nat) bufK ((i, L, (ca, cc), (ba, bc), Bl), J).fst.snd.snd.snd.fst.fst ((i, L, (ca, cc), (ba, bc), Bl), J).fst.snd.snd.snd.fst.snd ((i, L, (ca, cc), (ba, bc), Bl), J).fst.snd.snd.snd.snd, row ab (102 : TypeId) (arr n fun (x : Nat) => Value.pointer none), starC ((i, L, (ca, cc), (ba, bc), Bl), J).fst.snd.fst, A]) (by kernel_rfl) rfl ?_)
  by_cases hlt : i < ks.length
  · obtain ⟨g1, g2, g3, g4⟩ := k3 i hlt
    have g7 := prevK_nn hk i (by omega)
    have hbl := bufL_le hk i (by omega)
    obtain ⟨mm, hmm⟩ : ∃ mm : Nat, manyK ks i = mm := ⟨_, rfl⟩
    have hmi : (ks.getD i default).2 = ((mm : Nat) : Int) := by rw [← hmm]; show _ = (((ks.getD i default).2.toNat : Nat) : Int); omega
    have hmm5 : mm ≤ 512 := by omega
    rw [← hB] at hbl
    (focus
      refine Xg.at_seq ?_
      refine Xg.at_region ?_
      refine Xg.ops_op (by kernel_rfl) (Xg.opx_pure (.bool (decide ((((↑i : Int)) : Int) < ((↑ks.length : Int))))) rfl (fun _ => by kernel_rfl) ?_)
      refine Xg.ops_nil ?_
      refine Xg.at_seq ?_
      refine Xg.at_true (t := decide (((↑i : Int) < (↑ks.length : Int)))) (by kernel_rfl) (decide_eq_true (by omega)) ?_
      refine Xg.at_skip ?_
      refine Xg.at_seq ?_
      refine Xg.at_block ?_
      refine Xg.at_seq ?_
      refine Xg.at_region ?_
      refine Xg.ops_op (by kernel_rfl) (Xg.opx_pure ((iv (↑i : Int))) rfl (fun _ => by kernel_rfl) ?_)
      refine Xg.ops_op (by kernel_rfl) (Xg.opx_rd 5 (.pointer (some (Addr.mk (Xg.blk a) (offA a + i * (2 : Nat)) none))) rfl hR (by kernel_rfl) (Xg.run_ix_rd (elem := 32) (kd := .i64) (e := ((↑i : Int))) 2 i (offA a + i * (2 : Nat)) (by kernel_rfl) (by kernel_rfl) (by kernel_rfl) (by kernel_rfl) rfl (by omega) (by rw [Xg.recs_len (wd := 2) (fun _ => rfl)]; omega) (by omega)) ?_)
      refine Xg.ops_op (by kernel_rfl) (Xg.opx_rd 5 (.agg (List.toArray [iv (ks.getD i default).fst, iv (ks.getD i default).snd])) rfl hR (by kernel_rfl) (Xg.run_loadn_rd (off0 := (offA a + i * (2 : Nat))) 2 (i * (2 : Nat)) [iv (ks.getD i default).fst, iv (ks.getD i default).snd] (by kernel_rfl) (by kernel_rfl) (by omega) rfl (Xg.recs_at' (wd := 2) (fun _ => rfl) default i (by omega) (by omega) (by kernel_rfl)) (by kernel_rfl)) ?_)
      refine Xg.ops_op (by kernel_rfl) (Xg.opx_new 2 [iv 0, iv 0] (by kernel_rfl) (by kernel_rfl) fun xb3 => ?_)
      refine Xg.ops_op (by kernel_rfl) (Xg.opx_pure ((iv (↑i : Int))) rfl (fun _ => by kernel_rfl) ?_)
      refine Xg.ops_op (by kernel_rfl) (Xg.opx_storen 2 (off := 0) 0 [iv (ks.getD i default).fst, iv (ks.getD i default).snd] (by kernel_rfl) rfl (by kernel_rfl) (by kernel_rfl) rfl (by kernel_rfl) (Nat.le_of_ble_eq_true (by kernel_rfl)) ?_)
      refine Xg.ops_nil ?_
      refine Xg.at_seq ?_
      refine Xg.at_region ?_
      refine Xg.ops_op (by kernel_rfl) (Xg.opx_pure ((pv xb3 0)) rfl (fun _ => by kernel_rfl) ?_)
      refine Xg.ops_op (by kernel_rfl) (Xg.opx_load (b := xb3) (off := ((0 : Nat))) 0 (iv (ks.getD i default).fst) rfl (by kernel_rfl) (by kernel_rfl) (by kernel_rfl) ?_)
      refine Xg.ops_op (by kernel_rfl) (Xg.opx_pure ((Value.agg #[Value.slice none (0 : Nat) (0 : Nat), Value.func (Fn.func (34 : Nat)) #[] #[]])) rfl (fun _ => by kernel_rfl) ?_)
      refine Xg.ops_op (by kernel_rfl) (Xg.opx_pure ((Value.agg #[iv (ks.getD i default).fst, Value.slice none (0 : Nat) (0 : Nat), Value.func (Fn.func (34 : Nat)) #[] #[]])) rfl (fun _ => by kernel_rfl) ?_)
      refine Xg.ops_op (by kernel_rfl) (Xg.opx_new 3 [iv 0, Value.slice none (0 : Nat) (0 : Nat), Value.nilFunc] (by kernel_rfl) (by kernel_rfl) fun xb4 => ?_)
      refine Xg.ops_op (by kernel_rfl) (Xg.opx_storen 3 (off := 0) 0 [iv (ks.getD i default).fst, Value.slice none (0 : Nat) (0 : Nat), Value.func (Fn.func (34 : Nat)) #[] #[]] (by kernel_rfl) rfl (by kernel_rfl) (by kernel_rfl) rfl (by kernel_rfl) (Nat.le_of_ble_eq_true (by kernel_rfl)) ?_)
      refine Xg.ops_nil ?_
      refine Xg.at_seq ?_
      refine Xg.at_seq ?_
      refine Xg.at_region ?_
      refine Xg.ops_op (by kernel_rfl) (Xg.opx_pure ((pv xb3 1)) rfl (fun _ => by kernel_rfl) ?_)
      refine Xg.ops_op (by kernel_rfl) (Xg.opx_load (b := xb3) (off := ((1 : Nat))) 1 (iv (ks.getD i default).snd) rfl (by kernel_rfl) (by kernel_rfl) (by kernel_rfl) ?_)
      refine Xg.ops_op (by kernel_rfl) (Xg.opx_pure ((iv 0)) rfl (fun _ => by kernel_rfl) ?_)
      refine Xg.ops_nil ?_
      refine Xg.at_block ?_)
    refine Xg.at_nil_ints 3 .i64 ?_
    rw [hmi]
    (focus
      refine Xg.at_keep [1, 0, 3, 5, 4, 6, 7, 8] (by kernel_rfl) ?_
      refine Xg.at_rounds_inv (α := (Nat × (Option Addr × Nat) × (Option Addr × Nat) × List Buf) × (Nat → Value)) (fun x => ((fun x => x.1 ≤ mm ∧ x.2.2.2 = Bl ++ List.replicate x.1 ⟨i, nA, 0, 0⟩) : (Nat × (Option Addr × Nat) × (Option Addr × Nat) × List Buf) → Prop) x.1) (fun x => ((fun x => mm - x.1) : (Nat × (Option Addr × Nat) × (Option Addr × Nat) × List Buf) → Nat) x.1) (fun x => Xg.headT [Value.agg #[Value.slice a ks.length c, iv (↑n : Int)], pv xb1 0, Value.pointer none, iv 0, pv xb2 0, iv (↑i : Int), pv xb3 0, pv xb4 0, Value.agg #[Value.slice a ks.length c, iv (↑n : Int)], Value.bool true, Value.bool false, pv xb1 1, iv (↑n : Int), Value.slice (some (Addr.mk ab (0 : Nat) none)) n n, Value.agg #[Value.slice none (0 : Nat) (0 : Nat), Value.slice none (0 : Nat) (0 : Nat), Value.slice (some (Addr.mk ab (0 : Nat) none)) n n], pv xb2 0, pv xb1 0, Value.slice a ks.length c, iv (↑ks.length : Int), iv (↑i : Int), Value.bool (decide ((↑i : Int) < (↑ks.length : Int))), iv (↑i : Int), Value.pointer (some (Addr.mk (blk a) (offA a + i * (2 : Nat)) none)), Value.agg #[iv (ks.getD i default).fst, iv (↑mm : Int)], pv xb3 0, iv (ks.getD i default).fst, Value.agg #[Value.slice none (0 : Nat) (0 : Nat), Value.func (Fn.func (34 : Nat)) #[] #[]], Value.agg #[iv (ks.getD i default).fst, Value.slice none (0 : Nat) (0 : Nat), Value.func (Fn.func (34 : Nat)) #[] #[]], pv xb3 1, iv (↑mm : Int), iv 0, ((i, L, (ca, cc), (ba, bc), Bl), J).snd (31 : Nat), ((i, L, (ca, cc), (ba, bc), Bl), J).snd (32 : Nat), ((i, L, (ca, cc), (ba, bc), Bl), J).snd (33 : Nat), ((i, L, (ca, cc), (ba, bc), Bl), J).snd (34 : Nat), ((i, L, (ca, cc), (ba, bc), Bl), J).snd (35 : Nat), ((i, L, (ca, cc), (ba, bc), Bl), J).snd (36 : Nat), ((i, L, (ca, cc), (ba, bc), Bl), J).snd (37 : Nat), ((i, L, (ca, cc), (ba, bc), Bl), J).snd (38 : Nat), ((i, L, (ca, cc), (ba, bc), Bl), J).snd (39 : Nat), ((i, L, (ca, cc), (ba, bc), Bl), J).snd (40 : Nat), ((i, L, (ca, cc), (ba, bc), Bl), J).snd (41 : Nat), ((i, L, (ca, cc), (ba, bc), Bl), J).snd (42 : Nat), ((i, L, (ca, cc), (ba, bc), Bl), J).snd (43 : Nat), ((i, L, (ca, cc), (ba, bc), Bl), J).snd (44 : Nat), ((i, L, (ca, cc), (ba, bc), Bl), J).snd (45 : Nat), ((i, L, (ca, cc), (ba, bc), Bl), J).snd (46 : Nat), ((i, L, (ca, cc), (ba, bc), Bl), J).snd (47 : Nat), ((i, L, (ca, cc), (ba, bc), Bl), J).snd (48 : Nat), ((i, L, (ca, cc), (ba, bc), Bl), J).snd (49 : Nat), ((i, L, (ca, cc), (ba, bc), Bl), J).snd (50 : Nat), ((i, L, (ca, cc), (ba, bc), Bl), J).snd (51 : Nat), ((i, L, (ca, cc), (ba, bc), Bl), J).snd (52 : Nat), ((i, L, (ca, cc), (ba, bc), Bl), J).snd (53 : Nat), ((i, L, (ca, cc), (ba, bc), Bl), J).snd (54 : Nat), ((i, L, (ca, cc), (ba, bc), Bl), J).snd (55 : Nat), ((i, L, (ca, cc), (ba, bc), Bl), J).snd (56 : Nat), ((i, L, (ca, cc), (ba, bc), Bl), J).snd (57 : Nat), ((i, L, (ca, cc), (ba, bc), Bl), J).snd (58 : Nat), ((i, L, (ca, cc), (ba, bc), Bl), J).snd (59 : Nat), ((i, L, (ca, cc), (ba, bc), Bl), J).snd (60 : Nat), ((i, L, (ca, cc), (ba, bc), Bl), J).snd (61 : Nat), tu] [31, 32, 33, 34, 35, 36, 37, 38, 39, 40, 41, 42, 43, 44, 45, 46, 47, 48, 49, 50] (((fun x => [(30, .int .i64 (x.1 : Nat))]) : (Nat × (Option Addr × Nat) × (Option Addr × Nat) × List Buf) → List (Nat × Go.Value)) x.1) x.2) (fun x => ((fun x => [row xb4 98 [.int .i64 (ks.getD i default).1, .slice x.2.1.1 x.1 x.2.1.2, fnO], I2 x.2.1.1 x.2.1.2 (iotaN Bl.length x.1), row xb2 94 [.slice ca L.length cc, .slice x.2.2.1.1 x.2.2.2.length x.2.2.1.2, .slice (some ⟨ab, 0, none⟩) n n], recsO 101 2 bufK x.2.2.1.1 x.2.2.1.2 x.2.2.2, recsO 98 3 claK ca cc L, row ab 102 (arr n fun _ => .pointer none), starC L, A]) : (Nat × (Option Addr × Nat) × (Option Addr × Nat) × List Buf) → List Go.Sl.HP) x.1) (((0, (none, 0), (ba, bc), Bl)), fun j9 => ([Value.agg #[Value.slice a ks.length c, iv (↑n : Int)], pv xb1 0, Value.pointer none, iv 0, pv xb2 0, iv (↑i : Int), pv xb3 0, pv xb4 0, Value.agg #[Value.slice a ks.length c, iv (↑n : Int)], Value.bool true, Value.bool false, pv xb1 1, iv (↑n : Int), Value.slice (some (Addr.mk ab (0 : Nat) none)) n n, Value.agg #[Value.slice none (0 : Nat) (0 : Nat), Value.slice none (0 : Nat) (0 : Nat), Value.slice (some (Addr.mk ab (0 : Nat) none)) n n], pv xb2 0, pv xb1 0, Value.slice a ks.length c, iv (↑ks.length : Int), iv (↑i : Int), Value.bool (decide ((↑i : Int) < (↑ks.length : Int))), iv (↑i : Int), Value.pointer (some (Addr.mk (blk a) (offA a + i * (2 : Nat)) none)), Value.agg #[iv (ks.getD i default).fst, iv (↑mm : Int)], pv xb3 0, iv (ks.getD i default).fst, Value.agg #[Value.slice none (0 : Nat) (0 : Nat), Value.func (Fn.func (34 : Nat)) #[] #[]], Value.agg #[iv (ks.getD i default).fst, Value.slice none (0 : Nat) (0 : Nat), Value.func (Fn.func (34 : Nat)) #[] #[]], pv xb3 1, iv (↑mm : Int), iv 0, ((i, L, (ca, cc), (ba, bc), Bl), J).snd (31 : Nat), ((i, L, (ca, cc), (ba, bc), Bl), J).snd (32 : Nat), ((i, L, (ca, cc), (ba, bc), Bl), J).snd (33 : Nat), ((i, L, (ca, cc), (ba, bc), Bl), J).snd (34 : Nat), ((i, L, (ca, cc), (ba, bc), Bl), J).snd (35 : Nat), ((i, L, (ca, cc), (ba, bc), Bl), J).snd (36 : Nat), ((i, L, (ca, cc), (ba, bc), Bl), J).snd (37 : Nat), ((i, L, (ca, cc), (ba, bc), Bl), J).snd (38 : Nat), ((i, L, (ca, cc), (ba, bc), Bl), J).snd (39 : Nat), ((i, L, (ca, cc), (ba, bc), Bl), J).snd (40 : Nat), ((i, L, (ca, cc), (ba, bc), Bl), J).snd (41 : Nat), ((i, L, (ca, cc), (ba, bc), Bl), J).snd (42 : Nat), ((i, L, (ca, cc), (ba, bc), Bl), J).snd (43 : Nat), ((i, L, (ca, cc), (ba, bc), Bl), J).snd (44 : Nat), ((i, L, (ca, cc), (ba, bc), Bl), J).snd (45 : Nat), ((i, L, (ca, cc), (ba, bc), Bl), J).snd (46 : Nat), ((i, L, (ca, cc), (ba, bc), Bl), J).snd (47 : Nat), ((i, L, (ca, cc), (ba, bc), Bl), J).snd (48 : Nat), ((i, L, (ca, cc), (ba, bc), Bl), J).snd (49 : Nat), ((i, L, (ca, cc), (ba, bc), Bl), J).snd (50 : Nat), ((i, L, (ca, cc), (ba, bc), Bl), J).snd (51 : Nat), ((i, L, (ca, cc), (ba, bc), Bl), J).snd (52 : Nat), ((i, L, (ca, cc), (ba, bc), Bl), J).snd (53 : Nat), ((i, L, (ca, cc), (ba, bc), Bl), J).snd (54 : Nat), ((i, L, (ca, cc), (ba, bc), Bl), J).snd (55 : Nat), ((i, L, (ca, cc), (ba, bc), Bl), J).snd (56 : Nat), ((i, L, (ca, cc), (ba, bc), Bl), J).snd (57 : Nat), ((i, L, (ca, cc), (ba, bc), Bl), J).snd (58 : Nat), ((i, L, (ca, cc), (ba, bc), Bl), J).snd (59 : Nat), ((i, L, (ca, cc), (ba, bc), Bl), J).snd (60 : Nat), ((i, L, (ca, cc), (ba, bc), Bl), J).snd (61 : Nat), tu] : List Value).getD j9 undef) (by kernel_rfl) (by kernel_rfl) ?_ ?_)
    · exact ⟨Nat.zero_le _, by rw [List.replicate_zero, List.append_nil]⟩
    rintro ⟨⟨j, ⟨xa, xc⟩, ⟨ba2, bc2⟩, Bl2⟩, J2⟩ hj ih2
    obtain ⟨hj, hB2⟩ := hj
    dsimp only at hj hB2
    (focus
      refine Xg.At.same (T' := [Value.agg #[Value.slice a ks.length c, iv (↑n : Int)], pv xb1 0, Value.pointer none, iv 0, pv xb2 0, iv (↑i : Int), pv xb3 0, pv xb4 0, Value.agg #[Value.slice a ks.length c, iv (↑n : Int)], Value.bool true, Value.bool false, pv xb1 1, iv (↑n : Int), Value.slice (some (Addr.mk ab (0 : Nat) none)) n n, Value.agg #[Value.slice none (0 : Nat) (0 : Nat), Value.slice none (0 : Nat) (0 : Nat), Value.slice (some (Addr.mk ab (0 : Nat) none)) n n], pv xb2 0, pv xb1 0, Value.slice a ks.length c, iv (↑ks.length : Int), iv (↑i : Int), Value.bool (decide ((↑i : Int) < (↑ks.length : Int))), iv (↑i : Int), Value.pointer (some (Addr.mk (blk a) (offA a + i * (2 : Nat)) none)), Value.agg #[iv (ks.getD i default).fst, iv (↑mm : Int)], pv xb3 0, iv (ks.getD i default).fst, Value.agg #[Value.slice none (0 : Nat) (0 : Nat), Value.func (Fn.func (34 : Nat)) #[] #[]], Value.agg #[iv (ks.getD i default).fst, Value.slice none (0 : Nat) (0 : Nat), Value.func (Fn.func (34 : Nat)) #[] #[]], pv xb3 1, iv (↑mm : Int), iv (↑j : Int), ((j, (xa, xc), (ba2, bc2), Bl2), J2).snd (31 : Nat), ((j, (xa, xc), (ba2, bc2), Bl2), J2).snd (32 : Nat), ((j, (xa, xc), (ba2, bc2), Bl2), J2).snd (33 : Nat), ((j, (xa, xc), (ba2, bc2), Bl2), J2).snd (34 : Nat), ((j, (xa, xc), (ba2, bc2), Bl2), J2).snd (35 : Nat), ((j, (xa, xc), (ba2, bc2), Bl2), J2).snd (36 : Nat), ((j, (xa, xc), (ba2, bc2), Bl2), J2).snd (37 : Nat), ((j, (xa, xc), (ba2, bc2), Bl2), J2).snd (38 : Nat), ((j, (xa, xc), (ba2, bc2), Bl2), J2).snd (39 : Nat), ((j, (xa, xc), (ba2, bc2), Bl2), J2).snd (40 : Nat), ((j, (xa, xc), (ba2, bc2), Bl2), J2).snd (41 : Nat), ((j, (xa, xc), (ba2, bc2), Bl2), J2).snd (42 : Nat), ((j, (xa, xc), (ba2, bc2), Bl2), J2).snd (43 : Nat), ((j, (xa, xc), (ba2, bc2), Bl2), J2).snd (44 : Nat), ((j, (xa, xc), (ba2, bc2), Bl2), J2).snd (45 : Nat), ((j, (xa, xc), (ba2, bc2), Bl2), J2).snd (46 : Nat), ((j, (xa, xc), (ba2, bc2), Bl2), J2).snd (47 : Nat), ((j, (xa, xc), (ba2, bc2), Bl2), J2).snd (48 : Nat), ((j, (xa, xc), (ba2, bc2), Bl2), J2).snd (49 : Nat), ((j, (xa, xc), (ba2, bc2), Bl2), J2).snd (50 : Nat), ((i, L, (ca, cc), (ba, bc), Bl), J).snd (51 : Nat), ((i, L, (ca, cc), (ba, bc), Bl), J).snd (52 : Nat), ((i, L, (ca, cc), (ba, bc), Bl), J).snd (53 : Nat), ((i, L, (ca, cc), (ba, bc), Bl), J).snd (54 : Nat), ((i, L, (ca, cc), (ba, bc), Bl), J).snd (55 : Nat), ((i, L, (ca, cc), (ba, bc), Bl), J).snd (56 : Nat), ((i, L, (ca, cc), (ba, bc), Bl), J).snd (57 : Nat), ((i, L, (ca, cc), (ba, bc), Bl), J).snd (58 : Nat), ((i, L, (ca, cc), (ba, bc), Bl), J).snd (59 : Nat), ((i, L, (ca, cc), (ba, bc), Bl), J).snd (60 : Nat), ((i, L, (ca, cc), (ba, bc), Bl), J).snd (61 : Nat), tu]) (L' := [row xb4 (98 : TypeId) [iv (ks.getD i default).fst, Value.slice ((j, (xa, xc), (ba2, bc2), Bl2), J2).fst.snd.fst.fst ((j, (xa, xc), (ba2, bc2), Bl2), J2).fst.fst ((j, (xa, xc), (ba2, bc2), Bl2), J2).fst.snd.fst.snd, fnO], I2 ((j, (xa, xc), (ba2, bc2), Bl2), J2).fst.snd.fst.fst ((j, (xa, xc), (ba2, bc2), Bl2), J2).fst.snd.fst.snd (iotaN Bl.length ((j, (xa, xc), (ba2, bc2), Bl2), J2).fst.fst), row xb2 (94 : TypeId) [Value.slice ca L.length cc, Value.slice ((j, (xa, xc), (ba2, bc2), Bl2), J2).fst.snd.snd.fst.fst ((j, (xa, xc), (ba2, bc2), Bl2), J2).fst.snd.snd.snd.length ((j, (xa, xc), (ba2, bc2), Bl2), J2).fst.snd.snd.fst.snd, Value.slice (some (Addr.mk ab (0 : Nat) none)) n n], recsO (101 : Nat) (2 : Nat) bufK ((j, (xa, xc), (ba2, bc2), Bl2), J2).fst.snd.snd.fst.fst ((j, (xa, xc), (ba2, bc2), Bl2), J2).fst.snd.snd.fst.snd ((j, (xa, xc), (ba2, bc2), Bl2), J2).fst.snd.snd.snd, recsO (98 : Nat) (3 : Nat) claK ca cc L, row ab (102 : TypeId) (arr n fun (x : Nat) => Value.pointer none), starC L, A]) (by kernel_rfl) rfl ?_)
    have hl2 : Bl2.length = Bl.length + j := by rw [hB2, List.length_append, List.length_replicate]
    have hp : ∀ b s, Does Try.prog 35 [.pointer (some ⟨b, 1, none⟩), .int .i64 (Bl2.length : Nat)] [row b 98 [.int .i64 s, .slice xa j xc, fnO], I2 xa xc (iotaN Bl.length j)]
        (RetE (fun x : Option Addr × Nat => True) (fun x => .tuple #[]) (fun x => [row b 98 [.int .i64 s, .slice x.1 (j + 1) x.2, fnO], I2 x.1 x.2 (iotaN Bl.length (j + 1))])) := fun b s => by
      have h := putB b s xa xc (iotaN Bl.length j) ((Bl.length + j : Nat) : Int) (iotaN_sd _ _ (by omega)) (by omega)
      rw [sins_iota, iotaN_len, iotaN_len] at h
      rw [hl2]; exact h
    by_cases hlt2 : j < mm
    · (focus
        refine Xg.at_seq ?_
        refine Xg.at_region ?_
        refine Xg.ops_op (by kernel_rfl) (Xg.opx_pure (.bool (decide ((((↑j : Int)) : Int) < ((↑mm : Int))))) rfl (fun _ => by kernel_rfl) ?_)
        refine Xg.ops_nil ?_
        refine Xg.at_seq ?_
        refine Xg.at_true (t := decide (((↑j : Int) < (↑mm : Int)))) (by kernel_rfl) (decide_eq_true (by omega)) ?_
        refine Xg.at_skip ?_
        refine Xg.at_seq ?_
        refine Xg.at_block ?_
        refine Xg.at_seq ?_
        refine Xg.at_region ?_
        refine Xg.ops_op (by kernel_rfl) (Xg.opx_pure ((pv xb4 1)) rfl (fun _ => by kernel_rfl) ?_)
        refine Xg.ops_op (by kernel_rfl) (Xg.opx_pure ((pv xb2 0)) rfl (fun _ => by kernel_rfl) ?_)
        refine Xg.ops_op (by kernel_rfl) (Xg.opx_pure ((pv xb2 0)) rfl (fun _ => by kernel_rfl) ?_)
        refine Xg.ops_op (by kernel_rfl) (Xg.opx_pure ((pv xb2 1)) rfl (fun _ => by kernel_rfl) ?_)
        refine Xg.ops_op (by kernel_rfl) (Xg.opx_load (b := xb2) (off := ((1 : Nat))) 2 (Value.slice ba2 Bl2.length bc2) rfl (by kernel_rfl) (by kernel_rfl) (by kernel_rfl) ?_)
        refine Xg.ops_op (by kernel_rfl) (Xg.opx_pure ((iv (↑Bl2.length : Int))) rfl (fun _ => by kernel_rfl) ?_)
        refine Xg.ops_op (by kernel_rfl) (Xg.opx_callE' [0, 1] (fun xx1 => [row xb4 (98 : TypeId) [iv (ks.getD i default).fst, Value.slice xx1.fst (j + (1 : Nat)) xx1.snd, Value.func (Fn.func (34 : Nat)) #[] #[]], I2 xx1.fst xx1.snd (iotaN Bl.length (j + (1 : Nat))), row xb2 (94 : TypeId) [Value.slice ca L.length cc, Value.slice ba2 Bl2.length bc2, Value.slice (some (Addr.mk ab (0 : Nat) none)) n n], recsO (101 : Nat) (2 : Nat) bufK ba2 bc2 Bl2, recsO (98 : Nat) (3 : Nat) claK ca cc L, row ab (102 : TypeId) (arr n fun (x : Nat) => Value.pointer none), starC L, A]) (fun _ => by kernel_rfl) (@hp (xb4) (((ks.getD i default).fst))) (by kernel_rfl) (by kernel_rfl) (by kernel_rfl) fun xx1 xh1 => ?_)
        try dsimp only at xh1
        refine Xg.ops_nil ?_
        refine Xg.at_region ?_
        refine Xg.ops_op (by kernel_rfl) (Xg.opx_pure ((pv xb2 0)) rfl (fun _ => by kernel_rfl) ?_)
        refine Xg.ops_op (by kernel_rfl) (Xg.opx_pure ((pv xb2 0)) rfl (fun _ => by kernel_rfl) ?_)
        refine Xg.ops_op (by kernel_rfl) (Xg.opx_pure ((pv xb2 0)) rfl (fun _ => by kernel_rfl) ?_)
        refine Xg.ops_op (by kernel_rfl) (Xg.opx_pure ((pv xb2 1)) rfl (fun _ => by kernel_rfl) ?_)
        refine Xg.ops_op (by kernel_rfl) (Xg.opx_load (b := xb2) (off := ((1 : Nat))) 2 (Value.slice ba2 Bl2.length bc2) rfl (by kernel_rfl) (by kernel_rfl) (by kernel_rfl) ?_)
        refine Xg.ops_op (by kernel_rfl) (Xg.opx_pure ((iv (↑i : Int))) rfl (fun _ => by kernel_rfl) ?_)
        refine Xg.ops_op (by kernel_rfl) (Xg.opx_pure ((Value.agg #[iv (↑i : Int), Value.slice none (0 : Nat) (0 : Nat)])) rfl (fun _ => by kernel_rfl) ?_)
        refine Xg.ops_op (by kernel_rfl) (Xg.opx_bs (elem := 101) 2 [Value.agg #[iv (↑i : Int), Value.slice none (0 : Nat) (0 : Nat)]] [iv (↑i : Int), Value.slice none (0 : Nat) (0 : Nat)] (by kernel_rfl) (by kernel_rfl) (by decide) rfl (by kernel_rfl) (by kernel_rfl) (by kernel_rfl) (by kernel_rfl) fun xb5 => ?_)
        refine Xg.ops_op (by kernel_rfl) (Xg.opx_append_recs (elem := 101) (yv := (Value.slice (some (Addr.mk xb5 (0 : Nat) none)) (1 : Nat) (1 : Nat))) (l := Bl2) 4 2 64 (Buf.mk i none (0 : Nat) (0 : Nat)) rfl (by kernel_rfl) (by kernel_rfl) (by kernel_rfl) (by kernel_rfl) (fun _ hS => Xg.row_rd hS 0 rfl (by kernel_rfl)) (by kernel_rfl) (by first | omega | (simp only [List.length_nil]; omega) | (simp; done) | (simp; omega)) (by first | omega | (simp only [List.length_nil]; omega) | (simp; done) | (simp; omega)) fun xa1 xc1 => ?_)
        have xl1 : ((Bl2 : (List Buf)) ++ ([(Buf.mk i none (0 : Nat) (0 : Nat))] : (List Buf))).length = (Bl2 : (List Buf)).length + 1 := by simp
        refine Xg.ops_op (by kernel_rfl) (Xg.opx_pure ((pv xb2 0)) rfl (fun _ => by kernel_rfl) ?_)
        refine Xg.ops_op (by kernel_rfl) (Xg.opx_pure ((pv xb2 1)) rfl (fun _ => by kernel_rfl) ?_)
        refine Xg.ops_op (by kernel_rfl) (Xg.opx_store1 (off := 1) 3 (Value.slice xa1 (Bl2 ++ [Buf.mk i none (0 : Nat) (0 : Nat)]).length xc1) (by kernel_rfl) rfl (by kernel_rfl) (by kernel_rfl) (by kernel_rfl) (Nat.le_of_ble_eq_true (by kernel_rfl)) ?_)
        refine Xg.ops_nil ?_
        refine Xg.at_inBlock ?_
        refine Xg.at_region ?_
        refine Xg.ops_op (by kernel_rfl) (Xg.opx_int .i64 (IntKind.wrap .i64 (((↑j : Int) + (1 : Int)))) rfl (fun _ => by kernel_rfl) (Xg.wrap_i64_in (by omega)) ?_)
        refine Xg.ops_op (by kernel_rfl) (Xg.opx_pure ((iv ((↑j : Int) + (1 : Int)))) rfl (fun _ => by kernel_rfl) ?_)
        refine Xg.ops_nil ?_
        refine Xg.at_inLoop ?_)
      (focus
        refine Xg.at_keep [1, 2, 3, 4, 5, 6, 7, 8] (by kernel_rfl) ?_
        refine Xs.same ?_ (fun J9 => ih2 (((j + 1, (xx1.1, xx1.2), (xa1, xc1), Bl2 ++ [⟨i, nA, 0, 0⟩])), J9) ?_ ?_) (by kernel_rfl))
      · rfl
      · exact ⟨hlt2, by rw [hB2, List.append_assoc, List.replicate_succ']⟩
      · dsimp only; omega
    · obtain rfl : j = mm := by omega
      clear ih2
      obtain ⟨X, hX⟩ : ∃ X, iotaN Bl.length j = X := ⟨_, rfl⟩
      have hXl : X.length = j := by rw [← hX, iotaN_len]
      rw [hX]
      clear hp
      subst hXl
      have hLl : L.length = i := hL.1
      (focus
        refine Xg.at_seq ?_
        refine Xg.at_region ?_
        refine Xg.ops_op (by kernel_rfl) (Xg.opx_pure (.bool (decide ((((↑X.length : Int)) : Int) < ((↑X.length : Int))))) rfl (fun _ => by kernel_rfl) ?_)
        refine Xg.ops_nil ?_
        refine Xg.at_seq ?_
        refine Xg.at_false (t := decide (((↑X.length : Int) < (↑X.length : Int)))) (by kernel_rfl) (decide_eq_false (by omega)) ?_
        refine Xg.at_exit rfl ?_
        refine Xg.at_draw [5, 6, 7, 10] [(4, [0, 1, 2, 3, 4, 5, 6], Xg.CellIs (xb2) (((0 : Nat))) ((Value.slice ca L.length cc)))] (by kernel_rfl) ?_
        refine Xg.any_pure ((pv xb2 0)) 0 (by kernel_rfl) rfl (by kernel_rfl) (by kernel_rfl) (by kernel_rfl) (by kernel_rfl) rfl (fun _ => by kernel_rfl) ?_
        refine Xg.any_pure ((pv xb2 0)) 1 (by kernel_rfl) rfl (by kernel_rfl) (by kernel_rfl) (by kernel_rfl) (by kernel_rfl) rfl (fun _ => by kernel_rfl) ?_
        refine Xg.any_pure ((pv xb2 0)) 2 (by kernel_rfl) rfl (by kernel_rfl) (by kernel_rfl) (by kernel_rfl) (by kernel_rfl) rfl (fun _ => by kernel_rfl) ?_
        refine Xg.any_pure ((pv xb2 0)) 3 (by kernel_rfl) rfl (by kernel_rfl) (by kernel_rfl) (by kernel_rfl) (by kernel_rfl) rfl (fun _ => by kernel_rfl) ?_
        refine Xg.any_reads (Value.slice ca L.length cc) 4 0 (by kernel_rfl) rfl (by kernel_rfl) (by kernel_rfl) (by kernel_rfl) (by kernel_rfl) rfl rfl (by kernel_rfl) (Xg.cell_now (b := xb2) (off := ((0 : Nat))) 2 rfl (by kernel_rfl)) (fun _ h => Xg.run_load (by kernel_rfl) (by kernel_rfl) h) ?_
        refine Xg.any_each [5] (by kernel_rfl) rfl ⟨?_, trivial⟩
        refine Xg.comes_act rfl (by kernel_rfl) (by kernel_rfl) (Xg.opx_loadn (off := 0) 3 0 [iv (ks.getD i default).fst, Value.slice xa X.length xc, Value.func (Fn.func (34 : Nat)) #[] #[]] (by kernel_rfl) rfl (by kernel_rfl) rfl (Xg.cells_at (by kernel_rfl)) (by kernel_rfl) ?_)
        refine Xg.acts (Xg.owes_cell 2 rfl (by kernel_rfl) Xg.owes_nil) ?_
        refine Xg.any_each [6] (by kernel_rfl) rfl ⟨?_, trivial⟩
        refine Xg.comes_act rfl (by kernel_rfl) (by kernel_rfl) (Xg.opx_bs (elem := 98) 3 [Value.agg #[iv (ks.getD i default).fst, Value.slice xa X.length xc, Value.func (Fn.func (34 : Nat)) #[] #[]]] [iv (ks.getD i default).fst, Value.slice xa X.length xc, Value.func (Fn.func (34 : Nat)) #[] #[]] (by kernel_rfl) (by kernel_rfl) (by decide) rfl (by kernel_rfl) (by kernel_rfl) (by kernel_rfl) (by kernel_rfl) fun xb5 => ?_)
        refine Xg.acts (Xg.owes_cell 3 rfl (by kernel_rfl) Xg.owes_nil) ?_
        refine Xg.any_each [7] (by kernel_rfl) rfl ⟨?_, trivial⟩
        refine Xg.comes_act rfl (by kernel_rfl) (by kernel_rfl) (Xg.opx_append_recs (elem := 98) (yv := (Value.slice (some (Addr.mk xb5 (0 : Nat) none)) (1 : Nat) (1 : Nat))) (l := L) 5 3 96 (Cls.mk (ks.getD i default).1 xa xc X) rfl (by kernel_rfl) (by kernel_rfl) (by kernel_rfl) (by kernel_rfl) (fun _ hS => Xg.row_rd hS 0 rfl (by kernel_rfl)) (by kernel_rfl) (by first | omega | (simp only [List.length_nil]; omega) | (simp; done) | (simp; omega)) (by first | omega | (simp only [List.length_nil]; omega) | (simp; done) | (simp; omega)) fun xa1 xc1 => ?_)
        have xl1 : ((L : (List Cls)) ++ ([(Cls.mk (ks.getD i default).1 xa xc X)] : (List Cls))).length = (L : (List Cls)).length + 1 := by simp
        refine Xg.acts (Xg.owes_skip (by kernel_rfl) Xg.owes_nil) ?_
        refine Xg.any_pure ((pv xb2 0)) 8 (by kernel_rfl) rfl (by kernel_rfl) (by kernel_rfl) (by kernel_rfl) (by kernel_rfl) rfl (fun _ => by kernel_rfl) ?_
        refine Xg.any_pure ((pv xb2 0)) 9 (by kernel_rfl) rfl (by kernel_rfl) (by kernel_rfl) (by kernel_rfl) (by kernel_rfl) rfl (fun _ => by kernel_rfl) ?_
        refine Xg.any_each [10] (by kernel_rfl) rfl ⟨?_, trivial⟩
        refine Xg.comes_act rfl (by kernel_rfl) (by kernel_rfl) (Xg.opx_store1 (off := 0) 3 (Value.slice xa1 (L ++ [Cls.mk (ks.getD i default).fst xa xc X]).length xc1) (by kernel_rfl) rfl (by kernel_rfl) (by kernel_rfl) (by kernel_rfl) (Nat.le_of_ble_eq_true (by kernel_rfl)) ?_)
        refine Xg.acts (Xg.owes_skip (by kernel_rfl) Xg.owes_nil) ?_
        refine Xg.any_nil (by kernel_rfl) ?_
        refine Xg.at_inBlock ?_
        refine Xg.at_region ?_
        refine Xg.ops_op (by kernel_rfl) (Xg.opx_int .i64 (IntKind.wrap .i64 (((↑i : Int) + (1 : Int)))) rfl (fun _ => by kernel_rfl) (Xg.wrap_i64_in (by omega)) ?_)
        refine Xg.ops_op (by kernel_rfl) (Xg.opx_pure ((iv ((↑i : Int) + (1 : Int)))) rfl (fun _ => by kernel_rfl) ?_)
        refine Xg.ops_nil ?_
        refine Xg.at_inLoop ?_)
      refine at_pick [2, 7, 3, 5, 4, 6, 8] rfl (at_starC_one (M := L) (x := ⟨(ks.getD i default).1, xa, xc, X⟩) ?_)
      (focus
        refine Xg.at_keep [1, 2, 3, 4, 0, 5] (by kernel_rfl) ?_
        refine Xs.same ?_ (fun J9 => ih (((i + 1, L ++ [⟨(ks.getD i default).1, xa, xc, X⟩], (xa1, xc1), (ba2, bc2), Bl2)), J9) ?_ ?_) (by kernel_rfl))
      · rfl
      · refine ⟨hlt, Lok_one hL _ rfl ?_, ?_⟩
        · rw [hmm, ← hB]; exact hX.symm
        · dsimp only
          rw [hB2, hB]
          show _ = bufL ks i ++ List.replicate (manyK ks i) ⟨i, nA, 0, 0⟩
          rw [hmm]
      · dsimp only; omega
  · obtain rfl : i = ks.length := by omega
    clear ih
    subst hB
    (focus
      refine Xg.at_seq ?_
      refine Xg.at_region ?_
      refine Xg.ops_op (by kernel_rfl) (Xg.opx_pure (.bool (decide ((((↑ks.length : Int)) : Int) < ((↑ks.length : Int))))) rfl (fun _ => by kernel_rfl) ?_)
      refine Xg.ops_nil ?_
      refine Xg.at_seq ?_
      refine Xg.at_false (t := decide (((↑ks.length : Int) < (↑ks.length : Int)))) (by kernel_rfl) (decide_eq_false (by omega)) ?_
      refine Xg.at_exit rfl ?_
      refine Xg.at_seq ?_
      refine Xg.at_region ?_
      refine Xg.ops_op (by kernel_rfl) (Xg.opx_pure ((pv xb2 0)) rfl (fun _ => by kernel_rfl) ?_)
      refine Xg.ops_op (by kernel_rfl) (Xg.opx_pure ((pv xb2 0)) rfl (fun _ => by kernel_rfl) ?_)
      refine Xg.ops_op (by kernel_rfl) (Xg.opx_pure ((iv 0)) rfl (fun _ => by kernel_rfl) ?_)
      refine Xg.ops_nil ?_
      refine Xg.at_ret_ps (v := (Value.tuple #[pv xb2 0, iv 0])) [0, 1, 2, 3, 4, 5] [row xb2 (94 : TypeId) [Value.slice ca L.length cc, Value.slice ba (bufL ks ks.length).length bc, Value.slice (some (Addr.mk ab (0 : Nat) none)) n n], recsO (98 : Nat) (3 : Nat) claK ca cc L, recsO (101 : Nat) (2 : Nat) bufK ba bc (bufL ks ks.length), row ab (102 : TypeId) (arr n fun (x : Nat) => Value.pointer none), starC L, A] Go.Proofs.Try.func14 (fun _ => by kernel_rfl) (by kernel_rfl) (by kernel_rfl) ?_
      refine ⟨((xb2, ab, (ca, cc), (ba, bc), L)), ?_, by kernel_rfl, by kernel_rfl⟩)
    exact hL
end Go.Proofs.Ytmplimmcjdkhlaa

/- The arena package: New makes a Pool. -/
namespace Go.Proofs.Ytmplimmcjdkhlaa
open Go.Sl Go.Xg
set_option linter.unusedVariables false
set_option linter.unusedSimpArgs false
set_option linter.unnecessarySimpa false
set_option maxHeartbeats 4000000
set_option maxRecDepth 100000

theorem map_getD {α : Type} (d : α) (l : List α) : (List.range l.length).map (fun i => l.getD i d) = l := by
  apply List.ext_getElem (by simp)
  intro i h1 h2
  simp [List.getD_eq_getElem?_getD, h2]
theorem star_emp {g w : World} {L : List HP} : ∀ (l : List Nat) (F : Nat → HP), (∀ i ∈ l, F i = Xg.emp) → SL g L w → SL g (seps (l.map F) :: L) w
  | [], F, _, h => SL.flat.2 h
  | x :: l, F, hF, h => by
    have h1 := star_emp l F (fun i hi => hF i (.tail _ hi)) h
    rw [List.map_cons, hF x (.head _)]
    exact SL.flat.2 (SL.emp_iff.2 (SL.flat.1 h1))
theorem own_row3 {g w : World} {L : List HP} {E sz n c : Nat} {a : Option Addr} {vs : List Value} (h : SL g (ownS E sz (.slice a n c) n vs :: L) w) (hn : n ≠ 0) :
    ∃ b sp, a = some ⟨b, 0, none⟩ ∧ SL g (row b E (vs ++ sp) :: L) w := by
  obtain ⟨hl, ⟨_, h0, _⟩ | ⟨b, cap, sp, h1, h2, h3, h4, h5⟩⟩ := h.own_cases
  · exact absurd h0 hn
  · cases h1; exact ⟨b, sp, rfl, h5⟩
def newσ (ks : List (Int × Int)) (n : Nat) : Po := { nc := ks.length, size := fun k => (ks.getD k default).1.toNat, fr := fun k => iotaN (bufL ks k).length (manyK ks k), nb := (bufL ks ks.length).length, cl := fun b => ((bufL ks ks.length).getD b default).cls, bs := fun _ => none, na := n, ar := fun _ => none }
theorem newS (A : HP) (a : Option Addr) (c : Nat) (ks : List (Int × Int)) (hR : Reads A 2 (.slice a ks.length c) ks.length (recs kC ks)) (hk : Kok ks) (n : Nat) (h1 : 1 ≤ n) (h64 : n ≤ 64) (h0 : (bufL ks ks.length).length ≠ 0) : Does Try.prog 14 [.agg #[.slice a ks.length c, .int .i64 (n : Nat)]] [A]
    (RetE (fun p : Nat => True) (fun p => .tuple #[.pointer (some ⟨p, 0, none⟩), .int .i64 0]) (fun p => [PoolS p (newσ ks n), A])) := by
  refine does_conv (K := []) (newL A a c ks hR hk n h1 h64) (fun g w F hS => hS) fun x hx g w F hS => ⟨x.1, trivial, rfl, ?_⟩
  obtain ⟨p, ab, ⟨ca, cc⟩, ⟨ba, bc⟩, L⟩ := x
  dsimp only at hS hx ⊢
  obtain ⟨hl, hx⟩ := hx
  have h2 : SL g (recsO 98 3 claK ca cc L :: _) w := hS.pull 1
  obtain ⟨cb, sp, rfl, h3⟩ := own_row3 h2 (by rw [hl]; have := hk.1; omega)
  have h4 : SL g (recsO 101 2 bufK ba bc (bufL ks ks.length) :: _) w := h3.pull 2
  obtain ⟨bb, sq, rfl, h5⟩ := own_row3 h4 h0
  have e1 : recs claK L ++ sp = claR ks.length sp (fun k => L.getD k default) := by
    unfold claR; rw [rowF_eq]; dsimp only; rw [← hl, map_getD]
  have e2 : recs bufK (bufL ks ks.length) ++ sq = bufR (bufL ks ks.length).length sq (fun b => (bufL ks ks.length).getD b default) := by
    unfold bufR; rw [rowF_eq]; dsimp only; rw [map_getD]
  have e3 : starC L = S0 (fun k => L.getD k default) ks.length := by
    unfold starC S0 starN
    conv => lhs; rw [← map_getD default L, List.map_map]
    rw [← hl]; rfl
  rw [e1, e2, e3] at h5
  have h6 : SL g (S1 (fun _ => none) (fun b => (bufL ks ks.length).getD b default) (bufL ks ks.length).length :: S2 (fun _ => none) (fun _ => none) (fun _ => (none, 0)) n :: _) w := star_emp _ _ (fun _ _ => rfl) (star_emp _ _ (fun _ _ => rfl) h5)
  rw [hl] at h6
  exact pools_shut (σ := newσ ks n) (PAd.mk cb cc bb bc ab sp sq (fun k => L.getD k default) (fun b => (bufL ks ks.length).getD b default) (fun _ => none) (fun _ => (none, 0)) (fun k hk2 => by
    obtain ⟨f1, f2⟩ := hx k hk2
    have f3 := (hk.2.2.1 k hk2).1
    have f4 := prevK_nn hk k (Nat.le_of_lt hk2)
    refine ⟨?_, f2⟩
    rw [f1]
    show _ = (((ks.getD k default).1.toNat : Nat) : Int)
    omega) (fun b hb => rfl) (fun b l hb hl2 => by cases hl2) (fun i hi => rfl)) (sl_ord [4, 3, 2, 5, 6, 0, 1, 7] 8 rfl h6)
end Go.Proofs.Ytmplimmcjdkhlaa

/- The arena laws, plain: what holds of a Pool at any time. -/
namespace Go.Proofs.Ytmplimmcjdkhlaa
open Go.Sl Go.Xg
set_option linter.unusedVariables false
set_option linter.unusedSimpArgs false
set_option linter.unusedSectionVars false
set_option linter.unnecessarySimpa false
set_option maxHeartbeats 4000000
set_option maxRecDepth 100000

def tkA (o : Option Ar) : List Int := match o with
  | some r => r.tk
  | none => []
def catN (n : Nat) (f : Nat → List Int) : List Int := (List.range n).flatMap f
def Po.all (σ : Po) : List Int := catN σ.nc σ.fr ++ catN σ.na fun i => tkA (σ.ar i)
def sumZ (σ : Po) (l : List Int) : Int := (l.map fun x => (σ.size (σ.cl x.toNat) : Int)).sum
structure Pinv (σ : Po) : Prop where
  na : σ.na ≤ 64
  nb : σ.nb ≤ 5000
  nc : σ.nc ≤ 8
  sz : ∀ k, k < σ.nc → 1 ≤ σ.size k ∧ σ.size k ≤ 65536
  cl : ∀ b, b < σ.nb → σ.cl b < σ.nc
  all : σ.all.Perm (iotaN 0 σ.nb)
  fs : ∀ k, (σ.fr k).Pairwise (· ≤ ·)
  fn : ∀ k, σ.nc ≤ k → σ.fr k = []
  fc : ∀ k x, x ∈ σ.fr k → σ.cl x.toNat = k
  fb : ∀ k x, x ∈ σ.fr k → σ.bs x.toNat = none
  an : ∀ i, σ.na ≤ i → σ.ar i = none
  au : ∀ i r, σ.ar i = some r → r.us = sumZ σ r.tk ∧ 0 ≤ r.q ∧ r.q ≤ 1000000 ∧ r.us ≤ r.q
  ab : ∀ i r x, σ.ar i = some r → x ∈ r.tk → ∃ l, σ.bs x.toNat = some l ∧ l.length = σ.size (σ.cl x.toNat)

theorem catN_split {n k : Nat} (f : Nat → List Int) (hk : k < n) : ∃ R, ∀ y, (catN n (updF f k y)).Perm (y ++ R) := by
  refine ⟨(List.range k).flatMap f ++ ((List.range n).drop (k + 1)).flatMap f, fun y => ?_⟩
  have h : catN n (updF f k y) = (List.range k).flatMap f ++ (y ++ ((List.range n).drop (k + 1)).flatMap f) := by
    unfold catN
    rw [List.flatMap_def, range_split n k hk, updF_same, List.flatten_append, List.flatten_cons]
    congr 1
    · rw [List.flatMap_def]
      congr 1
      exact List.map_congr_left fun j hj => updF_ne f y (by have := List.mem_range.1 hj; omega)
    · congr 1
      rw [List.flatMap_def]
      congr 1
      refine List.map_congr_left fun j hj => updF_ne f y ?_
      obtain ⟨i, hi, e⟩ := List.getElem_of_mem hj
      rw [List.getElem_drop, List.getElem_range] at e
      omega
  rw [h]
  generalize (List.range k).flatMap f = A
  generalize ((List.range n).drop (k + 1)).flatMap f = B
  exact (List.perm_append_comm_assoc _ _ _)
theorem catN_cur {n k : Nat} (f : Nat → List Int) (hk : k < n) : ∃ R, (catN n f).Perm (f k ++ R) ∧ ∀ y, (catN n (updF f k y)).Perm (y ++ R) := by
  obtain ⟨R, h⟩ := catN_split f hk
  refine ⟨R, ?_, h⟩
  have := h (f k)
  rwa [updF_self] at this
theorem iotaN_nodup (b n : Nat) : (iotaN b n).Nodup := by
  unfold iotaN
  refine List.Pairwise.map _ ?_ (List.pairwise_lt_range (n := n))
  intro a c hac
  omega
section
variable {σ : Po} (h : Pinv σ)
include h
theorem Pinv.all_fr {k : Nat} {x : Int} (hx : x ∈ σ.fr k) : k < σ.nc ∧ x ∈ σ.all := by
  have hk : k < σ.nc := by
    by_cases e : k < σ.nc
    · exact e
    · rw [h.fn k (by omega)] at hx; cases hx
  exact ⟨hk, List.mem_append_left _ (List.mem_flatMap.2 ⟨k, List.mem_range.2 hk, hx⟩)⟩
theorem Pinv.all_tk {i : Nat} {r : Ar} (hr : σ.ar i = some r) {x : Int} (hx : x ∈ r.tk) : i < σ.na ∧ x ∈ σ.all := by
  have hi : i < σ.na := by
    by_cases e : i < σ.na
    · exact e
    · rw [h.an i (by omega)] at hr; cases hr
  refine ⟨hi, List.mem_append_right _ (List.mem_flatMap.2 ⟨i, List.mem_range.2 hi, ?_⟩)⟩
  rw [hr]; exact hx
theorem Pinv.rng {x : Int} (hx : x ∈ σ.all) : 0 ≤ x ∧ x < σ.nb := by
  have := (iotaN_mem 0 σ.nb x).1 (h.all.mem_iff.1 hx)
  omega
theorem Pinv.fr_rng {k : Nat} {x : Int} (hx : x ∈ σ.fr k) : k < σ.nc ∧ 0 ≤ x ∧ x < σ.nb := ⟨(h.all_fr hx).1, h.rng (h.all_fr hx).2⟩
theorem Pinv.tk_rng {i : Nat} {r : Ar} (hr : σ.ar i = some r) {x : Int} (hx : x ∈ r.tk) : i < σ.na ∧ 0 ≤ x ∧ x < σ.nb := ⟨(h.all_tk hr hx).1, h.rng (h.all_tk hr hx).2⟩
/-- Free lists, an arena, and the rest. -/
theorem Pinv.split {k i : Nat} (hk : k < σ.nc) (hi : i < σ.na) : ∃ R, σ.all.Perm (σ.fr k ++ (tkA (σ.ar i) ++ R)) ∧ ∀ y o, (catN σ.nc (updF σ.fr k y) ++ catN σ.na fun j => tkA (updF σ.ar i o j)).Perm (y ++ (tkA o ++ R)) := by
  obtain ⟨R1, a1, a2⟩ := catN_cur σ.fr hk
  obtain ⟨R2, b1, b2⟩ := catN_cur (fun j => tkA (σ.ar j)) hi
  refine ⟨R1 ++ R2, ?_, fun y o => ?_⟩
  · refine (a1.append b1).trans ?_
    rw [List.append_assoc]
    exact List.Perm.append_left _ (List.perm_append_comm_assoc _ _ _)
  · have e : (fun j => tkA (updF σ.ar i o j)) = updF (fun j => tkA (σ.ar j)) i (tkA o) := by
      funext j; unfold updF; split <;> rfl
    rw [e]
    refine ((a2 y).append (b2 (tkA o))).trans ?_
    rw [List.append_assoc]
    exact List.Perm.append_left _ (List.perm_append_comm_assoc _ _ _)
theorem Pinv.nodup : σ.all.Nodup := (h.all.nodup_iff).2 (iotaN_nodup 0 σ.nb)
theorem Pinv.apart {k i : Nat} {r : Ar} (hr : σ.ar i = some r) {x : Int} (h1 : x ∈ σ.fr k) (h2 : x ∈ r.tk) : False := by
  have hk := (h.all_fr h1).1
  have hi := (h.all_tk hr h2).1
  obtain ⟨R, e, _⟩ := h.split hk hi
  have hn := (e.nodup_iff).1 h.nodup
  rw [hr] at hn
  exact (List.nodup_append.1 hn).2.2 x h1 x (List.mem_append_left _ h2) rfl
theorem Pinv.tk_nodup {i : Nat} {r : Ar} (hr : σ.ar i = some r) (hnc : 0 < σ.nc) : r.tk.Nodup ∧ r.tk.length ≤ σ.nb := by
  by_cases hi : i < σ.na
  · obtain ⟨R, e, _⟩ := h.split hnc hi
    have hn := (e.nodup_iff).1 h.nodup
    have hl := (e.symm.trans h.all).length_eq
    rw [hr] at hn hl
    rw [List.length_append, List.length_append, iotaN_len] at hl
    refine ⟨(List.nodup_append.1 (List.nodup_append.1 hn).2.1).1, ?_⟩
    show r.tk.length ≤ _
    have : (tkA (some r)).length = r.tk.length := rfl
    omega
  · rw [h.an i (by omega)] at hr; cases hr
theorem Pinv.fr_len (k : Nat) (hna : 0 < σ.na) : (σ.fr k).length ≤ σ.nb := by
  by_cases hk : k < σ.nc
  · obtain ⟨R, e, _⟩ := h.split hk hna
    have hl := (e.symm.trans h.all).length_eq
    rw [List.length_append, iotaN_len] at hl
    omega
  · rw [h.fn k (by omega)]; exact Nat.zero_le _
/-- Two arenas have nothing in common. -/
theorem Pinv.others {i j : Nat} {r s : Ar} (hr : σ.ar i = some r) (hs : σ.ar j = some s) {x : Int} (h1 : x ∈ r.tk) (h2 : x ∈ s.tk) : i = j := by
  by_cases hij : i = j
  · exact hij
  · exfalso
    have hi := (h.all_tk hr h1).1
    have hj := (h.all_tk hs h2).1
    have hn : (catN σ.na fun i => tkA (σ.ar i)).Nodup := (List.nodup_append.1 h.nodup).2.1
    obtain ⟨R1, b1, b2⟩ := catN_cur (fun j => tkA (σ.ar j)) hi
    have hn1 := (b1.nodup_iff).1 hn
    have hx : x ∈ R1 := by
      have h3 := (b2 []).mem_iff (a := x)
      refine h3.1 (List.mem_flatMap.2 ⟨j, List.mem_range.2 hj, ?_⟩)
      rw [updF_ne _ _ (Ne.symm hij), hs]
      exact h2
    rw [hr] at hn1
    exact (List.nodup_append.1 hn1).2.2 x h1 x hx rfl
end
theorem erase_perm (l : List Int) (i : Nat) (h : i < l.length) : l.Perm (l.getD i 0 :: l.eraseIdx i) := by
  have e : l = l.take i ++ l.getD i 0 :: l.drop (i + 1) := by
    conv => lhs; rw [← List.take_append_drop i l]
    rw [List.drop_eq_getElem_cons h, List.getD_eq_getElem?_getD, List.getElem?_eq_getElem h]; rfl
  rw [List.eraseIdx_eq_take_drop_succ]
  conv => lhs; rw [e]
  exact List.perm_middle
theorem sins_perm (v : Int) (l : List Int) : (sins v l).Perm (v :: l) := by
  unfold sins
  refine List.perm_middle.trans ?_
  rw [List.takeWhile_append_dropWhile]
theorem sumZ_app (σ : Po) (l m : List Int) : sumZ σ (l ++ m) = sumZ σ l + sumZ σ m := by
  unfold sumZ; rw [List.map_append, List.sum_append]
theorem sumZ_perm (σ : Po) {l m : List Int} (h : l.Perm m) : sumZ σ l = sumZ σ m := by
  unfold sumZ
  induction h with
  | nil => rfl
  | cons x _ ih => simp only [List.map_cons, List.sum_cons, ih]
  | swap x y l => simp only [List.map_cons, List.sum_cons]; omega
  | trans _ _ h1 h2 => exact h1.trans h2
theorem sumZ_cons (σ : Po) (x : Int) (l : List Int) : sumZ σ (x :: l) = σ.size (σ.cl x.toNat) + sumZ σ l := by
  unfold sumZ; simp
theorem sumZ_nn (σ : Po) (l : List Int) : 0 ≤ sumZ σ l := by
  induction l with
  | nil => simp [sumZ]
  | cons x l ih => rw [sumZ_cons]; omega
end Go.Proofs.Ytmplimmcjdkhlaa

/- The arena laws, plain: what each call leaves of it. -/
namespace Go.Proofs.Ytmplimmcjdkhlaa
open Go.Sl Go.Xg
set_option linter.unusedVariables false
set_option linter.unusedSimpArgs false
set_option linter.unusedSectionVars false
set_option linter.unnecessarySimpa false
set_option maxHeartbeats 4000000
set_option maxRecDepth 100000

section
variable {σ : Po} (h : Pinv σ) {id : Nat} {r : Ar} (hr : σ.ar id = some r)
include h hr
theorem Pinv.take {k i v : Nat} (hk : k < σ.nc) (hi : i < (σ.fr k).length) (hv : (σ.fr k).getD i 0 = (v : Nat)) (hq : (σ.size k : Int) ≤ r.q - r.us) : Pinv (takeσ σ id r k i v) := by
  have hid : id < σ.na := by
    by_cases e : id < σ.na
    · exact e
    · rw [h.an id (by omega)] at hr; cases hr
  have hvm : ((v : Nat) : Int) ∈ σ.fr k := by
    rw [← hv, List.getD_eq_getElem?_getD, List.getElem?_eq_getElem hi]
    exact List.getElem_mem hi
  have hcl : σ.cl v = k := by have := h.fc k _ hvm; rwa [Int.toNat_natCast] at this
  have hall : (takeσ σ id r k i v).all.Perm (iotaN 0 σ.nb) := by
    obtain ⟨R, e1, e2⟩ := h.split hk hid
    refine (e2 _ _).trans (List.Perm.trans ?_ (e1.symm.trans h.all))
    rw [hr]
    show ((σ.fr k).eraseIdx i ++ ((r.tk ++ [(v : Int)]) ++ R)).Perm (σ.fr k ++ (r.tk ++ R))
    have hp := erase_perm (σ.fr k) i hi
    rw [hv] at hp
    refine List.Perm.trans ?_ (hp.symm.append_right _)
    rw [List.append_assoc, List.singleton_append, List.cons_append]
    refine List.Perm.trans (List.Perm.append_left _ List.perm_middle) List.perm_middle
  have hmem : ∀ j x, x ∈ (takeσ σ id r k i v).fr j → x ∈ σ.fr j := fun j x hx => by
    unfold takeσ updF at hx
    dsimp only at hx
    split at hx
    · rename_i e; rw [e]; exact List.mem_of_mem_eraseIdx hx
    · exact hx
  refine { na := h.na, nb := h.nb, nc := h.nc, sz := h.sz, cl := h.cl, all := hall, fs := fun j => ?_, fn := fun j hj => ?_, fc := fun j x hx => h.fc j x (hmem j x hx), fb := fun j x hx => ?_, an := fun j hj => ?_, au := fun j s hs => ?_, ab := fun j s x hs hx => ?_ }
  · unfold takeσ updF
    dsimp only
    split
    · exact (h.fs k).sublist (List.eraseIdx_sublist _ _)
    · exact h.fs j
  · unfold takeσ updF
    dsimp only
    rw [if_neg (by have : σ.nc ≤ j := hj; omega)]
    exact h.fn j hj
  · have h1 := h.fr_rng (hmem j x hx)
    have hne : x.toNat ≠ v := fun e => by
      have hxv : x = (v : Int) := by omega
      obtain ⟨R, e1, e2⟩ := h.split hk hid
      have hjk : j = k := by rw [← h.fc j x (hmem j x hx), e]; exact hcl
      subst hjk
      subst hxv
      have hn := (((e2 ((σ.fr j).eraseIdx i) (some ⟨r.q, r.us + σ.size j, r.tk ++ [(v : Int)]⟩)).symm.trans hall).nodup_iff).2 (iotaN_nodup 0 σ.nb)
      have hx2 : (v : Int) ∈ (σ.fr j).eraseIdx i := by
        unfold takeσ at hx
        dsimp only at hx
        rwa [updF_same] at hx
      exact (List.nodup_append.1 hn).2.2 _ hx2 _ (List.mem_append_left _ (List.mem_append_right _ (.head _))) rfl
    unfold takeσ
    dsimp only
    rw [updF_ne _ _ hne]
    exact h.fb j x (hmem j x hx)
  · unfold takeσ updF
    dsimp only
    rw [if_neg (by have : σ.na ≤ j := hj; omega)]
    exact h.an j hj
  · unfold takeσ updF at hs
    dsimp only at hs
    obtain ⟨u1, u2, u3, u4⟩ := h.au id r hr
    split at hs
    · cases hs
      refine ⟨?_, u2, u3, by dsimp only; omega⟩
      show r.us + σ.size k = sumZ σ (r.tk ++ [(v : Int)])
      rw [sumZ_app, u1]
      unfold sumZ
      simp [hcl]
    · exact h.au j s hs
  · have key : ∀ x : Int, (x.toNat = v ∨ ∃ l, σ.bs x.toNat = some l ∧ l.length = σ.size (σ.cl x.toNat)) → ∃ l, (takeσ σ id r k i v).bs x.toNat = some l ∧ l.length = (takeσ σ id r k i v).size ((takeσ σ id r k i v).cl x.toNat) := fun x hx => by
      unfold takeσ
      dsimp only
      by_cases e : x.toNat = v
      · rw [e, updF_same]
        exact ⟨_, rfl, by rw [List.length_replicate, hcl]⟩
      · rw [updF_ne _ _ e]
        rcases hx with hx | hx
        · exact absurd hx e
        · exact hx
    unfold takeσ updF at hs
    dsimp only at hs
    split at hs
    · cases hs
      rcases List.mem_append.1 hx with hx | hx
      · exact key x (.inr (h.ab id r x hr hx))
      · have : x = (v : Int) := by simpa using hx
        exact key x (.inl (by omega))
    · exact key x (.inr (h.ab j s x hs hx))
theorem Pinv.give {b i : Nat} (hi : i < r.tk.length) (hb : r.tk.getD i 0 = (b : Nat)) : Pinv (giveσ σ id r b i) := by
  have hbm : ((b : Nat) : Int) ∈ r.tk := by
    rw [← hb, List.getD_eq_getElem?_getD, List.getElem?_eq_getElem hi]
    exact List.getElem_mem hi
  obtain ⟨hid, hb0, hbn⟩ := h.tk_rng hr hbm
  have hbn : b < σ.nb := by omega
  obtain ⟨k, hk⟩ : ∃ k, σ.cl b = k := ⟨_, rfl⟩
  have hkn : k < σ.nc := by rw [← hk]; exact h.cl b hbn
  have eg : giveσ σ id r b i = { σ with fr := updF σ.fr k (sins b (σ.fr k)), bs := updF σ.bs b none, ar := updF σ.ar id (some ⟨r.q, r.us - σ.size k, r.tk.eraseIdx i⟩) } := by unfold giveσ; rw [hk]
  rw [eg]
  have hp := erase_perm r.tk i hi
  rw [hb] at hp
  have hall : ({ σ with fr := updF σ.fr k (sins b (σ.fr k)), bs := updF σ.bs b none, ar := updF σ.ar id (some ⟨r.q, r.us - σ.size k, r.tk.eraseIdx i⟩) } : Po).all.Perm (iotaN 0 σ.nb) := by
    obtain ⟨R, e1, e2⟩ := h.split hkn hid
    refine (e2 _ _).trans (List.Perm.trans ?_ (e1.symm.trans h.all))
    rw [hr]
    show (sins b (σ.fr k) ++ (r.tk.eraseIdx i ++ R)).Perm (σ.fr k ++ (r.tk ++ R))
    refine ((sins_perm _ _).append_right _).trans ?_
    rw [List.cons_append]
    refine List.Perm.trans List.perm_middle.symm (List.Perm.append_left _ ?_)
    rw [← List.cons_append]
    exact hp.symm.append_right _
  have hmem : ∀ j x, x ∈ updF σ.fr k (sins b (σ.fr k)) j → (x = (b : Int) ∧ j = k) ∨ x ∈ σ.fr j := fun j x hx => by
    unfold updF at hx
    split at hx
    · rename_i e
      rcases sins_mem.1 hx with h1 | h1
      · exact .inl ⟨h1, e⟩
      · rw [e]; exact .inr h1
    · exact .inr hx
  refine { na := h.na, nb := h.nb, nc := h.nc, sz := h.sz, cl := h.cl, all := hall, fs := fun j => ?_, fn := fun j hj => ?_, fc := fun j x hx => ?_, fb := fun j x hx => ?_, an := fun j hj => ?_, au := fun j s hs => ?_, ab := fun j s x hs hx => ?_ }
  · show (updF σ.fr k (sins b (σ.fr k)) j).Pairwise _
    unfold updF
    split
    · exact sins_sorted (h.fs k)
    · exact h.fs j
  · show updF σ.fr k (sins b (σ.fr k)) j = []
    rw [updF_ne _ _ (by have : σ.nc ≤ j := hj; omega)]
    exact h.fn j hj
  · rcases hmem j x hx with ⟨e1, e2⟩ | h1
    · show σ.cl x.toNat = j
      rw [e1, e2, Int.toNat_natCast, hk]
    · exact h.fc j x h1
  · show updF σ.bs b none x.toNat = none
    unfold updF
    split
    · rfl
    · rename_i e
      rcases hmem j x hx with ⟨e1, e2⟩ | h1
      · exact absurd (by rw [e1, Int.toNat_natCast]) e
      · exact h.fb j x h1
  · show updF σ.ar id _ j = none
    rw [updF_ne _ _ (by have : σ.na ≤ j := hj; omega)]
    exact h.an j hj
  · have hs : updF σ.ar id (some ⟨r.q, r.us - σ.size k, r.tk.eraseIdx i⟩) j = some s := hs
    obtain ⟨u1, u2, u3, u4⟩ := h.au id r hr
    unfold updF at hs
    split at hs
    · cases hs
      refine ⟨?_, u2, u3, by dsimp only; omega⟩
      show r.us - σ.size k = sumZ σ (r.tk.eraseIdx i)
      have := sumZ_perm σ hp
      rw [sumZ_cons, Int.toNat_natCast, hk] at this
      omega
    · exact h.au j s hs
  · have hs0 := hs
    have hs : updF σ.ar id (some ⟨r.q, r.us - σ.size k, r.tk.eraseIdx i⟩) j = some s := hs
    have hxo : x ≠ (b : Int) ∧ ∃ s', σ.ar j = some s' ∧ x ∈ s'.tk := by
      unfold updF at hs
      split at hs
      · rename_i e
        cases hs
        refine ⟨fun e1 => ?_, r, by rw [e]; exact hr, List.mem_of_mem_eraseIdx hx⟩
        subst e1
        have hn := (hp.nodup_iff).1 (h.tk_nodup hr (by omega)).1
        exact (List.nodup_cons.1 hn).1 hx
      · rename_i e
        exact ⟨fun e1 => e (h.others hs hr hx (by rw [e1]; exact hbm)), s, hs, hx⟩
    obtain ⟨hne, s', hs1, hx1⟩ := hxo
    obtain ⟨l, hl1, hl2⟩ := h.ab j s' x hs1 hx1
    have hx0 := h.tk_rng hs1 hx1
    refine ⟨l, ?_, hl2⟩
    show updF σ.bs b none x.toNat = some l
    rw [updF_ne _ _ (by omega)]
    exact hl1
omit hr in
theorem Pinv.store {b : Nat} {l : List Int} {m : List Int} (hm : σ.bs b = some m) (hl : l.length = m.length) : Pinv (storeσ σ b l) := by
  refine { na := h.na, nb := h.nb, nc := h.nc, sz := h.sz, cl := h.cl, all := h.all, fs := h.fs, fn := h.fn, fc := h.fc, fb := fun j x hx => ?_, an := h.an, au := h.au, ab := fun j s x hs hx => ?_ }
  · show updF σ.bs b (some l) x.toNat = none
    have h1 := h.fb j x hx
    have hne : x.toNat ≠ b := fun e => by rw [e, hm] at h1; cases h1
    rw [updF_ne _ _ hne]; exact h1
  · obtain ⟨l', h1, h2⟩ := h.ab j s x hs hx
    show ∃ l', updF σ.bs b (some l) x.toNat = some l' ∧ l'.length = σ.size (σ.cl x.toNat)
    unfold updF
    split
    · rename_i e
      rw [e, hm] at h1
      cases h1
      exact ⟨l, rfl, by rw [hl, h2]⟩
    · exact ⟨l', h1, h2⟩
omit hr in
theorem Pinv.opens (hid : id < σ.na) (hno : σ.ar id = none) {q : Int} (hq : 0 ≤ q ∧ q ≤ 1000000) : Pinv (openσ σ id q) := by
  have e : (fun i => tkA (updF σ.ar id (some ⟨q, 0, []⟩) i)) = fun i => tkA (σ.ar i) := by
    funext i; unfold updF; split
    · rename_i e; rw [e, hno]; rfl
    · rfl
  refine { na := h.na, nb := h.nb, nc := h.nc, sz := h.sz, cl := h.cl, all := ?_, fs := h.fs, fn := h.fn, fc := h.fc, fb := h.fb, an := fun j hj => ?_, au := fun j s hs => ?_, ab := fun j s x hs hx => ?_ }
  · show (catN σ.nc σ.fr ++ catN σ.na fun i => tkA (updF σ.ar id (some ⟨q, 0, []⟩) i)).Perm _
    rw [e]; exact h.all
  · show updF σ.ar id _ j = none
    rw [updF_ne _ _ (by have : σ.na ≤ j := hj; omega)]
    exact h.an j hj
  · have hs : updF σ.ar id (some ⟨q, 0, []⟩) j = some s := hs
    unfold updF at hs
    split at hs
    · cases hs
      exact ⟨rfl, hq.1, hq.2, hq.1⟩
    · exact h.au j s hs
  · have hs : updF σ.ar id (some ⟨q, 0, []⟩) j = some s := hs
    unfold updF at hs
    split at hs
    · cases hs; cases hx
    · exact h.ab j s x hs hx
end
end Go.Proofs.Ytmplimmcjdkhlaa

/- The arena package, any Pool: Take refused by the quota, by an empty class. -/
namespace Go.Proofs.Ytmplimmcjdkhlaa
open Go.Sl Go.Xg
set_option linter.unusedVariables false
set_option linter.unusedSimpArgs false
set_option linter.unnecessarySimpa false
set_option maxHeartbeats 4000000
set_option maxRecDepth 100000


section
variable (p cb nc cc bb nb bc ab na : Nat) (u : Nat → Option Nat) (id r : Nat) (hid : id < na) (hna : na ≤ 64) (hu : u id = some r) (sp : List Value) (C : Nat → Cls) (q us : Int) (ta : Option Addr) (tl tc : Nat)
include hid hna hu
theorem takeQG (hnc : nc ≤ 100) (size pk : Int) (k z : Nat) (hk : k < nc) (hs0 : 1 ≤ size) (hs : size ≤ (C k).size) (hj : ∀ j, j < k → (C j).size < size) (hz : (C k).size = (z : Nat)) (hz1 : z ≤ 65536) (hq : q - us < z) (hq1 : 0 ≤ us ∧ us ≤ 1000000000000 ∧ 0 ≤ q ∧ q ≤ 1000000000000) :
    Does Try.prog 17 [.pointer (some ⟨p, 0, none⟩), .int .i64 (id : Nat), .int .i64 size, .int .i64 pk] [HG p cb nc cc bb nb bc ab na, PtP ab na u, CG cb nc sp C, R2 r q us ta tl tc]
    (Ret (.tuple #[.agg #[.int .i64 0, .int .i64 0, .int .i64 0], .int .i64 92]) [HG p cb nc cc bb nb bc ab na, PtP ab na u, CG cb nc sp C, R2 r q us ta tl tc]) := by
  have ho := of_some p ab na id r (.slice (some ⟨cb, 0, none⟩) nc cc) (.slice (some ⟨bb, 0, none⟩) nb bc) u hid hna hu
  have hx := fun b => idxG b cb nc cc sp C size k hk hnc hs hj
  (focus
    refine Xg.spec_of Go.Proofs.Try.func17 rfl Go.Proofs.Try.ntmps17 fun g F => ?_)
  (focus
    refine Xg.at_seq ?_
    refine Xg.at_region ?_
    refine Xg.ops_op (by kernel_rfl) (Xg.opx_box (v := (iv size)) [(iv size)] (by kernel_rfl) (by kernel_rfl) fun xb1 => ?_)
    refine Xg.ops_op (by kernel_rfl) (Xg.opx_new 3 [iv 0, iv 0, iv 0] (by kernel_rfl) (by kernel_rfl) fun xb2 => ?_)
    refine Xg.ops_op (by kernel_rfl) (Xg.opx_pure ((iv 0)) rfl (fun _ => by kernel_rfl) ?_)
    refine Xg.ops_nil ?_
    refine Xg.at_seq ?_
    refine Xg.at_region ?_
    refine Xg.ops_op (by kernel_rfl) (Xg.opx_pure ((pv p 0)) rfl (fun _ => by kernel_rfl) ?_)
    refine Xg.ops_op (by kernel_rfl) (Xg.opx_pure ((iv (↑id : Int))) rfl (fun _ => by kernel_rfl) ?_)
    refine Xg.ops_op (by kernel_rfl) (Xg.opx_call1' [2, 3] [HdP p ab na (Value.slice (some (Addr.mk cb (0 : Nat) none)) nc cc) (Value.slice (some (Addr.mk bb (0 : Nat) none)) nb bc), PtP ab na u, row xb2 (42 : Nat) [iv 0, iv 0, iv 0], row xb1 (3 : Nat) [iv size], CG cb nc sp C, R2 r q us ta tl tc] (fun _ => by kernel_rfl) (@ho ) (by kernel_rfl) (by kernel_rfl) (by kernel_rfl) ?_)
    refine Xg.ops_op (by kernel_rfl) (Xg.opx_pure ((pv r 0)) rfl (fun _ => by kernel_rfl) ?_)
    refine Xg.ops_nil ?_
    refine Xg.at_seq ?_
    refine Xg.at_seq ?_
    refine Xg.at_region ?_
    refine Xg.ops_op (by kernel_rfl) (Xg.opx_pure ((pv r 0)) rfl (fun _ => by kernel_rfl) ?_)
    refine Xg.ops_op (by kernel_rfl) (Xg.opx_pure ((Value.bool false)) rfl (fun _ => by kernel_rfl) ?_)
    refine Xg.ops_nil ?_
    refine Xg.at_false (t := false) (by kernel_rfl) rfl ?_
    refine Xg.at_skip ?_
    refine Xg.at_seq ?_
    refine Xg.at_region ?_
    refine Xg.ops_op (by kernel_rfl) (Xg.opx_pure ((pv p 0)) rfl (fun _ => by kernel_rfl) ?_)
    refine Xg.ops_op (by kernel_rfl) (Xg.opx_pure ((pv p 0)) rfl (fun _ => by kernel_rfl) ?_)
    refine Xg.ops_op (by kernel_rfl) (Xg.opx_pure ((pv p 0)) rfl (fun _ => by kernel_rfl) ?_)
    refine Xg.ops_op (by kernel_rfl) (Xg.opx_load (b := p) (off := ((0 : Nat))) 0 (Value.slice (some (Addr.mk cb (0 : Nat) none)) nc cc) rfl (by kernel_rfl) (by kernel_rfl) (by kernel_rfl) ?_)
    refine Xg.ops_op (by kernel_rfl) (Xg.opx_pure ((Value.func (Fn.func (40 : Nat)) #[] #[pv xb1 0])) rfl (fun _ => by kernel_rfl) ?_)
    refine Xg.ops_op (by kernel_rfl) (Xg.opx_call1' [4, 3] [CG cb nc sp C, row xb1 (3 : TypeId) [iv size], HdP p ab na (Value.slice (some (Addr.mk cb (0 : Nat) none)) nc cc) (Value.slice (some (Addr.mk bb (0 : Nat) none)) nb bc), PtP ab na u, row xb2 (42 : Nat) [iv 0, iv 0, iv 0], R2 r q us ta tl tc] (fun _ => by kernel_rfl) (@hx (xb1)) (by kernel_rfl) (by kernel_rfl) (by kernel_rfl) ?_)
    refine Xg.ops_op (by kernel_rfl) (Xg.opx_pure ((iv (↑k : Int))) rfl (fun _ => by kernel_rfl) ?_)
    refine Xg.ops_nil ?_
    refine Xg.at_seq ?_
    refine Xg.at_seq ?_
    refine Xg.at_region ?_
    refine Xg.ops_op (by kernel_rfl) (Xg.opx_load (b := xb1) (off := ((0 : Nat))) 1 (iv size) rfl (by kernel_rfl) (by kernel_rfl) (by kernel_rfl) ?_)
    refine Xg.ops_op (by kernel_rfl) (Xg.opx_pure (.bool (decide ((size : Int) < ((1 : Int))))) rfl (fun _ => by kernel_rfl) ?_)
    refine Xg.ops_op (by kernel_rfl) (Xg.opx_pure ((Value.bool (decide (size < (1 : Int))))) rfl (fun _ => by kernel_rfl) ?_)
    refine Xg.ops_flag (j := 29) (c := (decide (size < (1 : Int)))) (by kernel_rfl) (fun xh1 => absurd (of_decide_eq_true xh1) (by omega)) (fun _ => ?_)
    refine Xg.ops_op (by kernel_rfl) (Xg.opx_pure ((iv (↑k : Int))) rfl (fun _ => by kernel_rfl) ?_)
    refine Xg.ops_op (by kernel_rfl) (Xg.opx_pure (.bool (decide ((((↑k : Int)) : Int) < ((0 : Int))))) rfl (fun _ => by kernel_rfl) ?_)
    refine Xg.ops_flag (j := 31) (c := (decide ((↑k : Int) < (0 : Int)))) (by kernel_rfl) (fun xh1 => absurd (of_decide_eq_true xh1) (by omega)) (fun _ => ?_)
    refine Xg.ops_op (by kernel_rfl) (Xg.opx_pure ((Value.bool false)) rfl (fun _ => by kernel_rfl) ?_)
    refine Xg.ops_nil ?_
    refine Xg.at_false (t := false) (by kernel_rfl) rfl ?_
    refine Xg.at_skip ?_
    refine Xg.at_seq ?_
    refine Xg.at_region ?_
    refine Xg.ops_op (by kernel_rfl) (Xg.opx_pure ((pv p 0)) rfl (fun _ => by kernel_rfl) ?_)
    refine Xg.ops_op (by kernel_rfl) (Xg.opx_pure ((pv p 0)) rfl (fun _ => by kernel_rfl) ?_)
    refine Xg.ops_op (by kernel_rfl) (Xg.opx_pure ((pv p 0)) rfl (fun _ => by kernel_rfl) ?_)
    refine Xg.ops_op (by kernel_rfl) (Xg.opx_load (b := p) (off := ((0 : Nat))) 2 (Value.slice (some (Addr.mk cb (0 : Nat) none)) nc cc) rfl (by kernel_rfl) (by kernel_rfl) (by kernel_rfl) ?_)
    refine Xg.ops_op (by kernel_rfl) (Xg.opx_pure ((iv (↑k : Int))) rfl (fun _ => by kernel_rfl) ?_)
    refine Xg.ops_op (by kernel_rfl) (Xg.opx_run (.pointer (some (Addr.mk cb (k * (3 : Nat)) none))) rfl (Xg.run_ix_slice' (elem := 98) (b := cb) (off := ((0 : Nat))) (len := nc) (cap := cc) (kd := .i64) (e := ((↑k : Int))) 3 k (k * (3 : Nat)) (by kernel_rfl) (by kernel_rfl) (by kernel_rfl) (by kernel_rfl) rfl (by omega) (by omega)) ?_)
    refine Xg.ops_op (by kernel_rfl) (Xg.opx_pure ((Value.pointer (some (Addr.mk cb (k * (3 : Nat)) none)))) rfl (fun _ => by kernel_rfl) ?_)
    refine Xg.ops_nil ?_
    refine Xg.at_seq ?_
    refine Xg.at_region ?_
    refine Xg.ops_op (by kernel_rfl) (Xg.opx_pure ((Value.pointer (some (Addr.mk cb (k * (3 : Nat)) none)))) rfl (fun _ => by kernel_rfl) ?_)
    refine Xg.ops_op (by kernel_rfl) (Xg.opx_pure ((Value.pointer (some (Addr.mk cb (k * (3 : Nat)) none)))) rfl (fun _ => by kernel_rfl) ?_)
    refine Xg.ops_op (by kernel_rfl) (Xg.opx_pure ((Value.pointer (some (Addr.mk cb (k * (3 : Nat) + (1 : Nat)) none)))) rfl (fun _ => by kernel_rfl) ?_)
    refine Xg.ops_op (by kernel_rfl) (Xg.opx_pure ((Value.pointer (some (Addr.mk cb (k * (3 : Nat) + (1 : Nat)) none)))) rfl (fun _ => by kernel_rfl) ?_)
    refine Xg.ops_op (by kernel_rfl) (Xg.opx_load (b := cb) (off := (k * (3 : Nat) + (1 : Nat))) 0 (Value.slice (C k).fa (C k).fr.length (C k).fc) rfl (by kernel_rfl) (@Go.Proofs.Ytmplimmcjdkhlaa.g_c1 (nc) (sp) (C) (k) (by omega)) (by kernel_rfl) ?_)
    refine Xg.ops_op (by kernel_rfl) (Xg.opx_pure ((iv (↑(C k).fr.length : Int))) rfl (fun _ => by kernel_rfl) ?_)
    refine Xg.ops_op (by kernel_rfl) (Xg.opx_pure ((iv (↑(C k).fr.length : Int))) rfl (fun _ => by kernel_rfl) ?_)
    refine Xg.ops_nil ?_
    refine Xg.at_seq ?_
    refine Xg.at_block ?_
    refine Xg.at_seq ?_
    refine Xg.at_draw [] [(3, [0, 1, 2, 3, 4, 5, 6, 7, 8, 9, 10, 11, 12], Xg.CellIs (cb) ((k * (3 : Nat))) ((iv (C k).size))), (7, [0, 1, 2, 3, 4, 5, 6, 7, 8, 9, 10, 11], Xg.CellIs (r) (((0 : Nat))) ((iv q))), (11, [0, 1, 2, 3, 4, 5, 6, 7, 8, 9, 10, 11], Xg.CellIs (r) (((1 : Nat))) ((iv us)))] (by kernel_rfl) ?_
    refine Xg.any_pure ((Value.pointer (some (Addr.mk cb (k * (3 : Nat)) none)))) 0 (by kernel_rfl) rfl (by kernel_rfl) (by kernel_rfl) (by kernel_rfl) (by kernel_rfl) rfl (fun _ => by kernel_rfl) ?_
    refine Xg.any_pure ((Value.pointer (some (Addr.mk cb (k * (3 : Nat)) none)))) 1 (by kernel_rfl) rfl (by kernel_rfl) (by kernel_rfl) (by kernel_rfl) (by kernel_rfl) rfl (fun _ => by kernel_rfl) ?_
    refine Xg.any_pure ((Value.pointer (some (Addr.mk cb (k * (3 : Nat)) none)))) 2 (by kernel_rfl) rfl (by kernel_rfl) (by kernel_rfl) (by kernel_rfl) (by kernel_rfl) rfl (fun _ => by kernel_rfl) ?_
    refine Xg.any_reads (iv (C k).size) 3 0 (by kernel_rfl) rfl (by kernel_rfl) (by kernel_rfl) (by kernel_rfl) (by kernel_rfl) rfl rfl (by kernel_rfl) (Xg.cell_now (b := cb) (off := (k * (3 : Nat))) 0 rfl (@Go.Proofs.Ytmplimmcjdkhlaa.g_c0 (nc) (sp) (C) (k) (by omega))) (fun _ h => Xg.run_load (by kernel_rfl) (by kernel_rfl) h) ?_
    refine Xg.any_pure ((pv r 0)) 4 (by kernel_rfl) rfl (by kernel_rfl) (by kernel_rfl) (by kernel_rfl) (by kernel_rfl) rfl (fun _ => by kernel_rfl) ?_
    refine Xg.any_pure ((pv r 0)) 5 (by kernel_rfl) rfl (by kernel_rfl) (by kernel_rfl) (by kernel_rfl) (by kernel_rfl) rfl (fun _ => by kernel_rfl) ?_
    refine Xg.any_pure ((pv r 0)) 6 (by kernel_rfl) rfl (by kernel_rfl) (by kernel_rfl) (by kernel_rfl) (by kernel_rfl) rfl (fun _ => by kernel_rfl) ?_
    refine Xg.any_reads (iv q) 7 1 (by kernel_rfl) rfl (by kernel_rfl) (by kernel_rfl) (by kernel_rfl) (by kernel_rfl) rfl rfl (by kernel_rfl) (Xg.cell_now (b := r) (off := ((0 : Nat))) 5 rfl (by kernel_rfl)) (fun _ h => Xg.run_load (by kernel_rfl) (by kernel_rfl) h) ?_
    refine Xg.any_pure ((pv r 0)) 8 (by kernel_rfl) rfl (by kernel_rfl) (by kernel_rfl) (by kernel_rfl) (by kernel_rfl) rfl (fun _ => by kernel_rfl) ?_
    refine Xg.any_pure ((pv r 0)) 9 (by kernel_rfl) rfl (by kernel_rfl) (by kernel_rfl) (by kernel_rfl) (by kernel_rfl) rfl (fun _ => by kernel_rfl) ?_
    refine Xg.any_pure ((pv r 1)) 10 (by kernel_rfl) rfl (by kernel_rfl) (by kernel_rfl) (by kernel_rfl) (by kernel_rfl) rfl (fun _ => by kernel_rfl) ?_
    refine Xg.any_reads (iv us) 11 2 (by kernel_rfl) rfl (by kernel_rfl) (by kernel_rfl) (by kernel_rfl) (by kernel_rfl) rfl rfl (by kernel_rfl) (Xg.cell_now (b := r) (off := ((1 : Nat))) 5 rfl (by kernel_rfl)) (fun _ h => Xg.run_load (by kernel_rfl) (by kernel_rfl) h) ?_
    refine Xg.any_int .i64 (IntKind.wrap .i64 ((q - us))) 12 (by kernel_rfl) rfl (by kernel_rfl) (by kernel_rfl) (by kernel_rfl) (by kernel_rfl) rfl (fun _ => by kernel_rfl) (Xg.wrap_i64_in (by omega)) ?_
    refine Xg.any_pure (.bool (decide ((((C k).size) : Int) > (q - us)))) 13 (by kernel_rfl) rfl (by kernel_rfl) (by kernel_rfl) (by kernel_rfl) (by kernel_rfl) rfl (fun _ => by kernel_rfl) ?_
    refine Xg.any_pure ((Value.bool (decide ((C k).size > q - us)))) 14 (by kernel_rfl) rfl (by kernel_rfl) (by kernel_rfl) (by kernel_rfl) (by kernel_rfl) rfl (fun _ => by kernel_rfl) ?_
    refine Xg.any_nil (by kernel_rfl) ?_
    refine Xg.at_true (t := decide (((C k).size > q - us))) (by kernel_rfl) (decide_eq_true (by omega)) ?_
    refine Xg.at_seq ?_
    refine Xg.at_region ?_
    refine Xg.ops_op (by kernel_rfl) (Xg.opx_pure ((Value.agg #[iv 0, iv 0, iv 0])) rfl (fun _ => by kernel_rfl) ?_)
    refine Xg.ops_op (by kernel_rfl) (Xg.opx_storen 3 (off := 0) 4 [iv 0, iv 0, iv 0] (by kernel_rfl) rfl (by kernel_rfl) (by kernel_rfl) rfl (by kernel_rfl) (Nat.le_of_ble_eq_true (by kernel_rfl)) ?_)
    refine Xg.ops_op (by kernel_rfl) (Xg.opx_pure ((iv 92)) rfl (fun _ => by kernel_rfl) ?_)
    refine Xg.ops_nil ?_
    refine Xg.at_ret_feed (v := (Value.tuple #[Value.agg #[iv 0, iv 0, iv 0], iv 92])) [(Addr.mk xb2 (0 : Nat) none), (Addr.mk xb2 (1 : Nat) none), (Addr.mk xb2 (2 : Nat) none)] [iv 0, iv 0, iv 0] [2, 3, 0, 5] [HdP p ab na (Value.slice (some (Addr.mk cb (0 : Nat) none)) nc cc) (Value.slice (some (Addr.mk bb (0 : Nat) none)) nb bc), PtP ab na u, CG cb nc sp C, R2 r q us ta tl tc] Go.Proofs.Try.func17 (by kernel_rfl) (Xg.cells_cons (b := xb2) (off := 0) 4 rfl (by kernel_rfl) (Xg.cells_cons (b := xb2) (off := 1) 4 rfl (by kernel_rfl) (Xg.cells_cons (b := xb2) (off := 2) 4 rfl (by kernel_rfl) Xg.cells_nil))) (by kernel_rfl) (by kernel_rfl) ?_
    exact ⟨by kernel_rfl, by kernel_rfl⟩)
theorem takeEG (hnc : nc ≤ 100) (size pk : Int) (k z : Nat) (hk : k < nc) (hs0 : 1 ≤ size) (hs : size ≤ (C k).size) (hj : ∀ j, j < k → (C j).size < size) (hz : (C k).size = (z : Nat)) (hz1 : z ≤ 65536) (hq : (z : Int) ≤ q - us) (hq1 : 0 ≤ us ∧ q ≤ 1000000000000) (hf : (C k).fr.length = 0) :
    Does Try.prog 17 [.pointer (some ⟨p, 0, none⟩), .int .i64 (id : Nat), .int .i64 size, .int .i64 pk] [HG p cb nc cc bb nb bc ab na, PtP ab na u, CG cb nc sp C, R2 r q us ta tl tc]
    (Ret (.tuple #[.agg #[.int .i64 0, .int .i64 0, .int .i64 0], .int .i64 96]) [HG p cb nc cc bb nb bc ab na, PtP ab na u, CG cb nc sp C, R2 r q us ta tl tc]) := by
  have ho := of_some p ab na id r (.slice (some ⟨cb, 0, none⟩) nc cc) (.slice (some ⟨bb, 0, none⟩) nb bc) u hid hna hu
  have hx := fun b => idxG b cb nc cc sp C size k hk hnc hs hj
  (focus
    refine Xg.spec_of Go.Proofs.Try.func17 rfl Go.Proofs.Try.ntmps17 fun g F => ?_)
  (focus
    refine Xg.at_seq ?_
    refine Xg.at_region ?_
    refine Xg.ops_op (by kernel_rfl) (Xg.opx_box (v := (iv size)) [(iv size)] (by kernel_rfl) (by kernel_rfl) fun xb1 => ?_)
    refine Xg.ops_op (by kernel_rfl) (Xg.opx_new 3 [iv 0, iv 0, iv 0] (by kernel_rfl) (by kernel_rfl) fun xb2 => ?_)
    refine Xg.ops_op (by kernel_rfl) (Xg.opx_pure ((iv 0)) rfl (fun _ => by kernel_rfl) ?_)
    refine Xg.ops_nil ?_
    refine Xg.at_seq ?_
    refine Xg.at_region ?_
    refine Xg.ops_op (by kernel_rfl) (Xg.opx_pure ((pv p 0)) rfl (fun _ => by kernel_rfl) ?_)
    refine Xg.ops_op (by kernel_rfl) (Xg.opx_pure ((iv (↑id : Int))) rfl (fun _ => by kernel_rfl) ?_)
    refine Xg.ops_op (by kernel_rfl) (Xg.opx_call1' [2, 3] [HdP p ab na (Value.slice (some (Addr.mk cb (0 : Nat) none)) nc cc) (Value.slice (some (Addr.mk bb (0 : Nat) none)) nb bc), PtP ab na u, row xb2 (42 : Nat) [iv 0, iv 0, iv 0], row xb1 (3 : Nat) [iv size], CG cb nc sp C, R2 r q us ta tl tc] (fun _ => by kernel_rfl) (@ho ) (by kernel_rfl) (by kernel_rfl) (by kernel_rfl) ?_)
    refine Xg.ops_op (by kernel_rfl) (Xg.opx_pure ((pv r 0)) rfl (fun _ => by kernel_rfl) ?_)
    refine Xg.ops_nil ?_
    refine Xg.at_seq ?_
    refine Xg.at_seq ?_
    refine Xg.at_region ?_
    refine Xg.ops_op (by kernel_rfl) (Xg.opx_pure ((pv r 0)) rfl (fun _ => by kernel_rfl) ?_)
    refine Xg.ops_op (by kernel_rfl) (Xg.opx_pure ((Value.bool false)) rfl (fun _ => by kernel_rfl) ?_)
    refine Xg.ops_nil ?_
    refine Xg.at_false (t := false) (by kernel_rfl) rfl ?_
    refine Xg.at_skip ?_
    refine Xg.at_seq ?_
    refine Xg.at_region ?_
    refine Xg.ops_op (by kernel_rfl) (Xg.opx_pure ((pv p 0)) rfl (fun _ => by kernel_rfl) ?_)
    refine Xg.ops_op (by kernel_rfl) (Xg.opx_pure ((pv p 0)) rfl (fun _ => by kernel_rfl) ?_)
    refine Xg.ops_op (by kernel_rfl) (Xg.opx_pure ((pv p 0)) rfl (fun _ => by kernel_rfl) ?_)
    refine Xg.ops_op (by kernel_rfl) (Xg.opx_load (b := p) (off := ((0 : Nat))) 0 (Value.slice (some (Addr.mk cb (0 : Nat) none)) nc cc) rfl (by kernel_rfl) (by kernel_rfl) (by kernel_rfl) ?_)
    refine Xg.ops_op (by kernel_rfl) (Xg.opx_pure ((Value.func (Fn.func (40 : Nat)) #[] #[pv xb1 0])) rfl (fun _ => by kernel_rfl) ?_)
    refine Xg.ops_op (by kernel_rfl) (Xg.opx_call1' [4, 3] [CG cb nc sp C, row xb1 (3 : TypeId) [iv size], HdP p ab na (Value.slice (some (Addr.mk cb (0 : Nat) none)) nc cc) (Value.slice (some (Addr.mk bb (0 : Nat) none)) nb bc), PtP ab na u, row xb2 (42 : Nat) [iv 0, iv 0, iv 0], R2 r q us ta tl tc] (fun _ => by kernel_rfl) (@hx (xb1)) (by kernel_rfl) (by kernel_rfl) (by kernel_rfl) ?_)
    refine Xg.ops_op (by kernel_rfl) (Xg.opx_pure ((iv (↑k : Int))) rfl (fun _ => by kernel_rfl) ?_)
    refine Xg.ops_nil ?_
    refine Xg.at_seq ?_
    refine Xg.at_seq ?_
    refine Xg.at_region ?_
    refine Xg.ops_op (by kernel_rfl) (Xg.opx_load (b := xb1) (off := ((0 : Nat))) 1 (iv size) rfl (by kernel_rfl) (by kernel_rfl) (by kernel_rfl) ?_)
    refine Xg.ops_op (by kernel_rfl) (Xg.opx_pure (.bool (decide ((size : Int) < ((1 : Int))))) rfl (fun _ => by kernel_rfl) ?_)
    refine Xg.ops_op (by kernel_rfl) (Xg.opx_pure ((Value.bool (decide (size < (1 : Int))))) rfl (fun _ => by kernel_rfl) ?_)
    refine Xg.ops_flag (j := 29) (c := (decide (size < (1 : Int)))) (by kernel_rfl) (fun xh1 => absurd (of_decide_eq_true xh1) (by omega)) (fun _ => ?_)
    refine Xg.ops_op (by kernel_rfl) (Xg.opx_pure ((iv (↑k : Int))) rfl (fun _ => by kernel_rfl) ?_)
    refine Xg.ops_op (by kernel_rfl) (Xg.opx_pure (.bool (decide ((((↑k : Int)) : Int) < ((0 : Int))))) rfl (fun _ => by kernel_rfl) ?_)
    refine Xg.ops_flag (j := 31) (c := (decide ((↑k : Int) < (0 : Int)))) (by kernel_rfl) (fun xh1 => absurd (of_decide_eq_true xh1) (by omega)) (fun _ => ?_)
    refine Xg.ops_op (by kernel_rfl) (Xg.opx_pure ((Value.bool false)) rfl (fun _ => by kernel_rfl) ?_)
    refine Xg.ops_nil ?_
    refine Xg.at_false (t := false) (by kernel_rfl) rfl ?_
    refine Xg.at_skip ?_
    refine Xg.at_seq ?_
    refine Xg.at_region ?_
    refine Xg.ops_op (by kernel_rfl) (Xg.opx_pure ((pv p 0)) rfl (fun _ => by kernel_rfl) ?_)
    refine Xg.ops_op (by kernel_rfl) (Xg.opx_pure ((pv p 0)) rfl (fun _ => by kernel_rfl) ?_)
    refine Xg.ops_op (by kernel_rfl) (Xg.opx_pure ((pv p 0)) rfl (fun _ => by kernel_rfl) ?_)
    refine Xg.ops_op (by kernel_rfl) (Xg.opx_load (b := p) (off := ((0 : Nat))) 2 (Value.slice (some (Addr.mk cb (0 : Nat) none)) nc cc) rfl (by kernel_rfl) (by kernel_rfl) (by kernel_rfl) ?_)
    refine Xg.ops_op (by kernel_rfl) (Xg.opx_pure ((iv (↑k : Int))) rfl (fun _ => by kernel_rfl) ?_)
    refine Xg.ops_op (by kernel_rfl) (Xg.opx_run (.pointer (some (Addr.mk cb (k * (3 : Nat)) none))) rfl (Xg.run_ix_slice' (elem := 98) (b := cb) (off := ((0 : Nat))) (len := nc) (cap := cc) (kd := .i64) (e := ((↑k : Int))) 3 k (k * (3 : Nat)) (by kernel_rfl) (by kernel_rfl) (by kernel_rfl) (by kernel_rfl) rfl (by omega) (by omega)) ?_)
    refine Xg.ops_op (by kernel_rfl) (Xg.opx_pure ((Value.pointer (some (Addr.mk cb (k * (3 : Nat)) none)))) rfl (fun _ => by kernel_rfl) ?_)
    refine Xg.ops_nil ?_
    refine Xg.at_seq ?_
    refine Xg.at_region ?_
    refine Xg.ops_op (by kernel_rfl) (Xg.opx_pure ((Value.pointer (some (Addr.mk cb (k * (3 : Nat)) none)))) rfl (fun _ => by kernel_rfl) ?_)
    refine Xg.ops_op (by kernel_rfl) (Xg.opx_pure ((Value.pointer (some (Addr.mk cb (k * (3 : Nat)) none)))) rfl (fun _ => by kernel_rfl) ?_)
    refine Xg.ops_op (by kernel_rfl) (Xg.opx_pure ((Value.pointer (some (Addr.mk cb (k * (3 : Nat) + (1 : Nat)) none)))) rfl (fun _ => by kernel_rfl) ?_)
    refine Xg.ops_op (by kernel_rfl) (Xg.opx_pure ((Value.pointer (some (Addr.mk cb (k * (3 : Nat) + (1 : Nat)) none)))) rfl (fun _ => by kernel_rfl) ?_)
    refine Xg.ops_op (by kernel_rfl) (Xg.opx_load (b := cb) (off := (k * (3 : Nat) + (1 : Nat))) 0 (Value.slice (C k).fa (C k).fr.length (C k).fc) rfl (by kernel_rfl) (@Go.Proofs.Ytmplimmcjdkhlaa.g_c1 (nc) (sp) (C) (k) (by omega)) (by kernel_rfl) ?_)
    refine Xg.ops_op (by kernel_rfl) (Xg.opx_pure ((iv (↑(C k).fr.length : Int))) rfl (fun _ => by kernel_rfl) ?_)
    refine Xg.ops_op (by kernel_rfl) (Xg.opx_pure ((iv (↑(C k).fr.length : Int))) rfl (fun _ => by kernel_rfl) ?_)
    refine Xg.ops_nil ?_
    refine Xg.at_seq ?_
    refine Xg.at_block ?_
    refine Xg.at_seq ?_
    refine Xg.at_draw [] [(3, [0, 1, 2, 3, 4, 5, 6, 7, 8, 9, 10, 11, 12], Xg.CellIs (cb) ((k * (3 : Nat))) ((iv (C k).size))), (7, [0, 1, 2, 3, 4, 5, 6, 7, 8, 9, 10, 11], Xg.CellIs (r) (((0 : Nat))) ((iv q))), (11, [0, 1, 2, 3, 4, 5, 6, 7, 8, 9, 10, 11], Xg.CellIs (r) (((1 : Nat))) ((iv us)))] (by kernel_rfl) ?_
    refine Xg.any_pure ((Value.pointer (some (Addr.mk cb (k * (3 : Nat)) none)))) 0 (by kernel_rfl) rfl (by kernel_rfl) (by kernel_rfl) (by kernel_rfl) (by kernel_rfl) rfl (fun _ => by kernel_rfl) ?_
    refine Xg.any_pure ((Value.pointer (some (Addr.mk cb (k * (3 : Nat)) none)))) 1 (by kernel_rfl) rfl (by kernel_rfl) (by kernel_rfl) (by kernel_rfl) (by kernel_rfl) rfl (fun _ => by kernel_rfl) ?_
    refine Xg.any_pure ((Value.pointer (some (Addr.mk cb (k * (3 : Nat)) none)))) 2 (by kernel_rfl) rfl (by kernel_rfl) (by kernel_rfl) (by kernel_rfl) (by kernel_rfl) rfl (fun _ => by kernel_rfl) ?_
    refine Xg.any_reads (iv (C k).size) 3 0 (by kernel_rfl) rfl (by kernel_rfl) (by kernel_rfl) (by kernel_rfl) (by kernel_rfl) rfl rfl (by kernel_rfl) (Xg.cell_now (b := cb) (off := (k * (3 : Nat))) 0 rfl (@Go.Proofs.Ytmplimmcjdkhlaa.g_c0 (nc) (sp) (C) (k) (by omega))) (fun _ h => Xg.run_load (by kernel_rfl) (by kernel_rfl) h) ?_
    refine Xg.any_pure ((pv r 0)) 4 (by kernel_rfl) rfl (by kernel_rfl) (by kernel_rfl) (by kernel_rfl) (by kernel_rfl) rfl (fun _ => by kernel_rfl) ?_
    refine Xg.any_pure ((pv r 0)) 5 (by kernel_rfl) rfl (by kernel_rfl) (by kernel_rfl) (by kernel_rfl) (by kernel_rfl) rfl (fun _ => by kernel_rfl) ?_
    refine Xg.any_pure ((pv r 0)) 6 (by kernel_rfl) rfl (by kernel_rfl) (by kernel_rfl) (by kernel_rfl) (by kernel_rfl) rfl (fun _ => by kernel_rfl) ?_
    refine Xg.any_reads (iv q) 7 1 (by kernel_rfl) rfl (by kernel_rfl) (by kernel_rfl) (by kernel_rfl) (by kernel_rfl) rfl rfl (by kernel_rfl) (Xg.cell_now (b := r) (off := ((0 : Nat))) 5 rfl (by kernel_rfl)) (fun _ h => Xg.run_load (by kernel_rfl) (by kernel_rfl) h) ?_
    refine Xg.any_pure ((pv r 0)) 8 (by kernel_rfl) rfl (by kernel_rfl) (by kernel_rfl) (by kernel_rfl) (by kernel_rfl) rfl (fun _ => by kernel_rfl) ?_
    refine Xg.any_pure ((pv r 0)) 9 (by kernel_rfl) rfl (by kernel_rfl) (by kernel_rfl) (by kernel_rfl) (by kernel_rfl) rfl (fun _ => by kernel_rfl) ?_
    refine Xg.any_pure ((pv r 1)) 10 (by kernel_rfl) rfl (by kernel_rfl) (by kernel_rfl) (by kernel_rfl) (by kernel_rfl) rfl (fun _ => by kernel_rfl) ?_
    refine Xg.any_reads (iv us) 11 2 (by kernel_rfl) rfl (by kernel_rfl) (by kernel_rfl) (by kernel_rfl) (by kernel_rfl) rfl rfl (by kernel_rfl) (Xg.cell_now (b := r) (off := ((1 : Nat))) 5 rfl (by kernel_rfl)) (fun _ h => Xg.run_load (by kernel_rfl) (by kernel_rfl) h) ?_
    refine Xg.any_int .i64 (IntKind.wrap .i64 ((q - us))) 12 (by kernel_rfl) rfl (by kernel_rfl) (by kernel_rfl) (by kernel_rfl) (by kernel_rfl) rfl (fun _ => by kernel_rfl) (Xg.wrap_i64_in (by omega)) ?_
    refine Xg.any_pure (.bool (decide ((((C k).size) : Int) > (q - us)))) 13 (by kernel_rfl) rfl (by kernel_rfl) (by kernel_rfl) (by kernel_rfl) (by kernel_rfl) rfl (fun _ => by kernel_rfl) ?_
    refine Xg.any_pure ((Value.bool (decide ((C k).size > q - us)))) 14 (by kernel_rfl) rfl (by kernel_rfl) (by kernel_rfl) (by kernel_rfl) (by kernel_rfl) rfl (fun _ => by kernel_rfl) ?_
    refine Xg.any_nil (by kernel_rfl) ?_
    refine Xg.at_false (t := decide (((C k).size > q - us))) (by kernel_rfl) (decide_eq_false (by omega)) ?_
    refine Xg.at_seq ?_
    refine Xg.at_region ?_
    refine Xg.ops_op (by kernel_rfl) (Xg.opx_pure ((iv (↑(C k).fr.length : Int))) rfl (fun _ => by kernel_rfl) ?_)
    refine Xg.ops_op (by kernel_rfl) (Xg.opx_pure (.bool (decide ((((↑(C k).fr.length : Int)) : Int) = ((0 : Int))))) rfl (fun _ => by kernel_rfl) ?_)
    refine Xg.ops_op (by kernel_rfl) (Xg.opx_pure ((Value.bool (decide ((↑(C k).fr.length : Int) = (0 : Int))))) rfl (fun _ => by kernel_rfl) ?_)
    refine Xg.ops_nil ?_
    refine Xg.at_true (t := decide (((↑(C k).fr.length : Int) = (0 : Int)))) (by kernel_rfl) (decide_eq_true (by omega)) ?_
    refine Xg.at_seq ?_
    refine Xg.at_region ?_
    refine Xg.ops_op (by kernel_rfl) (Xg.opx_pure ((Value.agg #[iv 0, iv 0, iv 0])) rfl (fun _ => by kernel_rfl) ?_)
    refine Xg.ops_op (by kernel_rfl) (Xg.opx_storen 3 (off := 0) 4 [iv 0, iv 0, iv 0] (by kernel_rfl) rfl (by kernel_rfl) (by kernel_rfl) rfl (by kernel_rfl) (Nat.le_of_ble_eq_true (by kernel_rfl)) ?_)
    refine Xg.ops_op (by kernel_rfl) (Xg.opx_pure ((iv 96)) rfl (fun _ => by kernel_rfl) ?_)
    refine Xg.ops_nil ?_
    refine Xg.at_ret_feed (v := (Value.tuple #[Value.agg #[iv 0, iv 0, iv 0], iv 96])) [(Addr.mk xb2 (0 : Nat) none), (Addr.mk xb2 (1 : Nat) none), (Addr.mk xb2 (2 : Nat) none)] [iv 0, iv 0, iv 0] [2, 3, 0, 5] [HdP p ab na (Value.slice (some (Addr.mk cb (0 : Nat) none)) nc cc) (Value.slice (some (Addr.mk bb (0 : Nat) none)) nb bc), PtP ab na u, CG cb nc sp C, R2 r q us ta tl tc] Go.Proofs.Try.func17 (by kernel_rfl) (Xg.cells_cons (b := xb2) (off := 0) 4 rfl (by kernel_rfl) (Xg.cells_cons (b := xb2) (off := 1) 4 rfl (by kernel_rfl) (Xg.cells_cons (b := xb2) (off := 2) 4 rfl (by kernel_rfl) Xg.cells_nil))) (by kernel_rfl) (by kernel_rfl) ?_
    exact ⟨by kernel_rfl, by kernel_rfl⟩)
end
section
variable (p : Nat) (σ : Po) (hna : σ.na ≤ 64) (hnc : σ.nc ≤ 100) (id : Nat) (hid : id < σ.na) (r : Ar) (hr : σ.ar id = some r)
include hna hnc hid hr
theorem takeQS (size pk : Int) (k : Nat) (hk : k < σ.nc) (hs0 : 1 ≤ size) (hs : size ≤ σ.size k) (hj : ∀ j, j < k → (σ.size j : Int) < size) (hz1 : σ.size k ≤ 65536) (hq : r.q - r.us < σ.size k) (hq1 : 0 ≤ r.us ∧ r.us ≤ 1000000000000 ∧ 0 ≤ r.q ∧ r.q ≤ 1000000000000) :
    Does Try.prog 17 [.pointer (some ⟨p, 0, none⟩), .int .i64 (id : Nat), .int .i64 size, .int .i64 pk] [PoolS p σ] (Ret (.tuple #[.agg #[.int .i64 0, .int .i64 0, .int .i64 0], .int .i64 92]) [PoolS p σ]) := by
  refine e_ret (does_pool (X := []) fun a => ?_)
  obtain ⟨b, hb, ho⟩ := open_ar (p := p) hid hr a
  obtain ⟨hCs, hCf⟩ := a.hC k hk
  refine ⟨_, [I2 (a.T id).1 (a.T id).2 r.tk, BG a.bb σ.nb a.sq a.B, S0 a.C σ.nc, S1 σ.bs a.B σ.nb, H2x σ.ar a.u a.T σ.na id], _, _, _, _, ret_e (takeQG p a.cb σ.nc a.cc a.bb σ.nb a.bc a.ab σ.na a.u id b hid hna hb a.sp a.C r.q r.us (a.T id).1 r.tk.length (a.T id).2 hnc size pk k (σ.size k) hk hs0 (by rw [hCs]; exact hs) (fun j hjk => by rw [(a.hC j (by omega)).1]; exact hj j hjk) hCs hz1 hq hq1), fun g w F hS => sl_ord [0, 1, 4, 2, 3, 5, 6, 7, 8] 9 rfl (ho g w F hS), fun x hx g w F hS => ⟨(), trivial, rfl, pools_shut a (shut_ar hid hr a hb (sl_ord [0, 1, 3, 4, 2, 5, 6, 7, 8] 9 rfl hS))⟩⟩
theorem takeES (size pk : Int) (k : Nat) (hk : k < σ.nc) (hs0 : 1 ≤ size) (hs : size ≤ σ.size k) (hj : ∀ j, j < k → (σ.size j : Int) < size) (hz1 : σ.size k ≤ 65536) (hq : (σ.size k : Int) ≤ r.q - r.us) (hq1 : 0 ≤ r.us ∧ r.q ≤ 1000000000000) (hf : (σ.fr k).length = 0) :
    Does Try.prog 17 [.pointer (some ⟨p, 0, none⟩), .int .i64 (id : Nat), .int .i64 size, .int .i64 pk] [PoolS p σ] (Ret (.tuple #[.agg #[.int .i64 0, .int .i64 0, .int .i64 0], .int .i64 96]) [PoolS p σ]) := by
  refine e_ret (does_pool (X := []) fun a => ?_)
  obtain ⟨b, hb, ho⟩ := open_ar (p := p) hid hr a
  obtain ⟨hCs, hCf⟩ := a.hC k hk
  refine ⟨_, [I2 (a.T id).1 (a.T id).2 r.tk, BG a.bb σ.nb a.sq a.B, S0 a.C σ.nc, S1 σ.bs a.B σ.nb, H2x σ.ar a.u a.T σ.na id], _, _, _, _, ret_e (takeEG p a.cb σ.nc a.cc a.bb σ.nb a.bc a.ab σ.na a.u id b hid hna hb a.sp a.C r.q r.us (a.T id).1 r.tk.length (a.T id).2 hnc size pk k (σ.size k) hk hs0 (by rw [hCs]; exact hs) (fun j hjk => by rw [(a.hC j (by omega)).1]; exact hj j hjk) hCs hz1 hq hq1 (by rw [hCf]; exact hf)), fun g w F hS => sl_ord [0, 1, 4, 2, 3, 5, 6, 7, 8] 9 rfl (ho g w F hS), fun x hx g w F hS => ⟨(), trivial, rfl, pools_shut a (shut_ar hid hr a hb (sl_ord [0, 1, 3, 4, 2, 5, 6, 7, 8] 9 rfl hS))⟩⟩
end
end Go.Proofs.Ytmplimmcjdkhlaa
