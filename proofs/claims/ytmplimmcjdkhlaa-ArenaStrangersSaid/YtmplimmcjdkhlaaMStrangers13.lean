import Derived.Test.YtmplimmcjdkhlaaMStrangers12
import Derived.Lib.Overlaps
/- Symbolic running: what slices.Insert does: append(x[:i], make(..)...) that must grow, a slice made longer into its room, copy into a part of it, slices.overlaps. Over any program. -/
namespace Go.Xg
open Go Go.Sl
set_option linter.unusedVariables false
section
variable {P : Program} {f : FuncId} {g : World} {F : List HP} {R : Ending → World → Prop} {k : List Item} {T : List Value} {L : List HP} {K : List Value → List HP → Prop}

/-- append(x[:l], make([]T, n)...) where there is no room. -/
theorem opx_appz_cut {d : Nat} {t ti ty elem : TypeId} {x y : Operand} {pos : String} {after : Array Edge} {gd : Option (Nat × Bool)} {kd ki : IntKind} {ax : Option Addr} {l cx : Nat} {e : Int} (by_ n : Nat) (zs ys : List Int)
    (hu : slTy P t elem = true) (hti : isInt P ti = true) (hE : intTy P elem kd by_ = true) (hx : ev T x = .slice ax l cx) (hy : ev T y = .int ki e) (he : e = (n : Int)) (hzl : zs.length = l) (hys : ys = zs ++ List.replicate n 0)
    (hr : ∀ w, SL g (L ++ F) w → Rd w 1 (.slice ax l cx) l (zs.map (Value.int kd))) (hg : cx < l + n) (hpos : 0 < n)
    (hfit : (l + n) * by_ ≤ 140737488351232) (h63 : l + n ≤ 140737488351232)
    (h : ∀ a' c', K (T.set d (.slice a' ys.length c')) (ints elem kd a' c' ys :: L)) :
    OpX P g F { dst := some d, op := .call { callee := .builtin .append, args := #[x, y], argTypes := #[t, ti] }, type := ty, pos, after, guard := gd } T L K := by
  constructor
  intro w hS
  subst he; subst hys
  have ho := hr w hS
  have el : (zs ++ List.replicate n (0 : Int)).length = l + n := by simp [hzl]
  have em : (zs ++ List.replicate n (0 : Int)).map (Value.int kd) = zs.map (Value.int kd) ++ List.replicate n (Value.int kd 0) := by simp
  have hk := h (some ⟨w.heap.size, 0, none⟩) (grownCap w (l + n) cx elem)
  rw [el] at hk
  have hrun := run_appz_grow w t ti ty elem kd ki by_ (slTy_u hu) hti (intTy_el hE) _ ax cx l n _ rfl ho hg hpos (by unfold maxLen; omega) (by omega)
  refine op_value (exec_append _ (by rw [act_eval, act_eval, hx, hy]; exact hrun)) ⟨_, _, by rw [act_put]; rfl, ?_, hk⟩
  show SL g (ints elem kd _ _ _ :: (L ++ F)) _
  rw [ints, em, el]
  exact SL.own_some (sp := List.replicate _ (Value.int kd 0)) (hS.drew.alloc _) (by simp [hzl]) (grownCap_ge _ _ _ _) (grownCap_le_maxLen _ _ _ _ (by unfold maxLen; omega)) (by simp)

/-- A slice of one's own, made longer: it has room. -/
theorem at_widen {E : TypeId} {a : Option Addr} {n c m : Nat} {us : List Value} (i : Nat) (hL : nth L i = some (ownS E 1 (.slice a n c) n us)) (hn : 0 < n) (hm : n + m ≤ c)
    (h : ∀ sp : List Value, sp.length = m → At P f g F R k T (L.set i (ownS E 1 (.slice a (n + m) c) (n + m) (us ++ sp)))) : At P f g F R k T L := ⟨fun w hS => by
  obtain ⟨hl', ⟨e, h0, h1⟩ | ⟨b, cap, sp, e, hn', hmx, hsp, hrw⟩⟩ := (sl_at i hL hS).own_cases
  · omega
  · cases e
    have hl : (sp.take m).length = m := by rw [List.length_take]; omega
    refine (h (sp.take m) hl).run w (sl_back i hL ?_)
    have e1 : us ++ sp = (us ++ sp.take m) ++ sp.drop m := by rw [List.append_assoc, List.take_append_drop]
    rw [e1] at hrw
    exact SL.own_some hrw (by rw [List.length_append, hl, hl']; omega) hm hmx (by rw [List.length_drop, hsp]; omega)⟩

/-- copy into a row. -/
theorem SL_copy_t {g w : World} {L : List HP} (P : Program) (dT sT ty e : TypeId) (z : Value) (by_ : Nat) (hu : P.underlying dT = some (.slice e)) (hE : El P e z 1 by_)
    {b o dLen dCap : Nat} {E' : TypeId} {cs vs : List Value} {x : Value} {k : Nat} (h : SL g (row b E' cs :: L) w) (hx : Rd w 1 x k vs) (h1 : ∀ u ∈ vs.take dLen, u.oneCell' = true) (hfit : o + Nat.min k dLen ≤ cs.length) :
    ∃ w', (Builtin.copy_ #[dT, sT] ty #[.slice (some ⟨b, o, none⟩) dLen dCap, x]).run P w = .ok (goInt (Nat.min k dLen : Nat)) w' ∧
      SL g (row b E' (cs.take o ++ vs.take dLen ++ cs.drop (o + Nat.min k dLen)) :: L) w' := by
  obtain ⟨i, hi, hz, hsz, rfl, hzs⟩ := hE
  obtain ⟨xa, xc, rfl, hl, hc⟩ := hx
  have hlen : (vs.take dLen).length = Nat.min k dLen := by rw [List.length_take]; have : Nat.min k dLen = min k dLen := rfl; omega
  have hf : (Builtin.firstCells 1 (Nat.min k dLen) (.slice xa k xc)).run P w = .ok (vs.take dLen).toArray w := by
    have : Rd w 1 (.slice xa (Nat.min k dLen) xc) (Nat.min k dLen) (vs.take dLen) := by
      refine ⟨xa, xc, rfl, by omega, fun j u hu => ?_⟩
      refine hc j u ?_
      rw [List.getElem?_take] at hu
      split at hu
      · exact hu
      · cases hu
    have := this.first (P := P)
    cases xa <;> exact this
  have hst := run_storeCells_at P b o E' (vs.take dLen) 0 cs.toArray w (h.get (.head _)) (by simp only [Nat.add_zero, List.size_toArray]; rw [hlen]; exact hfit) h1
  simp only [Nat.add_zero] at hst
  refine ⟨_, ?_, h.setRow _⟩
  simp [Builtin.copy_, run_underlying hu, Builtin.lenOf, sizeOf, typeInfo, hi, hsz, hf, hst, hlen]


/-- copy into a part of what one owns: any values. -/
theorem opx_copy_own {d : Nat} {dT sT ty elem : TypeId} {x y : Operand} {pos : String} {after : Array Edge} {gd : Option (Nat × Bool)} {a ax : Option Addr} {n c cx : Nat} {yv : Value} {kd : IntKind} {vs ys : List Value} (i by_ o m : Nat) (vs' : List Value) (r : Int)
    (hL : nth L i = some (ownS elem 1 (.slice a n c) n vs)) (hu : slTy P dT elem = true) (hE : intTy P elem kd by_ = true) (hx : ev T x = .slice ax m cx) (hax : ∀ b, a = some ⟨b, 0, none⟩ → ax = some ⟨b, o, none⟩) (hy : ev T y = yv)
    (hr : ∀ w, SL g (L ++ F) w → Rd w 1 yv ys.length ys) (h1 : ∀ u ∈ ys.take m, u.oneCell' = true) (hn : 0 < n) (hvn : vs.length = n) (hom : o + m ≤ n) (hv : vs.take o ++ ys.take m ++ vs.drop (o + min ys.length m) = vs') (hl : vs'.length = n) (hrv : r = ((min ys.length m : Nat) : Int))
    (h : K (T.set d (.int .i64 r)) (L.set i (ownS elem 1 (.slice a n c) n vs'))) :
    OpX P g F { dst := some d, op := .call { callee := .builtin .copy, args := #[x, y], argTypes := #[dT, sT] }, type := ty, pos, after, guard := gd } T L K := by
  subst hrv
  constructor
  intro w hS
  have hR := hr w hS
  obtain ⟨hl1, ⟨e, h0, _⟩ | ⟨b, cap, sp, e, hn', hm, hsp, hrw⟩⟩ := (sl_at i hL hS).own_cases
  · omega
  · cases e
    have hx' := hax b rfl
    subst hx'
    have hmin : Nat.min ys.length m = min ys.length m := rfl
    obtain ⟨w', hr', h'⟩ := SL_copy_t P dT sT ty elem (.int kd 0) by_ (slTy_u hu) (intTy_el hE) (dLen := m) (dCap := cx) (o := o) hrw hR h1 (by rw [List.length_append]; omega)
    refine op_value (exec_copy _ (by rw [act_eval, act_eval, hx, hy]; exact hr')) ⟨_, _, by rw [act_put]; rfl, sl_back i hL ?_, h⟩
    have e1 : (vs ++ sp).take o ++ ys.take m ++ (vs ++ sp).drop (o + Nat.min ys.length m) = vs' ++ sp := by
      rw [List.take_append_of_le_length (by omega), List.drop_append_of_le_length (by omega), ← hv, hmin]
      simp
    rw [e1] at h'
    exact SL.own_some h' (by omega) hn' hm hsp

/-- An operation that only tells. -/
theorem opx_tells {o : Oper} {v : Value} (he : ∀ w, SL g (L ++ F) w → (execOp (act T).eval o).run P w = .ok (.value v) w) (hk : K (putD o.dst v T) L) : OpX P g F o T L K := by
  constructor
  intro w hS
  exact op_value (he w hS) ⟨_, _, by rw [act_put], hS, hk⟩

/-- slices.overlaps at two blocks. -/
theorem overlaps_apart {w : World} {E1 E2 : TypeId} {b1 b2 o2 n1 c1 n2 c2 : Nat} {cs1 cs2 : List Value} {tS tR e : TypeId} {by_ : Nat} {kd : IntKind} (hu : slTy P tS e = true) (hE : intTy P e kd by_ = true)
    {L : List HP} (h : SL g (row b1 E1 cs1 :: row b2 E2 cs2 :: L) w) (h2 : cs2 ≠ []) :
    (Extern.SlicesOverlaps.overlaps #[tS, tS] #[tR] #[.slice (some ⟨b1, 0, none⟩) n1 c1, .slice (some ⟨b2, o2, none⟩) n2 c2]).run P w = .ok (.bool false) w := by
  obtain ⟨i, hi, hz, hsz, rfl, hzs⟩ := intTy_el hE
  have hne : b1 ≠ b2 := h.ne (.head _)
  have g1 : w.heap[b1]? = some (.cells cs1.toArray E1) := h.get (.head _)
  have g2 : w.heap[b2]? = some (.cells cs2.toArray E2) := h.get (.tail _ (.head _))
  refine Go.Lib.run_overlaps_apart w tS tR e (slTy_u hu) 1 (fun w => by simp [Go.sizeOf, typeInfo, hi, hsz]) _ _ n1 c1 n2 c2 hne E1 E2 cs1.length cs2.length ?_ ?_ (by cases cs2 with | nil => exact absurd rfl h2 | cons => simp) (h.frozen (.head _) 0) (h.frozen (.head _) cs1.length)
  · simp [World.shape?, g1]
  · simp [World.shape?, g2]
end
end Go.Xg

/- The arena package: slices.Insert of one number. -/
namespace Go.Proofs.Ytmplimmcjdkhlaa
open Go.Sl Go.Xg
set_option linter.unusedVariables false
set_option linter.unusedSimpArgs false
set_option linter.unnecessarySimpa false
set_option maxHeartbeats 4000000
set_option maxRecDepth 100000

theorem insG (b : Nat) (a : Option Addr) (c i : Nat) (l : List Int) (v : Int) (hi : i ≤ l.length) (hl : l.length ≤ 100000) : Does Try.prog 65 [.slice a l.length c, .int .i64 (i : Nat), .slice (some ⟨b, 0, none⟩) 1 1] [I2 a c l, row b 3 [.int .i64 v]]
    (RetE (fun x : Option Addr × Nat => True) (fun x => .slice x.1 (l.length + 1) x.2) (fun x => [I2 x.1 x.2 (l.take i ++ v :: l.drop i)])) := by
  by_cases he : i = l.length
  · subst he
    rw [List.take_length, List.drop_length]
    (focus
      refine Xg.spec_of Go.Proofs.Try.func65 rfl Go.Proofs.Try.ntmps65 fun g F => ?_)
    (focus
      refine Xg.at_seq ?_
      refine Xg.at_region ?_
      refine Xg.ops_op (by kernel_rfl) (Xg.opx_pure ((Value.slice none (0 : Nat) (0 : Nat))) rfl (fun _ => by kernel_rfl) ?_)
      refine Xg.ops_nil ?_
      refine Xg.at_seq ?_
      refine Xg.at_region ?_
      refine Xg.ops_op (by kernel_rfl) (Xg.opx_pure ((Value.slice a l.length c)) rfl (fun _ => by kernel_rfl) ?_)
      refine Xg.ops_op (by kernel_rfl) (Xg.opx_pure ((iv (↑l.length : Int))) rfl (fun _ => by kernel_rfl) ?_)
      refine Xg.ops_op (by kernel_rfl) (Xg.opx_run (.slice (Xg.subA a c l.length 1) (l.length - l.length) (c - l.length)) rfl (Xg.run_sl_lo (elem := 3) (a := a) (c := c) (len := l.length) (k1 := .i64) (e1 := ((↑l.length : Int))) 1 l.length (by kernel_rfl) (by kernel_rfl) (by kernel_rfl) (by kernel_rfl) rfl (by omega)) ?_)
      refine Xg.ops_nil ?_
      refine Xg.at_seq ?_
      refine Xg.at_region ?_
      refine Xg.ops_op (by kernel_rfl) (Xg.opx_pure ((Value.slice (some (Addr.mk b (0 : Nat) none)) (1 : Nat) (1 : Nat))) rfl (fun _ => by kernel_rfl) ?_)
      refine Xg.ops_op (by kernel_rfl) (Xg.opx_pure ((iv 1)) rfl (fun _ => by kernel_rfl) ?_)
      refine Xg.ops_op (by kernel_rfl) (Xg.opx_pure ((iv 1)) rfl (fun _ => by kernel_rfl) ?_)
      refine Xg.ops_nil ?_
      refine Xg.at_seq ?_
      refine Xg.at_seq ?_
      refine Xg.at_region ?_
      refine Xg.ops_op (by kernel_rfl) (Xg.opx_pure ((iv 1)) rfl (fun _ => by kernel_rfl) ?_)
      refine Xg.ops_op (by kernel_rfl) (Xg.opx_pure ((Value.bool false)) rfl (fun _ => by kernel_rfl) ?_)
      refine Xg.ops_nil ?_
      refine Xg.at_false (t := false) (by kernel_rfl) rfl ?_
      refine Xg.at_skip ?_
      refine Xg.at_seq ?_
      refine Xg.at_region ?_
      refine Xg.ops_op (by kernel_rfl) (Xg.opx_pure ((Value.slice a l.length c)) rfl (fun _ => by kernel_rfl) ?_)
      refine Xg.ops_op (by kernel_rfl) (Xg.opx_pure ((iv (↑l.length : Int))) rfl (fun _ => by kernel_rfl) ?_)
      refine Xg.ops_op (by kernel_rfl) (Xg.opx_pure ((iv (↑l.length : Int))) rfl (fun _ => by kernel_rfl) ?_)
      refine Xg.ops_nil ?_
      refine Xg.at_seq ?_
      refine Xg.at_seq ?_
      refine Xg.at_region ?_
      refine Xg.ops_op (by kernel_rfl) (Xg.opx_pure ((iv (↑l.length : Int))) rfl (fun _ => by kernel_rfl) ?_)
      refine Xg.ops_op (by kernel_rfl) (Xg.opx_pure ((iv (↑l.length : Int))) rfl (fun _ => by kernel_rfl) ?_)
      refine Xg.ops_op (by kernel_rfl) (Xg.opx_pure (.bool (decide ((((↑l.length : Int)) : Int) = ((↑l.length : Int))))) rfl (fun _ => by kernel_rfl) ?_)
      refine Xg.ops_nil ?_
      refine Xg.at_true (t := decide (((↑l.length : Int) = (↑l.length : Int)))) (by kernel_rfl) (decide_eq_true (by omega)) ?_
      refine Xg.at_seq ?_
      refine Xg.at_region ?_
      refine Xg.ops_op (by kernel_rfl) (Xg.opx_pure ((Value.slice a l.length c)) rfl (fun _ => by kernel_rfl) ?_)
      refine Xg.ops_op (by kernel_rfl) (Xg.opx_pure ((Value.slice (some (Addr.mk b (0 : Nat) none)) (1 : Nat) (1 : Nat))) rfl (fun _ => by kernel_rfl) ?_)
      refine Xg.ops_op (by kernel_rfl) (Xg.opx_append_ints (kd := .i64) (yv := (Value.slice (some (Addr.mk b (0 : Nat) none)) (1 : Nat) (1 : Nat))) (m := ((1 : Nat))) (xs := l) (elem := 3) 0 8 [v] rfl (by kernel_rfl) (by kernel_rfl) (by kernel_rfl) (by kernel_rfl) (by first | rfl | assumption | omega | (simp; done) | (simp; omega)) (fun _ hS => Xg.row_rd hS 1 rfl (by kernel_rfl)) (by first | omega | (simp only [List.length_nil, List.length_cons]; omega) | (simp; omega)) (by first | omega | (simp only [List.length_nil, List.length_cons]; omega) | (simp; omega)) fun xa1 xc1 => ?_)
      have xl1 : (l ++ [v] : List Int).length = (l : List Int).length + ((1 : Nat)) := by first | (simp; done) | (simp; omega)
      refine Xg.ops_op (by kernel_rfl) (Xg.opx_pure ((Value.slice xa1 (l ++ [v]).length xc1)) rfl (fun _ => by kernel_rfl) ?_)
      refine Xg.ops_nil ?_)
    rw [show (l ++ [v]).length = l.length + 1 from by simp]
    (focus
      refine Xg.at_ret_ps (v := (Value.slice xa1 (l.length + (1 : Nat)) xc1)) [0] [ints (3 : TypeId) IntKind.i64 xa1 xc1 (l ++ [v])] Go.Proofs.Try.func65 (fun _ => by kernel_rfl) (by kernel_rfl) (by kernel_rfl) ?_
      refine ⟨((xa1, xc1)), trivial, by kernel_rfl, by kernel_rfl⟩)
  · by_cases hc : c < l.length + 1
    · (focus
        refine Xg.spec_of Go.Proofs.Try.func65 rfl Go.Proofs.Try.ntmps65 fun g F => ?_)
      refine Xg.at_own 0 rfl fun h1 h2 _ _ => ?_
      unfold maxLen at h2
      (focus
        refine Xg.at_seq ?_
        refine Xg.at_region ?_
        refine Xg.ops_op (by kernel_rfl) (Xg.opx_pure ((Value.slice none (0 : Nat) (0 : Nat))) rfl (fun _ => by kernel_rfl) ?_)
        refine Xg.ops_nil ?_
        refine Xg.at_seq ?_
        refine Xg.at_region ?_
        refine Xg.ops_op (by kernel_rfl) (Xg.opx_pure ((Value.slice a l.length c)) rfl (fun _ => by kernel_rfl) ?_)
        refine Xg.ops_op (by kernel_rfl) (Xg.opx_pure ((iv (↑i : Int))) rfl (fun _ => by kernel_rfl) ?_)
        refine Xg.ops_op (by kernel_rfl) (Xg.opx_run (.slice (Xg.subA a c i 1) (l.length - i) (c - i)) rfl (Xg.run_sl_lo (elem := 3) (a := a) (c := c) (len := l.length) (k1 := .i64) (e1 := ((↑i : Int))) 1 i (by kernel_rfl) (by kernel_rfl) (by kernel_rfl) (by kernel_rfl) rfl (by omega)) ?_)
        refine Xg.ops_nil ?_
        refine Xg.at_seq ?_
        refine Xg.at_region ?_
        refine Xg.ops_op (by kernel_rfl) (Xg.opx_pure ((Value.slice (some (Addr.mk b (0 : Nat) none)) (1 : Nat) (1 : Nat))) rfl (fun _ => by kernel_rfl) ?_)
        refine Xg.ops_op (by kernel_rfl) (Xg.opx_pure ((iv 1)) rfl (fun _ => by kernel_rfl) ?_)
        refine Xg.ops_op (by kernel_rfl) (Xg.opx_pure ((iv 1)) rfl (fun _ => by kernel_rfl) ?_)
        refine Xg.ops_nil ?_
        refine Xg.at_seq ?_
        refine Xg.at_seq ?_
        refine Xg.at_region ?_
        refine Xg.ops_op (by kernel_rfl) (Xg.opx_pure ((iv 1)) rfl (fun _ => by kernel_rfl) ?_)
        refine Xg.ops_op (by kernel_rfl) (Xg.opx_pure ((Value.bool false)) rfl (fun _ => by kernel_rfl) ?_)
        refine Xg.ops_nil ?_
        refine Xg.at_false (t := false) (by kernel_rfl) rfl ?_
        refine Xg.at_skip ?_
        refine Xg.at_seq ?_
        refine Xg.at_region ?_
        refine Xg.ops_op (by kernel_rfl) (Xg.opx_pure ((Value.slice a l.length c)) rfl (fun _ => by kernel_rfl) ?_)
        refine Xg.ops_op (by kernel_rfl) (Xg.opx_pure ((iv (↑l.length : Int))) rfl (fun _ => by kernel_rfl) ?_)
        refine Xg.ops_op (by kernel_rfl) (Xg.opx_pure ((iv (↑l.length : Int))) rfl (fun _ => by kernel_rfl) ?_)
        refine Xg.ops_nil ?_
        refine Xg.at_seq ?_
        refine Xg.at_seq ?_
        refine Xg.at_region ?_
        refine Xg.ops_op (by kernel_rfl) (Xg.opx_pure ((iv (↑i : Int))) rfl (fun _ => by kernel_rfl) ?_)
        refine Xg.ops_op (by kernel_rfl) (Xg.opx_pure ((iv (↑l.length : Int))) rfl (fun _ => by kernel_rfl) ?_)
        refine Xg.ops_op (by kernel_rfl) (Xg.opx_pure (.bool (decide ((((↑i : Int)) : Int) = ((↑l.length : Int))))) rfl (fun _ => by kernel_rfl) ?_)
        refine Xg.ops_nil ?_
        refine Xg.at_false (t := decide (((↑i : Int) = (↑l.length : Int)))) (by kernel_rfl) (decide_eq_false (by omega)) ?_
        refine Xg.at_skip ?_
        refine Xg.at_seq ?_
        refine Xg.at_seq ?_
        refine Xg.at_region ?_
        refine Xg.ops_op (by kernel_rfl) (Xg.opx_pure ((iv (↑l.length : Int))) rfl (fun _ => by kernel_rfl) ?_)
        refine Xg.ops_op (by kernel_rfl) (Xg.opx_pure ((iv 1)) rfl (fun _ => by kernel_rfl) ?_)
        refine Xg.ops_op (by kernel_rfl) (Xg.opx_int .i64 (IntKind.wrap .i64 (((↑l.length : Int) + (1 : Int)))) rfl (fun _ => by kernel_rfl) (Xg.wrap_i64_in (by omega)) ?_)
        refine Xg.ops_op (by kernel_rfl) (Xg.opx_pure ((Value.slice a l.length c)) rfl (fun _ => by kernel_rfl) ?_)
        refine Xg.ops_op (by kernel_rfl) (Xg.opx_pure ((iv (↑c : Int))) rfl (fun _ => by kernel_rfl) ?_)
        refine Xg.ops_op (by kernel_rfl) (Xg.opx_pure (.bool (decide ((((↑l.length : Int) + (1 : Int)) : Int) > ((↑c : Int))))) rfl (fun _ => by kernel_rfl) ?_)
        refine Xg.ops_nil ?_
        refine Xg.at_true (t := decide (((↑l.length : Int) + (1 : Int) > (↑c : Int)))) (by kernel_rfl) (decide_eq_true (by omega)) ?_
        refine Xg.at_seq ?_
        refine Xg.at_region ?_
        refine Xg.ops_op (by kernel_rfl) (Xg.opx_pure ((Value.slice a l.length c)) rfl (fun _ => by kernel_rfl) ?_)
        refine Xg.ops_op (by kernel_rfl) (Xg.opx_pure ((iv (↑i : Int))) rfl (fun _ => by kernel_rfl) ?_)
        refine Xg.ops_op (by kernel_rfl) (Xg.opx_run (.slice a i c) rfl (Xg.run_sl_hi (elem := 3) (a := a) (c := c) (len := l.length) (k2 := .i64) (e2 := ((↑i : Int))) 1 i (by kernel_rfl) (by kernel_rfl) (by kernel_rfl) (by kernel_rfl) rfl (by omega)) ?_)
        refine Xg.ops_op (by kernel_rfl) (Xg.opx_pure ((iv (↑l.length : Int))) rfl (fun _ => by kernel_rfl) ?_)
        refine Xg.ops_op (by kernel_rfl) (Xg.opx_pure ((iv 1)) rfl (fun _ => by kernel_rfl) ?_)
        refine Xg.ops_op (by kernel_rfl) (Xg.opx_int .i64 (IntKind.wrap .i64 (((↑l.length : Int) + (1 : Int)))) rfl (fun _ => by kernel_rfl) (Xg.wrap_i64_in (by omega)) ?_)
        refine Xg.ops_op (by kernel_rfl) (Xg.opx_pure ((iv (↑i : Int))) rfl (fun _ => by kernel_rfl) ?_)
        refine Xg.ops_op (by kernel_rfl) (Xg.opx_int .i64 (IntKind.wrap .i64 (((↑l.length : Int) + (1 : Int) - (↑i : Int)))) rfl (fun _ => by kernel_rfl) (Xg.wrap_i64_in (by omega)) ?_))
      obtain ⟨Z, hZ⟩ : ∃ Z, l.take i ++ List.replicate (l.length + 1 - i) (0 : Int) = Z := ⟨_, rfl⟩
      have hZl : Z.length = l.length + 1 := by rw [← hZ, List.length_append, List.length_take, List.length_replicate]; omega
      have hZt : Z.take i = l.take i := by rw [← hZ, List.take_append_of_le_length (by rw [List.length_take]; omega), List.take_take, Nat.min_self]
      refine Xg.ops_op (by kernel_rfl) (Xg.opx_appz_cut (elem := 3) (kd := .i64) (ki := .i64) (ax := a) (l := i) (cx := c) (e := (l.length : Int) + 1 - (i : Int)) 8 (l.length + 1 - i) (l.take i) Z (by kernel_rfl) (by kernel_rfl) (by kernel_rfl) (by kernel_rfl) (by kernel_rfl) (by omega) (by rw [List.length_take]; omega) hZ.symm (fun w hS => by have h := reads_rd (Xg.reads_hi (E := 3) (a := a) (c := c) (vs := l.map (Value.int .i64)) i hi) 0 rfl hS; rwa [Nat.mul_one, ← List.map_take] at h) (by omega) (by omega) (by omega) (by omega) fun xa xc => ?_)
      (focus
        refine Xg.ops_op (by kernel_rfl) (Xg.opx_pure ((Value.slice xa Z.length xc)) rfl (fun _ => by kernel_rfl) ?_)
        refine Xg.ops_nil ?_
        refine Xg.at_seq ?_)
      refine Xg.at_own 0 rfl fun g1 g2 _ _ => ?_
      (focus
        refine Xg.at_region ?_
        refine Xg.ops_op (by kernel_rfl) (Xg.opx_pure ((Value.slice xa Z.length xc)) rfl (fun _ => by kernel_rfl) ?_)
        refine Xg.ops_op (by kernel_rfl) (Xg.opx_pure ((iv (↑i : Int))) rfl (fun _ => by kernel_rfl) ?_)
        refine Xg.ops_op (by kernel_rfl) (Xg.opx_run (.slice (Xg.subA xa xc i 1) (Z.length - i) (xc - i)) rfl (Xg.run_sl_lo (elem := 3) (a := xa) (c := xc) (len := Z.length) (k1 := .i64) (e1 := ((↑i : Int))) 1 i (by kernel_rfl) (by kernel_rfl) (by kernel_rfl) (by kernel_rfl) rfl (by omega)) ?_)
        refine Xg.ops_op (by kernel_rfl) (Xg.opx_pure ((Value.slice (some (Addr.mk b (0 : Nat) none)) (1 : Nat) (1 : Nat))) rfl (fun _ => by kernel_rfl) ?_))
      obtain ⟨Y, hY⟩ : ∃ Y, l.take i ++ [v] ++ Z.drop (i + 1) = Y := ⟨_, rfl⟩
      have hYl : Y.length = l.length + 1 := by rw [← hY, List.length_append, List.length_append, List.length_take, List.length_drop, List.length_singleton]; omega
      refine Xg.ops_op (by kernel_rfl) (Xg.opx_copy_in (elem := 3) (kd := .i64) (xs := Z) (ys := [v]) (a := xa) (c := xc) (ax := Xg.subA xa xc i 1) (cx := xc - i) (yv := .slice (some ⟨b, 0, none⟩) 1 1) 0 8 i (Z.length - i) Y 1 rfl (by kernel_rfl) (by kernel_rfl) (by kernel_rfl) (fun b e => by rw [e]; exact sub_at (by omega)) (by kernel_rfl) (fun w hS => Xg.row_rd hS 2 rfl (by kernel_rfl)) (by omega) (by omega) (by rw [hZt, List.take_of_length_le (l := [v]) (by rw [List.length_singleton]; omega), List.length_singleton, Nat.min_eq_left (by omega)]; exact hY) (by omega) (by rw [List.length_singleton, Nat.min_eq_left (by omega)]; rfl) ?_)
      rw [show Z.length = Y.length from by omega]
      have hYt : Y.take (i + 1) = l.take i ++ [v] := by
        rw [← hY, List.take_append_of_le_length (by rw [List.length_append, List.length_take, List.length_singleton]; omega), List.take_of_length_le (by rw [List.length_append, List.length_take, List.length_singleton]; omega)]
      have hYd : Y.drop (i + 1 + min (l.drop i).length (Y.length - (i + 1))) = [] := List.drop_eq_nil_of_le (by rw [List.length_drop]; omega)
      have hdl : (l.drop i).length = l.length - i := List.length_drop
      have hWl : (l.take i ++ v :: l.drop i).length = Y.length := by rw [List.length_append, List.length_cons, List.length_take, hdl]; omega
      (focus
        refine Xg.ops_nil ?_
        refine Xg.at_seq ?_
        refine Xg.at_draw [8] [] (by kernel_rfl) ?_
        refine Xg.any_pure ((Value.slice xa Y.length xc)) 0 (by kernel_rfl) rfl (by kernel_rfl) (by kernel_rfl) (by kernel_rfl) (by kernel_rfl) rfl (fun _ => by kernel_rfl) ?_
        refine Xg.any_pure ((iv (↑i : Int))) 1 (by kernel_rfl) rfl (by kernel_rfl) (by kernel_rfl) (by kernel_rfl) (by kernel_rfl) rfl (fun _ => by kernel_rfl) ?_
        refine Xg.any_pure ((iv 1)) 2 (by kernel_rfl) rfl (by kernel_rfl) (by kernel_rfl) (by kernel_rfl) (by kernel_rfl) rfl (fun _ => by kernel_rfl) ?_
        refine Xg.any_int .i64 (IntKind.wrap .i64 (((↑i : Int) + (1 : Int)))) 3 (by kernel_rfl) rfl (by kernel_rfl) (by kernel_rfl) (by kernel_rfl) (by kernel_rfl) rfl (fun _ => by kernel_rfl) (Xg.wrap_i64_in (by omega)) ?_
        refine Xg.any_pure (.slice (Xg.subA xa xc (((↑i : Int) + (1 : Int)).toNat) 1) (Y.length - (((↑i : Int) + (1 : Int)).toNat)) (xc - (((↑i : Int) + (1 : Int)).toNat))) 4 (by kernel_rfl) rfl (by kernel_rfl) (by kernel_rfl) (by kernel_rfl) (by kernel_rfl) rfl (Xg.run_sl_lo (elem := 3) (a := xa) (c := xc) (len := Y.length) (k1 := .i64) (e1 := ((↑i : Int) + (1 : Int))) 1 (((↑i : Int) + (1 : Int)).toNat) (by kernel_rfl) (by kernel_rfl) (by kernel_rfl) (by kernel_rfl) (by omega) (by omega)) ?_
        refine Xg.any_pure ((Value.slice a l.length c)) 5 (by kernel_rfl) rfl (by kernel_rfl) (by kernel_rfl) (by kernel_rfl) (by kernel_rfl) rfl (fun _ => by kernel_rfl) ?_
        refine Xg.any_pure ((iv (↑i : Int))) 6 (by kernel_rfl) rfl (by kernel_rfl) (by kernel_rfl) (by kernel_rfl) (by kernel_rfl) rfl (fun _ => by kernel_rfl) ?_
        refine Xg.any_pure (.slice (Xg.subA a c i 1) (l.length - i) (c - i)) 7 (by kernel_rfl) rfl (by kernel_rfl) (by kernel_rfl) (by kernel_rfl) (by kernel_rfl) rfl (Xg.run_sl_lo (elem := 3) (a := a) (c := c) (len := l.length) (k1 := .i64) (e1 := ((↑i : Int))) 1 i (by kernel_rfl) (by kernel_rfl) (by kernel_rfl) (by kernel_rfl) rfl (by omega)) ?_)
      refine Xg.any_each [8] (by kernel_rfl) rfl ⟨?_, trivial⟩
      refine Xg.comes_act rfl (by kernel_rfl) (by kernel_rfl) (Xg.opx_copy_in (elem := 3) (kd := .i64) (xs := Y) (ys := l.drop i) (a := xa) (c := xc) (ax := Xg.subA xa xc (i + 1) 1) (cx := xc - (i + 1)) (yv := .slice (Xg.subA a c i 1) (l.length - i) (c - i)) 0 8 (i + 1) (Y.length - (i + 1)) (l.take i ++ v :: l.drop i) ((l.length - i : Nat) : Int) rfl (by kernel_rfl) (by kernel_rfl) (by kernel_rfl) (fun b e => by rw [e]; exact sub_at (by omega)) (by kernel_rfl) (fun w hS => by have h := reads_rd (Xg.reads_ints_part (E := 3) (kd := .i64) (a := a) (c := c) (xs := l) i l.length hi (Nat.le_refl _)) 1 rfl hS; rw [List.take_of_length_le (by omega)] at h; rw [hdl]; exact h) (by omega) (by omega) (by rw [hYt, hYd, List.take_of_length_le (l := l.drop i) (by omega), List.append_nil, List.append_assoc]; rfl) hWl (by rw [hdl, Nat.min_eq_left (by omega)]) ?_)
      refine Xg.acts Xg.owes_nil ?_
      rw [hYl]
      (focus
        refine Xg.any_nil (by kernel_rfl) ?_
        refine Xg.at_seq ?_
        refine Xg.at_region ?_
        refine Xg.ops_op (by kernel_rfl) (Xg.opx_pure ((Value.slice xa (l.length + (1 : Nat)) xc)) rfl (fun _ => by kernel_rfl) ?_)
        refine Xg.ops_op (by kernel_rfl) (Xg.opx_pure ((Value.slice xa (l.length + (1 : Nat)) xc)) rfl (fun _ => by kernel_rfl) ?_)
        refine Xg.ops_nil ?_
        refine Xg.at_ret_ps (v := (Value.slice xa (l.length + (1 : Nat)) xc)) [0] [ints (3 : TypeId) IntKind.i64 xa xc (List.take i l ++ v :: List.drop i l)] Go.Proofs.Try.func65 (fun _ => by kernel_rfl) (by kernel_rfl) (by kernel_rfl) ?_
        refine ⟨((xa, xc)), trivial, by kernel_rfl, by kernel_rfl⟩)
    · (focus
        refine Xg.spec_of Go.Proofs.Try.func65 rfl Go.Proofs.Try.ntmps65 fun g F => ?_)
      refine Xg.at_own 0 rfl fun h1 h2 _ _ => ?_
      unfold maxLen at h2
      (focus
        refine Xg.at_seq ?_
        refine Xg.at_region ?_
        refine Xg.ops_op (by kernel_rfl) (Xg.opx_pure ((Value.slice none (0 : Nat) (0 : Nat))) rfl (fun _ => by kernel_rfl) ?_)
        refine Xg.ops_nil ?_
        refine Xg.at_seq ?_
        refine Xg.at_region ?_
        refine Xg.ops_op (by kernel_rfl) (Xg.opx_pure ((Value.slice a l.length c)) rfl (fun _ => by kernel_rfl) ?_)
        refine Xg.ops_op (by kernel_rfl) (Xg.opx_pure ((iv (↑i : Int))) rfl (fun _ => by kernel_rfl) ?_)
        refine Xg.ops_op (by kernel_rfl) (Xg.opx_run (.slice (Xg.subA a c i 1) (l.length - i) (c - i)) rfl (Xg.run_sl_lo (elem := 3) (a := a) (c := c) (len := l.length) (k1 := .i64) (e1 := ((↑i : Int))) 1 i (by kernel_rfl) (by kernel_rfl) (by kernel_rfl) (by kernel_rfl) rfl (by omega)) ?_)
        refine Xg.ops_nil ?_
        refine Xg.at_seq ?_
        refine Xg.at_region ?_
        refine Xg.ops_op (by kernel_rfl) (Xg.opx_pure ((Value.slice (some (Addr.mk b (0 : Nat) none)) (1 : Nat) (1 : Nat))) rfl (fun _ => by kernel_rfl) ?_)
        refine Xg.ops_op (by kernel_rfl) (Xg.opx_pure ((iv 1)) rfl (fun _ => by kernel_rfl) ?_)
        refine Xg.ops_op (by kernel_rfl) (Xg.opx_pure ((iv 1)) rfl (fun _ => by kernel_rfl) ?_)
        refine Xg.ops_nil ?_
        refine Xg.at_seq ?_
        refine Xg.at_seq ?_
        refine Xg.at_region ?_
        refine Xg.ops_op (by kernel_rfl) (Xg.opx_pure ((iv 1)) rfl (fun _ => by kernel_rfl) ?_)
        refine Xg.ops_op (by kernel_rfl) (Xg.opx_pure ((Value.bool false)) rfl (fun _ => by kernel_rfl) ?_)
        refine Xg.ops_nil ?_
        refine Xg.at_false (t := false) (by kernel_rfl) rfl ?_
        refine Xg.at_skip ?_
        refine Xg.at_seq ?_
        refine Xg.at_region ?_
        refine Xg.ops_op (by kernel_rfl) (Xg.opx_pure ((Value.slice a l.length c)) rfl (fun _ => by kernel_rfl) ?_)
        refine Xg.ops_op (by kernel_rfl) (Xg.opx_pure ((iv (↑l.length : Int))) rfl (fun _ => by kernel_rfl) ?_)
        refine Xg.ops_op (by kernel_rfl) (Xg.opx_pure ((iv (↑l.length : Int))) rfl (fun _ => by kernel_rfl) ?_)
        refine Xg.ops_nil ?_
        refine Xg.at_seq ?_
        refine Xg.at_seq ?_
        refine Xg.at_region ?_
        refine Xg.ops_op (by kernel_rfl) (Xg.opx_pure ((iv (↑i : Int))) rfl (fun _ => by kernel_rfl) ?_)
        refine Xg.ops_op (by kernel_rfl) (Xg.opx_pure ((iv (↑l.length : Int))) rfl (fun _ => by kernel_rfl) ?_)
        refine Xg.ops_op (by kernel_rfl) (Xg.opx_pure (.bool (decide ((((↑i : Int)) : Int) = ((↑l.length : Int))))) rfl (fun _ => by kernel_rfl) ?_)
        refine Xg.ops_nil ?_
        refine Xg.at_false (t := decide (((↑i : Int) = (↑l.length : Int)))) (by kernel_rfl) (decide_eq_false (by omega)) ?_
        refine Xg.at_skip ?_
        refine Xg.at_seq ?_
        refine Xg.at_seq ?_
        refine Xg.at_region ?_
        refine Xg.ops_op (by kernel_rfl) (Xg.opx_pure ((iv (↑l.length : Int))) rfl (fun _ => by kernel_rfl) ?_)
        refine Xg.ops_op (by kernel_rfl) (Xg.opx_pure ((iv 1)) rfl (fun _ => by kernel_rfl) ?_)
        refine Xg.ops_op (by kernel_rfl) (Xg.opx_int .i64 (IntKind.wrap .i64 (((↑l.length : Int) + (1 : Int)))) rfl (fun _ => by kernel_rfl) (Xg.wrap_i64_in (by omega)) ?_)
        refine Xg.ops_op (by kernel_rfl) (Xg.opx_pure ((Value.slice a l.length c)) rfl (fun _ => by kernel_rfl) ?_)
        refine Xg.ops_op (by kernel_rfl) (Xg.opx_pure ((iv (↑c : Int))) rfl (fun _ => by kernel_rfl) ?_)
        refine Xg.ops_op (by kernel_rfl) (Xg.opx_pure (.bool (decide ((((↑l.length : Int) + (1 : Int)) : Int) > ((↑c : Int))))) rfl (fun _ => by kernel_rfl) ?_)
        refine Xg.ops_nil ?_
        refine Xg.at_false (t := decide (((↑l.length : Int) + (1 : Int) > (↑c : Int)))) (by kernel_rfl) (decide_eq_false (by omega)) ?_
        refine Xg.at_skip ?_
        refine Xg.at_seq ?_
        refine Xg.at_region ?_
        refine Xg.ops_op (by kernel_rfl) (Xg.opx_pure ((Value.slice a l.length c)) rfl (fun _ => by kernel_rfl) ?_)
        refine Xg.ops_op (by kernel_rfl) (Xg.opx_pure ((iv (↑l.length : Int))) rfl (fun _ => by kernel_rfl) ?_)
        refine Xg.ops_op (by kernel_rfl) (Xg.opx_pure ((iv 1)) rfl (fun _ => by kernel_rfl) ?_)
        refine Xg.ops_op (by kernel_rfl) (Xg.opx_int .i64 (IntKind.wrap .i64 (((↑l.length : Int) + (1 : Int)))) rfl (fun _ => by kernel_rfl) (Xg.wrap_i64_in (by omega)) ?_)
        refine Xg.ops_op (by kernel_rfl) (Xg.opx_run (.slice a (((↑l.length : Int) + (1 : Int)).toNat) c) rfl (Xg.run_sl_hi (elem := 3) (a := a) (c := c) (len := l.length) (k2 := .i64) (e2 := ((↑l.length : Int) + (1 : Int))) 1 (((↑l.length : Int) + (1 : Int)).toNat) (by kernel_rfl) (by kernel_rfl) (by kernel_rfl) (by kernel_rfl) (by omega) (by omega)) ?_)
        refine Xg.ops_op (by kernel_rfl) (Xg.opx_pure ((Value.slice a ((↑l.length : Int) + (1 : Int)).toNat c)) rfl (fun _ => by kernel_rfl) ?_)
        refine Xg.ops_nil ?_
        refine Xg.at_seq ?_
        refine Xg.at_seq ?_)
      rw [show ((l.length : Int) + 1).toNat = l.length + 1 from by omega]
      refine Xg.at_widen (m := 1) 0 rfl (by omega) (by omega) fun sp hsp => ?_
      obtain ⟨q, rfl⟩ : ∃ q, sp = [q] := by
        cases sp with
        | nil => cases hsp
        | cons q t => cases t with
          | nil => exact ⟨q, rfl⟩
          | cons _ _ => cases hsp
      obtain ⟨V, hV⟩ : ∃ V, l.map (Value.int .i64) ++ [q] = V := ⟨_, rfl⟩
      have hVl : V.length = l.length + 1 := by rw [← hV, List.length_append, List.length_map, List.length_singleton]
      rw [hV]
      (focus
        refine Xg.at_region ?_
        refine Xg.ops_op (by kernel_rfl) (Xg.opx_pure ((Value.slice (some (Addr.mk b (0 : Nat) none)) (1 : Nat) (1 : Nat))) rfl (fun _ => by kernel_rfl) ?_)
        refine Xg.ops_op (by kernel_rfl) (Xg.opx_pure ((Value.slice a (l.length + (1 : Nat)) c)) rfl (fun _ => by kernel_rfl) ?_)
        refine Xg.ops_op (by kernel_rfl) (Xg.opx_pure ((iv (↑i : Int))) rfl (fun _ => by kernel_rfl) ?_)
        refine Xg.ops_op (by kernel_rfl) (Xg.opx_pure ((iv 1)) rfl (fun _ => by kernel_rfl) ?_)
        refine Xg.ops_op (by kernel_rfl) (Xg.opx_int .i64 (IntKind.wrap .i64 (((↑i : Int) + (1 : Int)))) rfl (fun _ => by kernel_rfl) (Xg.wrap_i64_in (by omega)) ?_)
        refine Xg.ops_op (by kernel_rfl) (Xg.opx_run (.slice (Xg.subA a c (((↑i : Int) + (1 : Int)).toNat) 1) ((l.length + (1 : Nat)) - (((↑i : Int) + (1 : Int)).toNat)) (c - (((↑i : Int) + (1 : Int)).toNat))) rfl (Xg.run_sl_lo (elem := 3) (a := a) (c := c) (len := (l.length + (1 : Nat))) (k1 := .i64) (e1 := ((↑i : Int) + (1 : Int))) 1 (((↑i : Int) + (1 : Int)).toNat) (by kernel_rfl) (by kernel_rfl) (by kernel_rfl) (by kernel_rfl) (by omega) (by omega)) ?_))
      refine Xg.ops_op (by kernel_rfl) (Xg.opx_tells (v := .bool false) (fun w hS => Eq.trans (b := Sem.run Try.prog (callFunc 81 #[.slice (some ⟨b, 0, none⟩) 1 1, .slice (Xg.subA a c (i + 1) 1) (l.length + 1 - (i + 1)) (c - (i + 1))]) w) (by kernel_rfl) ?_) ?_)
      · obtain ⟨_, ⟨_, h0, _⟩ | ⟨ab, cap, sp', e, _, _, _, hrw⟩⟩ := (sl_at 0 rfl hS).own_cases
        · omega
        · cases e
          rw [run_callFunc_extern Try.func81 (by kernel_rfl) (by kernel_rfl) (by kernel_rfl) (e := Extern.SlicesOverlaps.overlaps #[24, 24] #[4]) (by kernel_rfl), sub_at (by omega), overlaps_apart (e := 3) (by_ := 8) (kd := .i64) (by kernel_rfl) (by kernel_rfl) (hrw.pull 1) (fun e => by have := congrArg List.length e; rw [List.length_append, List.length_nil] at this; omega)]
          rfl
      (focus
        refine Xg.ops_op (by kernel_rfl) (Xg.opx_pure (.bool true) rfl (fun _ => by kernel_rfl) ?_)
        refine Xg.ops_nil ?_
        refine Xg.at_true (t := true) (by kernel_rfl) rfl ?_
        refine Xg.at_seq ?_
        refine Xg.at_draw [8] [] (by kernel_rfl) ?_
        refine Xg.any_pure ((Value.slice a (l.length + (1 : Nat)) c)) 0 (by kernel_rfl) rfl (by kernel_rfl) (by kernel_rfl) (by kernel_rfl) (by kernel_rfl) rfl (fun _ => by kernel_rfl) ?_
        refine Xg.any_pure ((iv (↑i : Int))) 1 (by kernel_rfl) rfl (by kernel_rfl) (by kernel_rfl) (by kernel_rfl) (by kernel_rfl) rfl (fun _ => by kernel_rfl) ?_
        refine Xg.any_pure ((iv 1)) 2 (by kernel_rfl) rfl (by kernel_rfl) (by kernel_rfl) (by kernel_rfl) (by kernel_rfl) rfl (fun _ => by kernel_rfl) ?_
        refine Xg.any_int .i64 (IntKind.wrap .i64 (((↑i : Int) + (1 : Int)))) 3 (by kernel_rfl) rfl (by kernel_rfl) (by kernel_rfl) (by kernel_rfl) (by kernel_rfl) rfl (fun _ => by kernel_rfl) (Xg.wrap_i64_in (by omega)) ?_
        refine Xg.any_pure (.slice (Xg.subA a c (((↑i : Int) + (1 : Int)).toNat) 1) ((l.length + (1 : Nat)) - (((↑i : Int) + (1 : Int)).toNat)) (c - (((↑i : Int) + (1 : Int)).toNat))) 4 (by kernel_rfl) rfl (by kernel_rfl) (by kernel_rfl) (by kernel_rfl) (by kernel_rfl) rfl (Xg.run_sl_lo (elem := 3) (a := a) (c := c) (len := (l.length + (1 : Nat))) (k1 := .i64) (e1 := ((↑i : Int) + (1 : Int))) 1 (((↑i : Int) + (1 : Int)).toNat) (by kernel_rfl) (by kernel_rfl) (by kernel_rfl) (by kernel_rfl) (by omega) (by omega)) ?_
        refine Xg.any_pure ((Value.slice a (l.length + (1 : Nat)) c)) 5 (by kernel_rfl) rfl (by kernel_rfl) (by kernel_rfl) (by kernel_rfl) (by kernel_rfl) rfl (fun _ => by kernel_rfl) ?_
        refine Xg.any_pure ((iv (↑i : Int))) 6 (by kernel_rfl) rfl (by kernel_rfl) (by kernel_rfl) (by kernel_rfl) (by kernel_rfl) rfl (fun _ => by kernel_rfl) ?_
        refine Xg.any_pure (.slice (Xg.subA a c i 1) ((l.length + (1 : Nat)) - i) (c - i)) 7 (by kernel_rfl) rfl (by kernel_rfl) (by kernel_rfl) (by kernel_rfl) (by kernel_rfl) rfl (Xg.run_sl_lo (elem := 3) (a := a) (c := c) (len := (l.length + (1 : Nat))) (k1 := .i64) (e1 := ((↑i : Int))) 1 i (by kernel_rfl) (by kernel_rfl) (by kernel_rfl) (by kernel_rfl) rfl (by omega)) ?_)
      obtain ⟨V1, hV1⟩ : ∃ V1, V.take (i + 1) ++ (V.drop i).take (l.length - i) = V1 := ⟨_, rfl⟩
      have hdv : (V.drop i).length = l.length + 1 - i := by rw [List.length_drop, hVl]
      have hV1l : V1.length = l.length + 1 := by rw [← hV1, List.length_append, List.length_take, List.length_take, hdv, hVl]; omega
      have hmm : l.length + 1 - (i + 1) = l.length - i := by omega
      refine Xg.any_each [8] (by kernel_rfl) rfl ⟨?_, trivial⟩
      refine Xg.comes_act rfl (by kernel_rfl) (by kernel_rfl) (Xg.opx_copy_own (elem := 3) (kd := .i64) (vs := V) (ys := V.drop i) (a := a) (n := l.length + 1) (c := c) (ax := Xg.subA a c (i + 1) 1) (cx := c - (i + 1)) (yv := .slice (Xg.subA a c i 1) (l.length + 1 - i) (c - i)) 0 8 (i + 1) (l.length + 1 - (i + 1)) V1 ((l.length - i : Nat) : Int) rfl (by kernel_rfl) (by kernel_rfl) (by kernel_rfl) (fun b e => by rw [e]; exact sub_at (by omega)) (by kernel_rfl) (fun w hS => by have h := reads_rd (Xg.reads_part (E := 3) (sz := 1) (a := a) (c := c) (vs := V) i (l.length + 1) (by omega) (Nat.le_refl _)) 0 rfl hS; rw [Nat.mul_one, Nat.mul_one, List.take_of_length_le (by omega)] at h; rw [hdv]; exact h) (fun z hz => ?_) (by omega) hVl (by omega) (by rw [hmm, hdv, Nat.min_eq_right (by omega), show V.drop (i + 1 + (l.length - i)) = [] from List.drop_eq_nil_of_le (by omega), List.append_nil]; exact hV1) hV1l (by rw [hmm, hdv, Nat.min_eq_right (by omega)]) ?_)
      · rw [hmm, ← hV, List.drop_append_of_le_length (by rw [List.length_map]; omega), List.take_append_of_le_length (by rw [List.length_drop, List.length_map]; omega), ← List.map_drop, ← List.map_take] at hz
        obtain ⟨y, _, rfl⟩ := List.mem_map.1 hz; rfl
      refine Xg.acts Xg.owes_nil ?_
      (focus
        refine Xg.any_nil (by kernel_rfl) ?_
        refine Xg.at_seq ?_
        refine Xg.at_region ?_
        refine Xg.ops_op (by kernel_rfl) (Xg.opx_pure ((Value.slice a (l.length + (1 : Nat)) c)) rfl (fun _ => by kernel_rfl) ?_)
        refine Xg.ops_op (by kernel_rfl) (Xg.opx_pure ((iv (↑i : Int))) rfl (fun _ => by kernel_rfl) ?_)
        refine Xg.ops_op (by kernel_rfl) (Xg.opx_run (.slice (Xg.subA a c i 1) ((l.length + (1 : Nat)) - i) (c - i)) rfl (Xg.run_sl_lo (elem := 3) (a := a) (c := c) (len := (l.length + (1 : Nat))) (k1 := .i64) (e1 := ((↑i : Int))) 1 i (by kernel_rfl) (by kernel_rfl) (by kernel_rfl) (by kernel_rfl) rfl (by omega)) ?_)
        refine Xg.ops_op (by kernel_rfl) (Xg.opx_pure ((Value.slice (some (Addr.mk b (0 : Nat) none)) (1 : Nat) (1 : Nat))) rfl (fun _ => by kernel_rfl) ?_))
      have hfin : V1.take i ++ [Value.int .i64 v] ++ V1.drop (i + 1) = (l.take i ++ v :: l.drop i).map (Value.int .i64) := by
        have e0 : V.take (i + 1) = (l.take (i + 1)).map (Value.int .i64) := by rw [← hV, List.take_append_of_le_length (by rw [List.length_map]; omega), List.map_take]
        have e1 : V1.take i = (l.take i).map (Value.int .i64) := by rw [← hV1, List.take_append_of_le_length (by rw [List.length_take]; omega), List.take_take, Nat.min_eq_left (by omega), ← hV, List.take_append_of_le_length (by rw [List.length_map]; omega), List.map_take]
        have e2 : V1.drop (i + 1) = (l.drop i).map (Value.int .i64) := by
          rw [← hV1, List.drop_append_of_le_length (by rw [List.length_take]; omega), List.drop_eq_nil_of_le (by rw [List.length_take]; omega), List.nil_append, ← hV, List.drop_append_of_le_length (by rw [List.length_map]; omega), List.take_append_of_le_length (by rw [List.length_drop, List.length_map]; omega), List.take_of_length_le (by rw [List.length_drop, List.length_map]; omega), List.map_drop]
        rw [e1, e2, List.map_append, List.map_cons, List.append_assoc]; rfl
      have hfl : (l.take i ++ v :: l.drop i).length = l.length + 1 := by rw [List.length_append, List.length_cons, List.length_take, List.length_drop]; omega
      refine Xg.ops_op (by kernel_rfl) (Xg.opx_copy_own (elem := 3) (kd := .i64) (vs := V1) (ys := [.int .i64 v]) (a := a) (n := l.length + 1) (c := c) (ax := Xg.subA a c i 1) (cx := c - i) (yv := .slice (some ⟨b, 0, none⟩) 1 1) 0 8 i (l.length + 1 - i) ((l.take i ++ v :: l.drop i).map (Value.int .i64)) 1 rfl (by kernel_rfl) (by kernel_rfl) (by kernel_rfl) (fun b e => by rw [e]; exact sub_at (by omega)) (by kernel_rfl) (fun w hS => Xg.row_rd hS 1 rfl (by kernel_rfl)) (fun z hz => by obtain rfl := List.mem_singleton.1 (List.mem_of_mem_take hz); rfl) (by omega) hV1l (by omega) (by rw [List.take_of_length_le (l := [Value.int .i64 v]) (by rw [List.length_singleton]; omega), List.length_singleton, Nat.min_eq_left (by omega)]; exact hfin) (by rw [List.length_map]; exact hfl) (by rw [List.length_singleton, Nat.min_eq_left (by omega)]; rfl) ?_)
      (focus
        refine Xg.ops_nil ?_
        refine Xg.at_seq ?_
        refine Xg.at_region ?_
        refine Xg.ops_op (by kernel_rfl) (Xg.opx_pure ((Value.slice a (l.length + (1 : Nat)) c)) rfl (fun _ => by kernel_rfl) ?_)
        refine Xg.ops_op (by kernel_rfl) (Xg.opx_pure ((Value.slice a (l.length + (1 : Nat)) c)) rfl (fun _ => by kernel_rfl) ?_)
        refine Xg.ops_nil ?_
        refine Xg.at_ret_ps (v := (Value.slice a (l.length + (1 : Nat)) c)) [0] [ownS (3 : TypeId) (1 : Nat) (Value.slice a (l.length + (1 : Nat)) c) (l.length + (1 : Nat)) (List.map (Value.int IntKind.i64) (List.take i l ++ v :: List.drop i l))] Go.Proofs.Try.func65 (fun _ => by kernel_rfl) (by kernel_rfl) (by kernel_rfl) ?_
        refine ⟨((a, c)), trivial, by kernel_rfl, ?_⟩)
      dsimp only
      unfold I2 Xg.ints
      rw [hfl]
end Go.Proofs.Ytmplimmcjdkhlaa

/- The arena package: put into a sorted free list. -/
namespace Go.Proofs.Ytmplimmcjdkhlaa
open Go.Sl Go.Xg
set_option linter.unusedVariables false
set_option linter.unusedSimpArgs false
set_option linter.unnecessarySimpa false
set_option maxHeartbeats 4000000
set_option maxRecDepth 100000


/-- Into a sorted list. -/
def sins (v : Int) (l : List Int) : List Int := l.takeWhile (fun x => decide (x < v)) ++ v :: l.dropWhile (fun x => decide (x < v))
theorem tw_take (v : Int) : ∀ (l : List Int) (i : Nat), i ≤ l.length → (∀ j, j < i → l.getD j 0 < v) → (∀ j, i ≤ j → j < l.length → v ≤ l.getD j 0) → l.takeWhile (fun x => decide (x < v)) = l.take i ∧ l.dropWhile (fun x => decide (x < v)) = l.drop i
  | [], i, h, _, _ => by simp
  | x :: l, 0, h, h1, h2 => by
    have := h2 0 (Nat.le_refl _) (by simp)
    have hx : decide (x < v) = false := decide_eq_false (by simp at this; omega)
    simp [List.takeWhile_cons, List.dropWhile_cons, hx]
  | x :: l, i + 1, h, h1, h2 => by
    have h0 := h1 0 (by omega)
    have hx : decide (x < v) = true := decide_eq_true (by simpa using h0)
    obtain ⟨e1, e2⟩ := tw_take v l i (by simpa using h) (fun j hj => by simpa using h1 (j + 1) (by omega)) (fun j hj hj2 => by simpa using h2 (j + 1) (by omega) (by simpa using hj2))
    simp [List.takeWhile_cons, List.dropWhile_cons, hx, e1, e2]
theorem sins_len (v : Int) (l : List Int) : (sins v l).length = l.length + 1 := by
  unfold sins
  have := congrArg List.length (List.takeWhile_append_dropWhile (p := fun x => decide (x < v)) (l := l))
  rw [List.length_append] at this
  rw [List.length_append, List.length_cons]; omega

/-- A sorted list of numbers. -/
def Sd (l : List Int) : Prop := l.Pairwise (· ≤ ·) ∧ (∀ x ∈ l, 0 ≤ x ∧ x ≤ 1000000) ∧ l.length ≤ 100000
theorem Sd.at {l : List Int} (h : Sd l) : (∀ i j, i ≤ j → j < l.length → l.getD i 0 ≤ l.getD j 0) ∧ (∀ i, i < l.length → 0 ≤ l.getD i 0 ∧ l.getD i 0 ≤ 1000000) ∧ l.length ≤ 100000 := by
  refine ⟨fun i j hij hj => ?_, fun i hi => ?_, h.2.2⟩
  · rw [List.getD_eq_getElem?_getD, List.getD_eq_getElem?_getD, List.getElem?_eq_getElem hj, List.getElem?_eq_getElem (by omega)]
    by_cases e : i = j
    · subst e; exact Int.le_refl _
    · exact List.pairwise_iff_getElem.1 h.1 i j (by omega) hj (by omega)
  · rw [List.getD_eq_getElem?_getD, List.getElem?_eq_getElem hi]
    exact h.2.1 _ (List.getElem_mem hi)
theorem putB (b : Nat) (s : Int) (a : Option Addr) (c : Nat) (l : List Int) (v : Int) (hs : Sd l) (hv : 0 ≤ v ∧ v ≤ 1000000) : Does Try.prog 35 [.pointer (some ⟨b, 1, none⟩), .int .i64 v] [row b 98 [.int .i64 s, .slice a l.length c, fnO], I2 a c l]
    (RetE (fun x : Option Addr × Nat => True) (fun x => .tuple #[]) (fun x => [row b 98 [.int .i64 s, .slice x.1 (sins v l).length x.2, fnO], I2 x.1 x.2 (sins v l)])) := by
  obtain ⟨hs1, hs2, hs3⟩ := hs.at
  have h1 := bsG a c l v hs1 hs2 hv hs3
  have h2 := fun b i hi => insG b a c i l v hi hs3
  rw [sins_len]
  have hS : ∀ i, i ≤ l.length → (∀ j, j < i → l.getD j 0 < v) → (∀ j, i ≤ j → j < l.length → v ≤ l.getD j 0) → l.take i ++ v :: l.drop i = sins v l := fun i a1 a2 a3 => by
    obtain ⟨e1, e2⟩ := tw_take v l i a1 a2 a3
    unfold sins; rw [e1, e2]
  (focus
    refine Xg.spec_of Go.Proofs.Try.func35 rfl Go.Proofs.Try.ntmps35 fun g F => ?_)
  (focus
    refine Xg.at_seq ?_
    refine Xg.at_draw [9] [(3, [0, 1, 2, 3, 4, 5, 6, 7, 8], Xg.CellIs (b) (((1 : Nat))) ((Value.slice a l.length c))), (8, [0, 1, 2, 3, 4, 5, 6, 7, 8], Xg.CellIs (b) (((2 : Nat))) ((Value.func (Fn.func (34 : Nat)) #[] #[])))] (by kernel_rfl) ?_
    refine Xg.any_pure ((pv b 1)) 0 (by kernel_rfl) rfl (by kernel_rfl) (by kernel_rfl) (by kernel_rfl) (by kernel_rfl) rfl (fun _ => by kernel_rfl) ?_
    refine Xg.any_pure ((pv b 1)) 1 (by kernel_rfl) rfl (by kernel_rfl) (by kernel_rfl) (by kernel_rfl) (by kernel_rfl) rfl (fun _ => by kernel_rfl) ?_
    refine Xg.any_pure ((pv b 1)) 2 (by kernel_rfl) rfl (by kernel_rfl) (by kernel_rfl) (by kernel_rfl) (by kernel_rfl) rfl (fun _ => by kernel_rfl) ?_
    refine Xg.any_reads (Value.slice a l.length c) 3 0 (by kernel_rfl) rfl (by kernel_rfl) (by kernel_rfl) (by kernel_rfl) (by kernel_rfl) rfl rfl (by kernel_rfl) (Xg.cell_now (b := b) (off := ((1 : Nat))) 0 rfl (by kernel_rfl)) (fun _ h => Xg.run_load (by kernel_rfl) (by kernel_rfl) h) ?_
    refine Xg.any_pure ((iv v)) 4 (by kernel_rfl) rfl (by kernel_rfl) (by kernel_rfl) (by kernel_rfl) (by kernel_rfl) rfl (fun _ => by kernel_rfl) ?_
    refine Xg.any_pure ((pv b 1)) 5 (by kernel_rfl) rfl (by kernel_rfl) (by kernel_rfl) (by kernel_rfl) (by kernel_rfl) rfl (fun _ => by kernel_rfl) ?_
    refine Xg.any_pure ((pv b 1)) 6 (by kernel_rfl) rfl (by kernel_rfl) (by kernel_rfl) (by kernel_rfl) (by kernel_rfl) rfl (fun _ => by kernel_rfl) ?_
    refine Xg.any_pure ((pv b 2)) 7 (by kernel_rfl) rfl (by kernel_rfl) (by kernel_rfl) (by kernel_rfl) (by kernel_rfl) rfl (fun _ => by kernel_rfl) ?_
    refine Xg.any_reads (Value.func (Fn.func (34 : Nat)) #[] #[]) 8 1 (by kernel_rfl) rfl (by kernel_rfl) (by kernel_rfl) (by kernel_rfl) (by kernel_rfl) rfl rfl (by kernel_rfl) (Xg.cell_now (b := b) (off := ((2 : Nat))) 0 rfl (by kernel_rfl)) (fun _ h => Xg.run_load (by kernel_rfl) (by kernel_rfl) h) ?_
    refine Xg.any_each [9] (by kernel_rfl) rfl ⟨?_, trivial⟩
    refine Xg.comes_act rfl (by kernel_rfl) (by kernel_rfl) (Xg.opx_callE' [1] (fun xx1 => [I2 a c l, row b (98 : TypeId) [iv s, Value.slice a l.length c, Value.func (Fn.func (34 : Nat)) #[] #[]]]) (fun _ => by kernel_rfl) (@h1 ) (by kernel_rfl) (by kernel_rfl) (by kernel_rfl) fun xx1 xh1 => ?_)
    try dsimp only at xh1
    obtain ⟨xh1_0, xh1_1, xh1_2⟩ := xh1
    refine Xg.acts (Xg.owes_skip (by kernel_rfl) (Xg.owes_skip (by kernel_rfl) Xg.owes_nil)) ?_
    refine Xg.any_pure ((Value.tuple #[iv (↑xx1.fst : Int), Value.bool xx1.snd])) 10 (by kernel_rfl) rfl (by kernel_rfl) (by kernel_rfl) (by kernel_rfl) (by kernel_rfl) rfl (fun _ => by kernel_rfl) ?_
    refine Xg.any_pure ((iv (↑xx1.fst : Int))) 11 (by kernel_rfl) rfl (by kernel_rfl) (by kernel_rfl) (by kernel_rfl) (by kernel_rfl) rfl (fun _ => by kernel_rfl) ?_
    refine Xg.any_pure ((Value.bool xx1.snd)) 12 (by kernel_rfl) rfl (by kernel_rfl) (by kernel_rfl) (by kernel_rfl) (by kernel_rfl) rfl (fun _ => by kernel_rfl) ?_
    refine Xg.any_pure ((iv (↑xx1.fst : Int))) 13 (by kernel_rfl) rfl (by kernel_rfl) (by kernel_rfl) (by kernel_rfl) (by kernel_rfl) rfl (fun _ => by kernel_rfl) ?_
    refine Xg.any_pure ((Value.bool xx1.snd)) 14 (by kernel_rfl) rfl (by kernel_rfl) (by kernel_rfl) (by kernel_rfl) (by kernel_rfl) rfl (fun _ => by kernel_rfl) ?_
    refine Xg.any_nil (by kernel_rfl) ?_
    refine Xg.at_region ?_
    refine Xg.ops_op (by kernel_rfl) (Xg.opx_pure ((pv b 1)) rfl (fun _ => by kernel_rfl) ?_)
    refine Xg.ops_op (by kernel_rfl) (Xg.opx_pure ((pv b 1)) rfl (fun _ => by kernel_rfl) ?_)
    refine Xg.ops_op (by kernel_rfl) (Xg.opx_pure ((pv b 1)) rfl (fun _ => by kernel_rfl) ?_)
    refine Xg.ops_op (by kernel_rfl) (Xg.opx_pure ((pv b 1)) rfl (fun _ => by kernel_rfl) ?_)
    refine Xg.ops_op (by kernel_rfl) (Xg.opx_load (b := b) (off := ((1 : Nat))) 1 (Value.slice a l.length c) rfl (by kernel_rfl) (by kernel_rfl) (by kernel_rfl) ?_)
    refine Xg.ops_op (by kernel_rfl) (Xg.opx_pure ((iv (↑xx1.fst : Int))) rfl (fun _ => by kernel_rfl) ?_)
    refine Xg.ops_op (by kernel_rfl) (Xg.opx_pure ((iv v)) rfl (fun _ => by kernel_rfl) ?_)
    refine Xg.ops_op (by kernel_rfl) (Xg.opx_bs (elem := 3) 1 [iv v] [iv v] (by kernel_rfl) (by kernel_rfl) (by decide) rfl (by kernel_rfl) (by kernel_rfl) (by kernel_rfl) (by kernel_rfl) fun xb1 => ?_)
    refine Xg.ops_op (by kernel_rfl) (Xg.opx_callE' [1, 0] (fun xx2 => [I2 xx2.fst xx2.snd (List.take xx1.fst l ++ v :: List.drop xx1.fst l), row b (98 : TypeId) [iv s, Value.slice a l.length c, Value.func (Fn.func (34 : Nat)) #[] #[]]]) (fun _ => by kernel_rfl) (@h2 (xb1) (xx1.fst) (by omega)) (by kernel_rfl) (by kernel_rfl) (by kernel_rfl) fun xx2 xh2 => ?_)
    try dsimp only at xh2
    refine Xg.ops_op (by kernel_rfl) (Xg.opx_pure ((pv b 1)) rfl (fun _ => by kernel_rfl) ?_)
    refine Xg.ops_op (by kernel_rfl) (Xg.opx_pure ((pv b 1)) rfl (fun _ => by kernel_rfl) ?_)
    refine Xg.ops_op (by kernel_rfl) (Xg.opx_store1 (off := 1) 1 (Value.slice xx2.fst (l.length + (1 : Nat)) xx2.snd) (by kernel_rfl) rfl (by kernel_rfl) (by kernel_rfl) (by kernel_rfl) (Nat.le_of_ble_eq_true (by kernel_rfl)) ?_)
    refine Xg.ops_nil ?_
    refine Xg.at_end_ps (v := (tu)) [1, 0] [row b (98 : TypeId) [iv s, Value.slice xx2.fst (l.length + (1 : Nat)) xx2.snd, Value.func (Fn.func (34 : Nat)) #[] #[]], I2 xx2.fst xx2.snd (List.take xx1.fst l ++ v :: List.drop xx1.fst l)] Go.Proofs.Try.func35 (fun _ => by kernel_rfl) (by kernel_rfl) (by kernel_rfl) ?_
    refine ⟨((xx2.fst, xx2.snd)), trivial, by kernel_rfl, ?_⟩)
  rw [hS _ xh1_0 xh1_1 xh1_2]
end Go.Proofs.Ytmplimmcjdkhlaa

/- The arena package, any Pool: back, Give. -/
namespace Go.Proofs.Ytmplimmcjdkhlaa
open Go.Sl Go.Xg
set_option linter.unusedVariables false
set_option linter.unusedSimpArgs false
set_option linter.unnecessarySimpa false
set_option maxHeartbeats 4000000
set_option maxRecDepth 100000


section
variable (p cb nc cc bb nb bc ab na : Nat) (u : Nat → Option Nat) (id r : Nat) (hid : id < na) (hna : na ≤ 64) (hu : u id = some r) (sp sq : List Value) (C : Nat → Cls) (B : Nat → Buf) (q us : Int) (ta : Option Addr) (tc : Nat) (tk : List Int)
include hid hna hu
end

theorem does_conv {pre pre' K : List HP} {f : FuncId} {args : List Value} {α β : Type} {pp : α → Prop} {V : α → Value} {PS : α → List HP} {q : β → Prop} {V' : β → Value} {QS : β → List HP}
    (h : Does Try.prog f args pre' (RetE pp V PS)) (h1 : ∀ g w F, SL g (pre ++ F) w → SL g (pre' ++ (K ++ F)) w) (h2 : ∀ x, pp x → ∀ g w F, SL g (PS x ++ (K ++ F)) w → ∃ y, q y ∧ V x = V' y ∧ SL g (QS y ++ F) w) : Does Try.prog f args pre (RetE q V' QS) := by
  constructor
  intro g F w hS cs
  obtain ⟨e, w', fr, ⟨v, ps, ⟨x, hx, rfl, rfl⟩, rfl, h3⟩, h4⟩ := h.run g (K ++ F) w (h1 _ _ _ hS) cs
  obtain ⟨y, hy, hv, hs⟩ := h2 x hx _ _ _ h3
  exact ⟨_, w', fr, ⟨_, _, ⟨y, hy, hv, rfl⟩, rfl, hs⟩, h4⟩
def giveσ (σ : Po) (id : Nat) (r : Ar) (b i : Nat) : Po := { σ with fr := updF σ.fr (σ.cl b) (sins b (σ.fr (σ.cl b))), bs := updF σ.bs b none, ar := updF σ.ar id (some ⟨r.q, r.us - σ.size (σ.cl b), r.tk.eraseIdx i⟩) }
end Go.Proofs.Ytmplimmcjdkhlaa

/- The arena package, any Pool: Close. -/
namespace Go.Proofs.Ytmplimmcjdkhlaa
open Go.Sl Go.Xg
set_option linter.unusedVariables false
set_option linter.unusedSimpArgs false
set_option linter.unnecessarySimpa false
set_option maxHeartbeats 4000000
set_option maxRecDepth 100000


def backB (B : Nat → Buf) (l : List Int) : Nat → Buf := l.foldl (fun B b => updF B b.toNat ⟨(B b.toNat).cls, nA, 0, 0⟩) B
def backF (cl : Nat → Nat) (fr : Nat → List Int) (l : List Int) : Nat → List Int := l.foldl (fun fr b => updF fr (cl b.toNat) (sins b (fr (cl b.toNat)))) fr
def backS (bs : Nat → Option (List Int)) (l : List Int) : Nat → Option (List Int) := l.foldl (fun bs b => updF bs b.toNat none) bs
section
variable (p cb nc cc bb nb bc ab na : Nat) (u : Nat → Option Nat) (id r : Nat) (hid : id < na) (hna : na ≤ 64) (hu : u id = some r) (sp sq : List Value) (C : Nat → Cls) (B : Nat → Buf) (q us : Int) (ta : Option Addr) (tc : Nat) (tk : List Int)
include hid hna hu
end

def closeσ (σ : Po) (id : Nat) (r : Ar) : Po := { σ with fr := backF σ.cl σ.fr r.tk, bs := backS σ.bs r.tk, ar := updF σ.ar id none }
end Go.Proofs.Ytmplimmcjdkhlaa

/- The arena package, any Pool: Leases. -/
namespace Go.Proofs.Ytmplimmcjdkhlaa
open Go.Sl Go.Xg
set_option linter.unusedVariables false
set_option linter.unusedSimpArgs false
set_option linter.unnecessarySimpa false
set_option maxHeartbeats 4000000
set_option maxRecDepth 100000


section
variable {P : Program} {g : World} {F : List HP} {T : List Value} {L : List HP} {K : List Value → List HP → Prop}
end

abbrev leK (x : Int × Int × Int) : List Value := [.int .i64 x.1, .int .i64 x.2.1, .int .i64 x.2.2]
noncomputable abbrev leR (n : Nat) (f : Nat → Int × Int × Int) : List Value := rowF leK n [] f
section
variable (p cb nc cc bb nb bc ab na : Nat) (u : Nat → Option Nat) (id r : Nat) (hid : id < na) (hna : na ≤ 64) (hu : u id = some r) (sp sq : List Value) (C : Nat → Cls) (B : Nat → Buf) (q us : Int) (ta : Option Addr) (tc : Nat) (tk : List Int)
include hid hna hu
/-- What is told of a buffer. -/
def leOf (cl : Nat → Nat) (size : Nat → Int) (b : Int) : Int × Int × Int := (b, (cl b.toNat : Int), size (cl b.toNat))
end

/-- What is told of an arena's buffers. -/
def lesOf (σ : Po) (tk : List Int) : List (Int × Int × Int) := tk.map (leOf σ.cl fun k => (σ.size k : Int))
end Go.Proofs.Ytmplimmcjdkhlaa

/- The arena package: New, any classes. -/
namespace Go.Proofs.Ytmplimmcjdkhlaa
open Go.Sl Go.Xg
set_option linter.unusedVariables false
set_option linter.unusedSimpArgs false
set_option linter.unnecessarySimpa false
set_option maxHeartbeats 4000000
set_option maxRecDepth 100000

abbrev kC (x : Int × Int) : List Value := [.int .i64 x.1, .int .i64 x.2]
def totK : List (Int × Int) → Int
  | [] => 0
  | x :: l => x.1 * x.2 + totK l
theorem totK_one (l : List (Int × Int)) (x : Int × Int) : totK (l ++ [x]) = totK l + x.1 * x.2 := by
  induction l with
  | nil => simp [totK]
  | cons y l ih => simp only [List.cons_append, totK, ih]; omega
def prevK (ks : List (Int × Int)) (i : Nat) : Int := if i = 0 then 0 else (ks.getD (i - 1) default).1
def Kok (ks : List (Int × Int)) : Prop := 1 ≤ ks.length ∧ ks.length ≤ 8 ∧ (∀ i, i < ks.length → prevK ks i < (ks.getD i default).1 ∧ (ks.getD i default).1 ≤ 65536 ∧ 0 ≤ (ks.getD i default).2 ∧ (ks.getD i default).2 ≤ 512) ∧ totK ks ≤ 16777216
theorem take_one' {α : Type} (d : α) (l : List α) (j : Nat) (h : j < l.length) : l.take (j + 1) = l.take j ++ [l.getD j d] := by
  rw [List.take_add_one, List.getElem?_eq_getElem h, List.getD_eq_getElem?_getD, List.getElem?_eq_getElem h]; rfl
theorem prevK_nn {ks : List (Int × Int)} (h : Kok ks) : ∀ i, i ≤ ks.length → 0 ≤ prevK ks i
  | 0, _ => by unfold prevK; simp
  | i + 1, hi => by
    have h1 := prevK_nn h i (by omega)
    have h2 := (h.2.2.1 i (by omega)).1
    have e : prevK ks (i + 1) = (ks.getD i default).1 := by unfold prevK; rw [if_neg (by omega), Nat.add_sub_cancel]
    omega
theorem totK_bd {ks : List (Int × Int)} (h : Kok ks) : ∀ i, i ≤ ks.length → 0 ≤ totK (ks.take i) ∧ totK (ks.take i) ≤ 33554432 * i
  | 0, _ => by simp [totK]
  | i + 1, hi => by
    obtain ⟨h1, h2⟩ := totK_bd h i (by omega)
    obtain ⟨h3, h4, h5, h6⟩ := h.2.2.1 i (by omega)
    have h7 := prevK_nn h i (by omega)
    rw [take_one' default ks i (by omega), totK_one]
    have h8 : 0 ≤ (ks.getD i default).1 * (ks.getD i default).2 := Int.mul_nonneg (by omega) h5
    have h9 : (ks.getD i default).1 * (ks.getD i default).2 ≤ 65536 * 512 := Int.mul_le_mul h4 h6 h5 (by omega)
    omega

theorem mayG (A : HP) (a : Option Addr) (c : Nat) (ks : List (Int × Int)) (hR : Reads A 2 (.slice a ks.length c) ks.length (recs kC ks)) (hk : Kok ks) (n : Nat) (h1 : 1 ≤ n) (h64 : n ≤ 64) : Does Try.prog 33 [.agg #[.slice a ks.length c, .int .i64 (n : Nat)]] [A] (Ret (.bool true) [A]) := by
  obtain ⟨k1, k2, k3, k4⟩ := id hk
  (focus
    refine Xg.spec_of Go.Proofs.Try.func33 rfl Go.Proofs.Try.ntmps33 fun g F => ?_)
  (focus
    refine Xg.at_seq ?_
    refine Xg.at_region ?_
    refine Xg.ops_op (by kernel_rfl) (Xg.opx_box (v := (Value.agg #[Value.slice a ks.length c, iv (↑n : Int)])) [Value.slice a ks.length c, iv (↑n : Int)] (by kernel_rfl) (by kernel_rfl) fun xb1 => ?_)
    refine Xg.ops_op (by kernel_rfl) (Xg.opx_pure ((Value.bool false)) rfl (fun _ => by kernel_rfl) ?_)
    refine Xg.ops_nil ?_
    refine Xg.at_seq ?_
    refine Xg.at_seq ?_
    refine Xg.at_region ?_
    refine Xg.ops_op (by kernel_rfl) (Xg.opx_pure ((pv xb1 0)) rfl (fun _ => by kernel_rfl) ?_)
    refine Xg.ops_op (by kernel_rfl) (Xg.opx_load (b := xb1) (off := ((0 : Nat))) 0 (Value.slice a ks.length c) rfl (by kernel_rfl) (by kernel_rfl) (by kernel_rfl) ?_)
    refine Xg.ops_op (by kernel_rfl) (Xg.opx_pure ((iv (↑ks.length : Int))) rfl (fun _ => by kernel_rfl) ?_)
    refine Xg.ops_op (by kernel_rfl) (Xg.opx_pure (.bool (decide ((((↑ks.length : Int)) : Int) < ((1 : Int))))) rfl (fun _ => by kernel_rfl) ?_)
    refine Xg.ops_op (by kernel_rfl) (Xg.opx_pure ((Value.bool (decide ((↑ks.length : Int) < (1 : Int))))) rfl (fun _ => by kernel_rfl) ?_)
    refine Xg.ops_flag (j := 11) (c := (decide ((↑ks.length : Int) < (1 : Int)))) (by kernel_rfl) (fun xh1 => absurd (of_decide_eq_true xh1) (by omega)) (fun _ => ?_)
    refine Xg.ops_op (by kernel_rfl) (Xg.opx_pure ((pv xb1 0)) rfl (fun _ => by kernel_rfl) ?_)
    refine Xg.ops_op (by kernel_rfl) (Xg.opx_load (b := xb1) (off := ((0 : Nat))) 0 (Value.slice a ks.length c) rfl (by kernel_rfl) (by kernel_rfl) (by kernel_rfl) ?_)
    refine Xg.ops_op (by kernel_rfl) (Xg.opx_pure ((iv (↑ks.length : Int))) rfl (fun _ => by kernel_rfl) ?_)
    refine Xg.ops_op (by kernel_rfl) (Xg.opx_pure (.bool (decide ((((↑ks.length : Int)) : Int) > ((8 : Int))))) rfl (fun _ => by kernel_rfl) ?_)
    refine Xg.ops_flag (j := 15) (c := (decide ((↑ks.length : Int) > (8 : Int)))) (by kernel_rfl) (fun xh1 => absurd (of_decide_eq_true xh1) (by omega)) (fun _ => ?_)
    refine Xg.ops_op (by kernel_rfl) (Xg.opx_pure ((Value.bool false)) rfl (fun _ => by kernel_rfl) ?_)
    refine Xg.ops_op (by kernel_rfl) (Xg.opx_pure ((Value.bool false)) rfl (fun _ => by kernel_rfl) ?_)
    refine Xg.ops_op (by kernel_rfl) (Xg.opx_pure ((pv xb1 1)) rfl (fun _ => by kernel_rfl) ?_)
    refine Xg.ops_op (by kernel_rfl) (Xg.opx_load (b := xb1) (off := ((1 : Nat))) 0 (iv (↑n : Int)) rfl (by kernel_rfl) (by kernel_rfl) (by kernel_rfl) ?_)
    refine Xg.ops_op (by kernel_rfl) (Xg.opx_pure (.bool (decide ((((↑n : Int)) : Int) < ((1 : Int))))) rfl (fun _ => by kernel_rfl) ?_)
    refine Xg.ops_flag (j := 20) (c := (decide ((↑n : Int) < (1 : Int)))) (by kernel_rfl) (fun xh1 => absurd (of_decide_eq_true xh1) (by omega)) (fun _ => ?_)
    refine Xg.ops_op (by kernel_rfl) (Xg.opx_pure ((Value.bool false)) rfl (fun _ => by kernel_rfl) ?_)
    refine Xg.ops_op (by kernel_rfl) (Xg.opx_pure ((Value.bool false)) rfl (fun _ => by kernel_rfl) ?_)
    refine Xg.ops_op (by kernel_rfl) (Xg.opx_pure ((pv xb1 1)) rfl (fun _ => by kernel_rfl) ?_)
    refine Xg.ops_op (by kernel_rfl) (Xg.opx_load (b := xb1) (off := ((1 : Nat))) 0 (iv (↑n : Int)) rfl (by kernel_rfl) (by kernel_rfl) (by kernel_rfl) ?_)
    refine Xg.ops_op (by kernel_rfl) (Xg.opx_pure (.bool (decide ((((↑n : Int)) : Int) > ((64 : Int))))) rfl (fun _ => by kernel_rfl) ?_)
    refine Xg.ops_flag (j := 25) (c := (decide ((↑n : Int) > (64 : Int)))) (by kernel_rfl) (fun xh1 => absurd (of_decide_eq_true xh1) (by omega)) (fun _ => ?_)
    refine Xg.ops_op (by kernel_rfl) (Xg.opx_pure ((Value.bool false)) rfl (fun _ => by kernel_rfl) ?_)
    refine Xg.ops_nil ?_
    refine Xg.at_false (t := false) (by kernel_rfl) rfl ?_
    refine Xg.at_skip ?_
    refine Xg.at_seq ?_
    refine Xg.at_region ?_
    refine Xg.ops_op (by kernel_rfl) (Xg.opx_pure ((iv 0)) rfl (fun _ => by kernel_rfl) ?_)
    refine Xg.ops_op (by kernel_rfl) (Xg.opx_pure ((iv 0)) rfl (fun _ => by kernel_rfl) ?_)
    refine Xg.ops_nil ?_
    refine Xg.at_seq ?_
    refine Xg.at_seq ?_
    refine Xg.at_region ?_
    refine Xg.ops_op (by kernel_rfl) (Xg.opx_pure ((pv xb1 0)) rfl (fun _ => by kernel_rfl) ?_)
    refine Xg.ops_op (by kernel_rfl) (Xg.opx_load (b := xb1) (off := ((0 : Nat))) 0 (Value.slice a ks.length c) rfl (by kernel_rfl) (by kernel_rfl) (by kernel_rfl) ?_)
    refine Xg.ops_op (by kernel_rfl) (Xg.opx_pure ((iv (↑ks.length : Int))) rfl (fun _ => by kernel_rfl) ?_)
    refine Xg.ops_op (by kernel_rfl) (Xg.opx_pure ((iv 0)) rfl (fun _ => by kernel_rfl) ?_)
    refine Xg.ops_nil ?_
    refine Xg.at_block ?_)
  (focus
    refine Xg.at_rounds_inv (α := (Nat × Int × Int) × (Nat → Value)) (fun x => ((fun x => x.1 ≤ ks.length ∧ x.2.1 = prevK ks x.1 ∧ x.2.2 = totK (ks.take x.1)) : (Nat × Int × Int) → Prop) x.1) (fun x => ((fun x => ks.length - x.1) : (Nat × Int × Int) → Nat) x.1) (fun x => Xg.headT [Value.agg #[Value.slice a ks.length c, iv (↑n : Int)], pv xb1 0, Value.bool false, iv 0, iv 0, tu, tu, pv xb1 0, Value.slice a ks.length c, iv (↑ks.length : Int), Value.bool (decide ((↑ks.length : Int) < (1 : Int))), Value.bool false, pv xb1 0, Value.slice a ks.length c, iv (↑ks.length : Int), Value.bool false, Value.bool false, Value.bool false, pv xb1 1, iv (↑n : Int), Value.bool false, Value.bool false, Value.bool false, pv xb1 1, iv (↑n : Int), Value.bool false, Value.bool false, pv xb1 0, Value.slice a ks.length c, iv (↑ks.length : Int), iv 0, tu, tu, tu, tu, tu, tu, tu, tu, tu, tu, tu, tu, tu, tu, tu, tu, tu, tu, tu, tu, tu, tu, tu, tu, tu, tu, tu, tu, tu, tu, tu, tu, tu, tu] [2, 6, 31, 32, 33, 34, 35, 36, 37, 38, 39, 40, 41, 42, 43, 44, 45, 46, 47, 48, 49, 50, 51, 52, 53, 54, 55, 56, 57, 58, 59, 60, 61, 62] (((fun x => [(3, .int .i64 x.2.1), (4, .int .i64 x.2.2), (30, .int .i64 (x.1 : Nat))]) : (Nat × Int × Int) → List (Nat × Go.Value)) x.1) x.2) (fun x => ((fun x => [row xb1 35 [.slice a ks.length c, .int .i64 (n : Nat)], A]) : (Nat × Int × Int) → List Go.Sl.HP) x.1) (((0, 0, 0)), fun j9 => ([Value.agg #[Value.slice a ks.length c, iv (↑n : Int)], pv xb1 0, Value.bool false, iv 0, iv 0, tu, tu, pv xb1 0, Value.slice a ks.length c, iv (↑ks.length : Int), Value.bool (decide ((↑ks.length : Int) < (1 : Int))), Value.bool false, pv xb1 0, Value.slice a ks.length c, iv (↑ks.length : Int), Value.bool false, Value.bool false, Value.bool false, pv xb1 1, iv (↑n : Int), Value.bool false, Value.bool false, Value.bool false, pv xb1 1, iv (↑n : Int), Value.bool false, Value.bool false, pv xb1 0, Value.slice a ks.length c, iv (↑ks.length : Int), iv 0, tu, tu, tu, tu, tu, tu, tu, tu, tu, tu, tu, tu, tu, tu, tu, tu, tu, tu, tu, tu, tu, tu, tu, tu, tu, tu, tu, tu, tu, tu, tu, tu, tu, tu] : List Value).getD j9 undef) (by kernel_rfl) (by kernel_rfl) ?_ ?_)
  · exact ⟨Nat.zero_le _, rfl, rfl⟩
  rintro ⟨⟨i, la, to⟩, J⟩ hi ih
  obtain ⟨hi, hla, hto⟩ := hi
  dsimp only at hi hla hto
  (focus
    refine Xg.At.same (T' := [Value.agg #[Value.slice a ks.length c, iv (↑n : Int)], pv xb1 0, J 2, iv la, iv to, tu, J 6, pv xb1 0, Value.slice a ks.length c, iv (↑ks.length : Int), Value.bool (decide ((↑ks.length : Int) < (1 : Int))), Value.bool false, pv xb1 0, Value.slice a ks.length c, iv (↑ks.length : Int), Value.bool false, Value.bool false, Value.bool false, pv xb1 1, iv (↑n : Int), Value.bool false, Value.bool false, Value.bool false, pv xb1 1, iv (↑n : Int), Value.bool false, Value.bool false, pv xb1 0, Value.slice a ks.length c, iv (↑ks.length : Int), iv (↑i : Int), J 31, J 32, J 33, J 34, J 35, J 36, J 37, J 38, J 39, J 40, J 41, J 42, J 43, J 44, J 45, J 46, J 47, J 48, J 49, J 50, J 51, J 52, J 53, J 54, J 55, J 56, J 57, J 58, J 59, J 60, J 61, J 62, tu, tu]) (L' := [row xb1 (35 : TypeId) [Value.slice a ks.length c, iv (↑n : Int)], A]) (by kernel_rfl) rfl ?_)
  by_cases hlt : i < ks.length
  · obtain ⟨g1, g2, g3, g4⟩ := k3 i hlt
    have g5 := totK_bd hk i (by omega)
    have g6 := totK_bd hk (i + 1) hlt
    have g7 := prevK_nn hk i (by omega)
    have e1 : prevK ks (i + 1) = (ks.getD i default).1 := by unfold prevK; rw [if_neg (by omega), Nat.add_sub_cancel]
    have e2 : totK (ks.take (i + 1)) = totK (ks.take i) + (ks.getD i default).1 * (ks.getD i default).2 := by rw [take_one' default ks i hlt, totK_one]
    rw [e2, ← hto] at g6
    rw [← hto] at g5 e2
    rw [← hla] at g1 g7
    have g8 : 0 ≤ (ks.getD i default).1 * (ks.getD i default).2 ∧ (ks.getD i default).1 * (ks.getD i default).2 ≤ 33554432 := ⟨Int.mul_nonneg (by omega) g3, Int.le_trans (Int.mul_le_mul g2 g4 g3 (by omega)) (by decide)⟩
    (focus
      refine Xg.at_seq ?_
      refine Xg.at_region ?_
      refine Xg.ops_op (by kernel_rfl) (Xg.opx_pure (.bool (decide ((((↑i : Int)) : Int) < ((↑ks.length : Int))))) rfl (fun _ => by kernel_rfl) ?_)
      refine Xg.ops_nil ?_
      refine Xg.at_seq ?_
      refine Xg.at_true (t := decide (((↑i : Int) < (↑ks.length : Int)))) (by kernel_rfl) (decide_eq_true (by omega)) ?_
      refine Xg.at_skip ?_
      refine Xg.at_seq ?_
      refine Xg.at_block ?_
      refine Xg.at_seq ?_
      refine Xg.at_region ?_
      refine Xg.ops_op (by kernel_rfl) (Xg.opx_rd 1 (.pointer (some (Addr.mk (Xg.blk a) (offA a + i * (2 : Nat)) none))) rfl hR (by kernel_rfl) (Xg.run_ix_rd (elem := 32) (kd := .i64) (e := ((↑i : Int))) 2 i (offA a + i * (2 : Nat)) (by kernel_rfl) (by kernel_rfl) (by kernel_rfl) (by kernel_rfl) rfl (by omega) (by rw [Xg.recs_len (wd := 2) (fun _ => rfl)]; omega) (by omega)) ?_)
      refine Xg.ops_op (by kernel_rfl) (Xg.opx_rd 1 (.agg (List.toArray [iv (ks.getD i default).fst, iv (ks.getD i default).snd])) rfl hR (by kernel_rfl) (Xg.run_loadn_rd (off0 := (offA a + i * (2 : Nat))) 2 (i * (2 : Nat)) [iv (ks.getD i default).fst, iv (ks.getD i default).snd] (by kernel_rfl) (by kernel_rfl) (by omega) rfl (Xg.recs_at' (wd := 2) (fun _ => rfl) default i (by omega) (by omega) (by kernel_rfl)) (by kernel_rfl)) ?_)
      refine Xg.ops_op (by kernel_rfl) (Xg.opx_new 2 [iv 0, iv 0] (by kernel_rfl) (by kernel_rfl) fun xb2 => ?_)
      refine Xg.ops_op (by kernel_rfl) (Xg.opx_storen 2 (off := 0) 0 [iv (ks.getD i default).fst, iv (ks.getD i default).snd] (by kernel_rfl) rfl (by kernel_rfl) (by kernel_rfl) rfl (by kernel_rfl) (Nat.le_of_ble_eq_true (by kernel_rfl)) ?_)
      refine Xg.ops_nil ?_
      refine Xg.at_seq ?_
      refine Xg.at_seq ?_
      refine Xg.at_region ?_
      refine Xg.ops_op (by kernel_rfl) (Xg.opx_pure ((pv xb2 0)) rfl (fun _ => by kernel_rfl) ?_)
      refine Xg.ops_op (by kernel_rfl) (Xg.opx_load (b := xb2) (off := ((0 : Nat))) 0 (iv (ks.getD i default).fst) rfl (by kernel_rfl) (by kernel_rfl) (by kernel_rfl) ?_)
      refine Xg.ops_op (by kernel_rfl) (Xg.opx_pure ((iv la)) rfl (fun _ => by kernel_rfl) ?_)
      refine Xg.ops_op (by kernel_rfl) (Xg.opx_pure (.bool (decide ((((ks.getD i default).fst) : Int) ≤ la))) rfl (fun _ => by kernel_rfl) ?_)
      refine Xg.ops_op (by kernel_rfl) (Xg.opx_pure ((Value.bool (decide ((ks.getD i default).fst ≤ la)))) rfl (fun _ => by kernel_rfl) ?_)
      refine Xg.ops_flag (j := 38) (c := (decide ((ks.getD i default).fst ≤ la))) (by kernel_rfl) (fun xh1 => absurd (of_decide_eq_true xh1) (by omega)) (fun _ => ?_)
      refine Xg.ops_op (by kernel_rfl) (Xg.opx_pure ((pv xb2 0)) rfl (fun _ => by kernel_rfl) ?_)
      refine Xg.ops_op (by kernel_rfl) (Xg.opx_load (b := xb2) (off := ((0 : Nat))) 0 (iv (ks.getD i default).fst) rfl (by kernel_rfl) (by kernel_rfl) (by kernel_rfl) ?_)
      refine Xg.ops_op (by kernel_rfl) (Xg.opx_pure (.bool (decide ((((ks.getD i default).fst) : Int) > ((65536 : Int))))) rfl (fun _ => by kernel_rfl) ?_)
      refine Xg.ops_flag (j := 41) (c := (decide ((ks.getD i default).fst > (65536 : Int)))) (by kernel_rfl) (fun xh1 => absurd (of_decide_eq_true xh1) (by omega)) (fun _ => ?_)
      refine Xg.ops_op (by kernel_rfl) (Xg.opx_pure ((Value.bool false)) rfl (fun _ => by kernel_rfl) ?_)
      refine Xg.ops_op (by kernel_rfl) (Xg.opx_pure ((Value.bool false)) rfl (fun _ => by kernel_rfl) ?_)
      refine Xg.ops_op (by kernel_rfl) (Xg.opx_pure ((pv xb2 1)) rfl (fun _ => by kernel_rfl) ?_)
      refine Xg.ops_op (by kernel_rfl) (Xg.opx_load (b := xb2) (off := ((1 : Nat))) 0 (iv (ks.getD i default).snd) rfl (by kernel_rfl) (by kernel_rfl) (by kernel_rfl) ?_)
      refine Xg.ops_op (by kernel_rfl) (Xg.opx_pure (.bool (decide ((((ks.getD i default).snd) : Int) < ((0 : Int))))) rfl (fun _ => by kernel_rfl) ?_)
      refine Xg.ops_flag (j := 46) (c := (decide ((ks.getD i default).snd < (0 : Int)))) (by kernel_rfl) (fun xh1 => absurd (of_decide_eq_true xh1) (by omega)) (fun _ => ?_)
      refine Xg.ops_op (by kernel_rfl) (Xg.opx_pure ((Value.bool false)) rfl (fun _ => by kernel_rfl) ?_)
      refine Xg.ops_op (by kernel_rfl) (Xg.opx_pure ((Value.bool false)) rfl (fun _ => by kernel_rfl) ?_)
      refine Xg.ops_op (by kernel_rfl) (Xg.opx_pure ((pv xb2 1)) rfl (fun _ => by kernel_rfl) ?_)
      refine Xg.ops_op (by kernel_rfl) (Xg.opx_load (b := xb2) (off := ((1 : Nat))) 0 (iv (ks.getD i default).snd) rfl (by kernel_rfl) (by kernel_rfl) (by kernel_rfl) ?_)
      refine Xg.ops_op (by kernel_rfl) (Xg.opx_pure (.bool (decide ((((ks.getD i default).snd) : Int) > ((512 : Int))))) rfl (fun _ => by kernel_rfl) ?_)
      refine Xg.ops_flag (j := 51) (c := (decide ((ks.getD i default).snd > (512 : Int)))) (by kernel_rfl) (fun xh1 => absurd (of_decide_eq_true xh1) (by omega)) (fun _ => ?_)
      refine Xg.ops_op (by kernel_rfl) (Xg.opx_pure ((Value.bool false)) rfl (fun _ => by kernel_rfl) ?_)
      refine Xg.ops_nil ?_
      refine Xg.at_false (t := false) (by kernel_rfl) rfl ?_
      refine Xg.at_skip ?_
      refine Xg.at_seq ?_
      refine Xg.at_region ?_
      refine Xg.ops_op (by kernel_rfl) (Xg.opx_pure ((pv xb2 0)) rfl (fun _ => by kernel_rfl) ?_)
      refine Xg.ops_op (by kernel_rfl) (Xg.opx_load (b := xb2) (off := ((0 : Nat))) 0 (iv (ks.getD i default).fst) rfl (by kernel_rfl) (by kernel_rfl) (by kernel_rfl) ?_)
      refine Xg.ops_op (by kernel_rfl) (Xg.opx_pure ((iv (ks.getD i default).fst)) rfl (fun _ => by kernel_rfl) ?_)
      refine Xg.ops_nil ?_
      refine Xg.at_region ?_
      refine Xg.ops_op (by kernel_rfl) (Xg.opx_pure ((iv to)) rfl (fun _ => by kernel_rfl) ?_)
      refine Xg.ops_op (by kernel_rfl) (Xg.opx_pure ((pv xb2 0)) rfl (fun _ => by kernel_rfl) ?_)
      refine Xg.ops_op (by kernel_rfl) (Xg.opx_load (b := xb2) (off := ((0 : Nat))) 0 (iv (ks.getD i default).fst) rfl (by kernel_rfl) (by kernel_rfl) (by kernel_rfl) ?_)
      refine Xg.ops_op (by kernel_rfl) (Xg.opx_pure ((pv xb2 1)) rfl (fun _ => by kernel_rfl) ?_)
      refine Xg.ops_op (by kernel_rfl) (Xg.opx_load (b := xb2) (off := ((1 : Nat))) 0 (iv (ks.getD i default).snd) rfl (by kernel_rfl) (by kernel_rfl) (by kernel_rfl) ?_)
      refine Xg.ops_op (by kernel_rfl) (Xg.opx_int .i64 (IntKind.wrap .i64 (((ks.getD i default).fst * (ks.getD i default).snd))) rfl (fun _ => by kernel_rfl) (Xg.wrap_i64_in (by omega)) ?_)
      refine Xg.ops_op (by kernel_rfl) (Xg.opx_int .i64 (IntKind.wrap .i64 ((to + (ks.getD i default).fst * (ks.getD i default).snd))) rfl (fun _ => by kernel_rfl) (Xg.wrap_i64_in (by omega)) ?_)
      refine Xg.ops_op (by kernel_rfl) (Xg.opx_pure ((iv (to + (ks.getD i default).fst * (ks.getD i default).snd))) rfl (fun _ => by kernel_rfl) ?_)
      refine Xg.ops_nil ?_
      refine Xg.at_inBlock ?_
      refine Xg.at_region ?_
      refine Xg.ops_op (by kernel_rfl) (Xg.opx_int .i64 (IntKind.wrap .i64 (((↑i : Int) + (1 : Int)))) rfl (fun _ => by kernel_rfl) (Xg.wrap_i64_in (by omega)) ?_)
      refine Xg.ops_op (by kernel_rfl) (Xg.opx_pure ((iv ((↑i : Int) + (1 : Int)))) rfl (fun _ => by kernel_rfl) ?_)
      refine Xg.ops_nil ?_
      refine Xg.at_inLoop ?_)
    (focus
      refine Xg.at_keep [1, 2] (by kernel_rfl) ?_
      refine Xs.same ?_ (fun J9 => ih (((i + 1, (ks.getD i default).1, to + (ks.getD i default).1 * (ks.getD i default).2)), J9) ?_ ?_) (by kernel_rfl))
    · rfl
    · exact ⟨hlt, e1.symm, e2.symm⟩
    · dsimp only; omega
  · obtain rfl : i = ks.length := by omega
    rw [List.take_length] at hto
    subst hto
    clear ih
    (focus
      refine Xg.at_seq ?_
      refine Xg.at_region ?_
      refine Xg.ops_op (by kernel_rfl) (Xg.opx_pure (.bool (decide ((((↑ks.length : Int)) : Int) < ((↑ks.length : Int))))) rfl (fun _ => by kernel_rfl) ?_)
      refine Xg.ops_nil ?_
      refine Xg.at_seq ?_
      refine Xg.at_false (t := decide (((↑ks.length : Int) < (↑ks.length : Int)))) (by kernel_rfl) (decide_eq_false (by omega)) ?_
      refine Xg.at_exit rfl ?_
      refine Xg.at_seq ?_
      refine Xg.at_region ?_
      refine Xg.ops_op (by kernel_rfl) (Xg.opx_pure ((iv (totK ks))) rfl (fun _ => by kernel_rfl) ?_)
      refine Xg.ops_op (by kernel_rfl) (Xg.opx_pure (.bool (decide (((totK ks) : Int) ≤ ((16777216 : Int))))) rfl (fun _ => by kernel_rfl) ?_)
      refine Xg.ops_op (by kernel_rfl) (Xg.opx_pure ((Value.bool (decide (totK ks ≤ (16777216 : Int))))) rfl (fun _ => by kernel_rfl) ?_)
      refine Xg.ops_nil ?_
      refine Xg.at_ret_ps (v := (Value.bool (decide (totK ks ≤ (16777216 : Int))))) [1] [A] Go.Proofs.Try.func33 (fun _ => by kernel_rfl) (by kernel_rfl) (by kernel_rfl) ?_)
    exact ⟨by rw [decide_eq_true k4], rfl⟩
end Go.Proofs.Ytmplimmcjdkhlaa

/- The arena package: New, any classes: the lists that come of it. -/
namespace Go.Proofs.Ytmplimmcjdkhlaa
open Go.Sl Go.Xg
set_option linter.unusedVariables false
set_option linter.unusedSimpArgs false
set_option linter.unnecessarySimpa false
set_option maxHeartbeats 4000000
set_option maxRecDepth 100000

/-- The numbers from b on. -/
def iotaN (b n : Nat) : List Int := (List.range n).map fun i => ((b + i : Nat) : Int)
theorem iotaN_len (b n : Nat) : (iotaN b n).length = n := by simp [iotaN]
theorem iotaN_one (b n : Nat) : iotaN b (n + 1) = iotaN b n ++ [((b + n : Nat) : Int)] := by
  unfold iotaN; rw [List.range_succ, List.map_append]; rfl
theorem iotaN_mem (b n : Nat) (x : Int) : x ∈ iotaN b n ↔ (b : Int) ≤ x ∧ x < b + n := by
  unfold iotaN
  rw [List.mem_map]
  constructor
  · rintro ⟨i, hi, rfl⟩
    have := List.mem_range.1 hi
    omega
  · intro h
    exact ⟨(x - b).toNat, List.mem_range.2 (by omega), by omega⟩
theorem iotaN_sd (b n : Nat) (h : b + n ≤ 5000) : Sd (iotaN b n) := by
  refine ⟨?_, fun x hx => ?_, ?_⟩
  · unfold iotaN
    rw [List.pairwise_map]
    refine List.Pairwise.imp ?_ List.pairwise_lt_range
    intro a c hac
    omega
  · have := (iotaN_mem b n x).1 hx
    omega
  · rw [iotaN_len]; omega
theorem sins_end (v : Int) (l : List Int) (h : ∀ x ∈ l, x < v) : sins v l = l ++ [v] := by
  obtain ⟨e1, e2⟩ := tw_take v l l.length (Nat.le_refl _) (fun j hj => by
    rw [List.getD_eq_getElem?_getD, List.getElem?_eq_getElem hj]
    exact h _ (List.getElem_mem hj)) (fun j h1 h2 => by omega)
  unfold sins
  rw [e1, e2, List.take_length, List.drop_length]
theorem sins_iota (b n : Nat) : sins ((b + n : Nat) : Int) (iotaN b n) = iotaN b (n + 1) := by
  rw [sins_end _ _ (fun x hx => by have := (iotaN_mem b n x).1 hx; omega), iotaN_one]

abbrev manyK (ks : List (Int × Int)) (i : Nat) : Nat := (ks.getD i default).2.toNat
def bufL (ks : List (Int × Int)) : Nat → List Buf
  | 0 => []
  | i + 1 => bufL ks i ++ List.replicate (manyK ks i) ⟨i, nA, 0, 0⟩
theorem bufL_le {ks : List (Int × Int)} (h : Kok ks) : ∀ i, i ≤ ks.length → (bufL ks i).length ≤ 512 * i
  | 0, _ => by simp [bufL]
  | i + 1, hi => by
    have h1 := bufL_le h i (by omega)
    obtain ⟨h3, h4, h5, h6⟩ := h.2.2.1 i (by omega)
    have h7 : manyK ks i ≤ 512 := by unfold manyK; omega
    unfold bufL
    rw [List.length_append, List.length_replicate]
    omega
/-- The classes that were made. -/
def Lok (ks : List (Int × Int)) (i : Nat) (L : List Cls) : Prop := L.length = i ∧ ∀ k, k < i → (L.getD k default).size = (ks.getD k default).1 ∧ (L.getD k default).fr = iotaN (bufL ks k).length (manyK ks k)
theorem Lok_one {ks : List (Int × Int)} {i : Nat} {L : List Cls} (h : Lok ks i L) (x : Cls) (h1 : x.size = (ks.getD i default).1) (h2 : x.fr = iotaN (bufL ks i).length (manyK ks i)) : Lok ks (i + 1) (L ++ [x]) := by
  obtain ⟨e1, e2⟩ := h
  refine ⟨by rw [List.length_append, e1]; rfl, fun k hk => ?_⟩
  rw [List.getD_eq_getElem?_getD]
  by_cases hki : k < i
  · rw [List.getElem?_append_left (by omega), ← List.getD_eq_getElem?_getD]
    exact e2 k hki
  · obtain rfl : k = i := by omega
    rw [List.getElem?_append_right (by omega), e1, Nat.sub_self]
    exact ⟨h1, h2⟩
abbrev starC (L : List Cls) : HP := seps (L.map fun x => I2 x.fa x.fc x.fr)
theorem starC_one {g w : World} {F : List HP} {L : List Cls} {x : Cls} (h : SL g (I2 x.fa x.fc x.fr :: starC L :: F) w) : SL g (starC (L ++ [x]) :: F) w := by
  refine SL.flat.2 ?_
  rw [List.map_append]
  have h1 := SL.flat.1 (h.perm (.swap _ _ _))
  refine h1.perm ?_
  simp only [List.map_cons, List.map_nil, List.append_assoc, List.cons_append, List.nil_append]
  exact List.Perm.refl _
theorem starC_nil {g w : World} {F : List HP} : SL g (starC [] :: F) w ↔ SL g F w := SL.flat (K := [])
theorem at_starC_nil {P : Program} {f : FuncId} {g : World} {F : List HP} {R : Ending → World → Prop} {k : List Item} {T : List Value} {L : List HP} (h : At P f g F R k T (starC [] :: L)) : At P f g F R k T L := h.sl fun w hS => starC_nil.2 hS
theorem at_pick {P : Program} {f : FuncId} {g : World} {F : List HP} {R : Ending → World → Prop} {k : List Item} {T : List Value} {L : List HP} (is : List Nat) (hi : okPick is L.length = true) (h : At P f g F R k T (pick is L)) : At P f g F R k T L := h.sl fun w hS => sl_keep is hi hS
theorem at_starC_one {P : Program} {f : FuncId} {g : World} {F : List HP} {R : Ending → World → Prop} {k : List Item} {T : List Value} {L : List HP} {M : List Cls} {x : Cls} (h : At P f g F R k T (starC (M ++ [x]) :: L)) : At P f g F R k T (I2 x.fa x.fc x.fr :: starC M :: L) := h.sl fun w hS => starC_one hS
end Go.Proofs.Ytmplimmcjdkhlaa

/- The arena package: New, any classes. -/
namespace Go.Proofs.Ytmplimmcjdkhlaa
open Go.Sl Go.Xg
set_option linter.unusedVariables false
set_option linter.unusedSimpArgs false
set_option linter.unnecessarySimpa false
set_option maxHeartbeats 4000000
set_option maxRecDepth 100000

theorem newL (A : HP) (a : Option Addr) (c : Nat) (ks : List (Int × Int)) (hR : Reads A 2 (.slice a ks.length c) ks.length (recs kC ks)) (hk : Kok ks) (n : Nat) (h1 : 1 ≤ n) (h64 : n ≤ 64) : Does Try.prog 14 [.agg #[.slice a ks.length c, .int .i64 (n : Nat)]] [A]
    (RetE (fun x : Nat × Nat × (Option Addr × Nat) × (Option Addr × Nat) × List Cls => Lok ks ks.length x.2.2.2.2) (fun x => .tuple #[.pointer (some ⟨x.1, 0, none⟩), .int .i64 0]) (fun x => [row x.1 94 [.slice x.2.2.1.1 x.2.2.2.2.length x.2.2.1.2, .slice x.2.2.2.1.1 (bufL ks ks.length).length x.2.2.2.1.2, .slice (some ⟨x.2.1, 0, none⟩) n n],
      recsO 98 3 claK x.2.2.1.1 x.2.2.1.2 x.2.2.2.2, recsO 101 2 bufK x.2.2.2.1.1 x.2.2.2.1.2 (bufL ks ks.length), row x.2.1 102 (pcs n fun _ => none), starC x.2.2.2.2, A])) := by
  have hm := mayG A a c ks hR hk n h1 h64
  obtain ⟨k1, k2, k3, k4⟩ := id hk
  (focus
    refine Xg.spec_of Go.Proofs.Try.func14 rfl Go.Proofs.Try.ntmps14 fun g F => ?_)
  (focus
    refine Xg.at_seq ?_
    refine Xg.at_region ?_
    refine Xg.ops_op (by kernel_rfl) (Xg.opx_box (v := (Value.agg #[Value.slice a ks.length c, iv (↑n : Int)])) [Value.slice a ks.length c, iv (↑n : Int)] (by kernel_rfl) (by kernel_rfl) fun xb1 => ?_)
    refine Xg.ops_op (by kernel_rfl) (Xg.opx_pure ((Value.pointer none)) rfl (fun _ => by kernel_rfl) ?_)
    refine Xg.ops_op (by kernel_rfl) (Xg.opx_pure ((iv 0)) rfl (fun _ => by kernel_rfl) ?_)
    refine Xg.ops_nil ?_
    refine Xg.at_seq ?_
    refine Xg.at_seq ?_
    refine Xg.at_region ?_
    refine Xg.ops_op (by kernel_rfl) (Xg.opx_loadn (off := 0) 2 0 [Value.slice a ks.length c, iv (↑n : Int)] (by kernel_rfl) rfl (by kernel_rfl) rfl (Xg.cells_at (by kernel_rfl)) (by kernel_rfl) ?_)
    refine Xg.ops_op (by kernel_rfl) (Xg.opx_call1' [1] [A, row xb1 (35 : Nat) [Value.slice a ks.length c, iv (↑n : Int)]] (fun _ => by kernel_rfl) (@hm ) (by kernel_rfl) (by kernel_rfl) (by kernel_rfl) ?_)
    refine Xg.ops_op (by kernel_rfl) (Xg.opx_pure (.bool false) rfl (fun _ => by kernel_rfl) ?_)
    refine Xg.ops_nil ?_
    refine Xg.at_false (t := false) (by kernel_rfl) rfl ?_
    refine Xg.at_skip ?_
    refine Xg.at_seq ?_
    refine Xg.at_region ?_
    refine Xg.ops_op (by kernel_rfl) (Xg.opx_pure ((pv xb1 1)) rfl (fun _ => by kernel_rfl) ?_)
    refine Xg.ops_op (by kernel_rfl) (Xg.opx_load (b := xb1) (off := ((1 : Nat))) 1 (iv (↑n : Int)) rfl (by kernel_rfl) (by kernel_rfl) (by kernel_rfl) ?_))
  refine Xg.ops_op (by kernel_rfl) (opx_make_row (k1 := .i64) (k2 := .i64) (elem := 102) n 8 (.pointer none) (by kernel_rfl) (El.mk' (by kernel_rfl) rfl) rfl (by kernel_rfl) (by kernel_rfl) (by omega) (by unfold maxLen; omega) fun ab => ?_)
  rw [arr_rep n (.pointer none)]
  (focus
    refine Xg.ops_op (by kernel_rfl) (Xg.opx_pure ((Value.agg #[Value.slice none (0 : Nat) (0 : Nat), Value.slice none (0 : Nat) (0 : Nat), Value.slice (some (Addr.mk ab (0 : Nat) none)) n n])) rfl (fun _ => by kernel_rfl) ?_)
    refine Xg.ops_op (by kernel_rfl) (Xg.opx_box (v := (Value.agg #[Value.slice none (0 : Nat) (0 : Nat), Value.slice none (0 : Nat) (0 : Nat), Value.slice (some (Addr.mk ab (0 : Nat) none)) n n])) [Value.slice none (0 : Nat) (0 : Nat), Value.slice none (0 : Nat) (0 : Nat), Value.slice (some (Addr.mk ab (0 : Nat) none)) n n] (by kernel_rfl) (by kernel_rfl) fun xb2 => ?_)
    refine Xg.ops_op (by kernel_rfl) (Xg.opx_pure ((pv xb2 0)) rfl (fun _ => by kernel_rfl) ?_)
    refine Xg.ops_nil ?_
    refine Xg.at_seq ?_
    refine Xg.at_seq ?_)
  refine at_nil_recs 101 2 bufK ?_
  refine at_nil_recs 98 3 claK ?_
  refine at_starC_nil ?_
  (focus
    refine Xg.at_region ?_
    refine Xg.ops_op (by kernel_rfl) (Xg.opx_pure ((pv xb1 0)) rfl (fun _ => by kernel_rfl) ?_)
    refine Xg.ops_op (by kernel_rfl) (Xg.opx_load (b := xb1) (off := ((0 : Nat))) 6 (Value.slice a ks.length c) rfl (by kernel_rfl) (by kernel_rfl) (by kernel_rfl) ?_)
    refine Xg.ops_op (by kernel_rfl) (Xg.opx_pure ((iv (↑ks.length : Int))) rfl (fun _ => by kernel_rfl) ?_)
    refine Xg.ops_op (by kernel_rfl) (Xg.opx_pure ((iv 0)) rfl (fun _ => by kernel_rfl) ?_)
    refine Xg.ops_nil ?_
    refine Xg.at_block ?_)
  (focus
    refine Xg.at_keep [3, 1, 2, 4, 0, 5] (by kernel_rfl) ?_
    refine Xg.at_rounds_inv (α := (Nat × List Cls × (Option Addr × Nat) × (Option Addr × Nat) × List Buf) × (Nat → Value)) (fun x => ((fun x => x.1 ≤ ks.length ∧ Lok ks x.1 x.2.1 ∧ x.2.2.2.2 = bufL ks x.1) : (Nat × List Cls × (Option Addr × Nat) × (Option Addr × Nat) × List Buf) → Prop) x.1) (fun x => ((fun x => ks.length - x.1) : (Nat × List Cls × (Option Addr × Nat) × (Option Addr × Nat) × List Buf) → Nat) x.1) (fun x => Xg.headT [Value.agg #[Value.slice a ks.length c, iv (↑n : Int)], pv xb1 0, Value.pointer none, iv 0, pv xb2 0, tu, tu, tu, Value.agg #[Value.slice a ks.length c, iv (↑n : Int)], Value.bool true, Value.bool false, pv xb1 1, iv (↑n : Int), Value.slice (some (Addr.mk ab (0 : Nat) none)) n n, Value.agg #[Value.slice none (0 : Nat) (0 : Nat), Value.slice none (0 : Nat) (0 : Nat), Value.slice (some (Addr.mk ab (0 : Nat) none)) n n], pv xb2 0, pv xb1 0, Value.slice a ks.length c, iv (↑ks.length : Int), iv 0, tu, tu, tu, tu, tu, tu, tu, tu, tu, tu, tu, tu, tu, tu, tu, tu, tu, tu, tu, tu, tu, tu, tu, tu, tu, tu, tu, tu, tu, tu, tu, tu, tu, tu, tu, tu, tu, tu, tu, tu, tu, tu, tu] [5, 6, 7, 20, 21, 22, 23, 24, 25, 26, 27, 28, 29, 30, 31, 32, 33, 34, 35, 36, 37, 38, 39, 40, 41, 42, 43, 44, 45, 46, 47, 48, 49, 50, 51, 52, 53, 54, 55, 56, 57, 58, 59, 60, 61] (((fun x => [(19, .int .i64 (x.1 : Nat))]) : (Nat × List Cls × (Option Addr × Nat) × (Option Addr × Nat) × List Buf) → List (Nat × Go.Value)) x.1) x.2) (fun x => ((fun x => [row xb2 94 [.slice x.2.2.1.1 x.2.1.length x.2.2.1.2, .slice x.2.2.2.1.1 x.2.2.2.2.length x.2.2.2.1.2, .slice (some ⟨ab, 0, none⟩) n n], recsO 98 3 claK x.2.2.1.1 x.2.2.1.2 x.2.1, recsO 101 2 bufK x.2.2.2.1.1 x.2.2.2.1.2 x.2.2.2.2, row ab 102 (arr n fun _ => .pointer none), starC x.2.1, A]) : (Nat × List Cls × (Option Addr × Nat) × (Option Addr × Nat) × List Buf) → List Go.Sl.HP) x.1) (((0, [], (none, 0), (none, 0), [])), fun j9 => ([Value.agg #[Value.slice a ks.length c, iv (↑n : Int)], pv xb1 0, Value.pointer none, iv 0, pv xb2 0, tu, tu, tu, Value.agg #[Value.slice a ks.length c, iv (↑n : Int)], Value.bool true, Value.bool false, pv xb1 1, iv (↑n : Int), Value.slice (some (Addr.mk ab (0 : Nat) none)) n n, Value.agg #[Value.slice none (0 : Nat) (0 : Nat), Value.slice none (0 : Nat) (0 : Nat), Value.slice (some (Addr.mk ab (0 : Nat) none)) n n], pv xb2 0, pv xb1 0, Value.slice a ks.length c, iv (↑ks.length : Int), iv 0, tu, tu, tu, tu, tu, tu, tu, tu, tu, tu, tu, tu, tu, tu, tu, tu, tu, tu, tu, tu, tu, tu, tu, tu, tu, tu, tu, tu, tu, tu, tu, tu, tu, tu, tu, tu, tu, tu, tu, tu, tu, tu, tu] : List Value).getD j9 undef) (by kernel_rfl) (by kernel_rfl) ?_ ?_)
  · exact ⟨Nat.zero_le _, ⟨rfl, fun k hk => absurd hk (Nat.not_lt_zero k)⟩, rfl⟩
  rintro ⟨⟨i, L, ⟨ca, cc⟩, ⟨ba, bc⟩, Bl⟩, J⟩ hi ih
  obtain ⟨hi, hL, hB⟩ := hi
  dsimp only at hi hL hB
  (focus
    refine Xg.At.same (T' := [Value.agg #[Value.slice a ks.length c, iv (↑n : Int)], pv xb1 0, Value.pointer none, iv 0, pv xb2 0, ((i, L, (ca, cc), (ba, bc), Bl), J).snd (5 : Nat), ((i, L, (ca, cc), (ba, bc), Bl), J).snd (6 : Nat), ((i, L, (ca, cc), (ba, bc), Bl), J).snd (7 : Nat), Value.agg #[Value.slice a ks.length c, iv (↑n : Int)], Value.bool true, Value.bool false, pv xb1 1, iv (↑n : Int), Value.slice (some (Addr.mk ab (0 : Nat) none)) n n, Value.agg #[Value.slice none (0 : Nat) (0 : Nat), Value.slice none (0 : Nat) (0 : Nat), Value.slice (some (Addr.mk ab (0 : Nat) none)) n n], pv xb2 0, pv xb1 0, Value.slice a ks.length c, iv (↑ks.length : Int), iv (↑i : Int), ((i, L, (ca, cc), (ba, bc), Bl), J).snd (20 : Nat), ((i, L, (ca, cc), (ba, bc), Bl), J).snd (21 : Nat), ((i, L, (ca, cc), (ba, bc), Bl), J).snd (22 : Nat), ((i, L, (ca, cc), (ba, bc), Bl), J).snd (23 : Nat), ((i, L, (ca, cc), (ba, bc), Bl), J).snd (24 : Nat), ((i, L, (ca, cc), (ba, bc), Bl), J).snd (25 : Nat), ((i, L, (ca, cc), (ba, bc), Bl), J).snd (26 : Nat), ((i, L, (ca, cc), (ba, bc), Bl), J).snd (27 : Nat), ((i, L, (ca, cc), (ba, bc), Bl), J).snd (28 : Nat), ((i, L, (ca, cc), (ba, bc), Bl), J).snd (29 : Nat), ((i, L, (ca, cc), (ba, bc), Bl), J).snd (30 : Nat), ((i, L, (ca, cc), (ba, bc), Bl), J).snd (31 : Nat), ((i, L, (ca, cc), (ba, bc), Bl), J).snd (32 : Nat), ((i, L, (ca, cc), (ba, bc), Bl), J).snd (33 : Nat), ((i, L, (ca, cc), (ba, bc), Bl), J).snd (34 : Nat), ((i, L, (ca, cc), (ba, bc), Bl), J).snd (35 : Nat), ((i, L, (ca, cc), (ba, bc), Bl), J).snd (36 : Nat), ((i, L, (ca, cc), (ba, bc), Bl), J).snd (37 : Nat), ((i, L, (ca, cc), (ba, bc), Bl), J).snd (38 : Nat), ((i, L, (ca, cc), (ba, bc), Bl), J).snd (39 : Nat), ((i, L, (ca, cc), (ba, bc), Bl), J).snd (40 : Nat), ((i, L, (ca, cc), (ba, bc), Bl), J).snd (41 : Nat), ((i, L, (ca, cc), (ba, bc), Bl), J).snd (42 : Nat), ((i, L, (ca, cc), (ba, bc), Bl), J).snd (43 : Nat), ((i, L, (ca, cc), (ba, bc), Bl), J).snd (44 : Nat), ((i, L, (ca, cc), (ba, bc), Bl), J).snd (45 : Nat), ((i, L, (ca, cc), (ba, bc), Bl), J).snd (46 : Nat), ((i, L, (ca, cc), (ba, bc), Bl), J).snd (47 : Nat), ((i, L, (ca, cc), (ba, bc), Bl), J).snd (48 : Nat), ((i, L, (ca, cc), (ba, bc), Bl), J).snd (49 : Nat), ((i, L, (ca, cc), (ba, bc), Bl), J).snd (50 : Nat), ((i, L, (ca, cc), (ba, bc), Bl), J).snd (51 : Nat), ((i, L, (ca, cc), (ba, bc), Bl), J).snd (52 : Nat), ((i, L, (ca, cc), (ba, bc), Bl), J).snd (53 : Nat), ((i, L, (ca, cc), (ba, bc), Bl), J).snd (54 : Nat), ((i, L, (ca, cc), (ba, bc), Bl), J).snd (55 : Nat), ((i, L, (ca, cc), (ba, bc), Bl), J).snd (56 : Nat), ((i, L, (ca, cc), (ba, bc), Bl), J).snd (57 : Nat), ((i, L, (ca, cc), (ba, bc), Bl), J).snd (58 : Nat), ((i, L, (ca, cc), (ba, bc), Bl), J).snd (59 : Nat), ((i, L, (ca, cc), (ba, bc), Bl), J).snd (60 : Nat), ((i, L, (ca, cc), (ba, bc), Bl), J).snd (61 : Nat), tu]) (L' := [row xb2 (94 : TypeId) [Value.slice ((i, L, (ca, cc), (ba, bc), Bl), J).fst.snd.snd.fst.fst ((i, L, (ca, cc), (ba, bc), Bl), J).fst.snd.fst.length ((i, L, (ca, cc), (ba, bc), Bl), J).fst.snd.snd.fst.snd, Value.slice ((i, L, (ca, cc), (ba, bc), Bl), J).fst.snd.snd.snd.fst.fst ((i, L, (ca, cc), (ba, bc), Bl), J).fst.snd.snd.snd.snd.length ((i, L, (ca, cc), (ba, bc), Bl), J).fst.snd.snd.snd.fst.snd, Value.slice (some (Addr.mk ab (0 : Nat) none)) n n], recsO (98 : Nat) (3 : Nat) claK ((i, L, (ca, cc), (ba, bc), Bl), J).fst.snd.snd.fst.fst ((i, L, (ca, cc), (ba, bc), Bl), J).fst.snd.snd.fst.snd ((i, L, (ca, cc), (ba, bc), Bl), J).fst.snd.fst, recsO (101 : Nat) (2 : Nat) bufK ((i, L, (ca, cc), (ba, bc), Bl), J).fst.snd.snd.snd.fst.fst ((i, L, (ca, cc), (ba, bc), Bl), J).fst.snd.snd.snd.fst.snd ((i, L, (ca, cc), (ba, bc), Bl), J).fst.snd.snd.snd.snd, row ab (102 : TypeId) (arr n fun (x : Nat) => Value.pointer none), starC ((i, L, (ca, cc), (ba, bc), Bl), J).fst.snd.fst, A]) (by kernel_rfl) rfl ?_)
  by_cases hlt : i < ks.length
  · obtain ⟨g1, g2, g3, g4⟩ := k3 i hlt
    have g7 := prevK_nn hk i (by omega)
    have hbl := bufL_le hk i (by omega)
    obtain ⟨mm, hmm⟩ : ∃ mm : Nat, manyK ks i = mm := ⟨_, rfl⟩
    have hmi : (ks.getD i default).2 = ((mm : Nat) : Int) := by rw [← hmm]; show _ = (((ks.getD i default).2.toNat : Nat) : Int); omega
    have hmm5 : mm ≤ 512 := by omega
    rw [← hB] at hbl
    (focus
      refine Xg.at_seq ?_
      refine Xg.at_region ?_
      refine Xg.ops_op (by kernel_rfl) (Xg.opx_pure (.bool (decide ((((↑i : Int)) : Int) < ((↑ks.length : Int))))) rfl (fun _ => by kernel_rfl) ?_)
      refine Xg.ops_nil ?_
      refine Xg.at_seq ?_
      refine Xg.at_true (t := decide (((↑i : Int) < (↑ks.length : Int)))) (by kernel_rfl) (decide_eq_true (by omega)) ?_
      refine Xg.at_skip ?_
      refine Xg.at_seq ?_
      refine Xg.at_block ?_
      refine Xg.at_seq ?_
      refine Xg.at_region ?_
      refine Xg.ops_op (by kernel_rfl) (Xg.opx_pure ((iv (↑i : Int))) rfl (fun _ => by kernel_rfl) ?_)
      refine Xg.ops_op (by kernel_rfl) (Xg.opx_rd 5 (.pointer (some (Addr.mk (Xg.blk a) (offA a + i * (2 : Nat)) none))) rfl hR (by kernel_rfl) (Xg.run_ix_rd (elem := 32) (kd := .i64) (e := ((↑i : Int))) 2 i (offA a + i * (2 : Nat)) (by kernel_rfl) (by kernel_rfl) (by kernel_rfl) (by kernel_rfl) rfl (by omega) (by rw [Xg.recs_len (wd := 2) (fun _ => rfl)]; omega) (by omega)) ?_)
      refine Xg.ops_op (by kernel_rfl) (Xg.opx_rd 5 (.agg (List.toArray [iv (ks.getD i default).fst, iv (ks.getD i default).snd])) rfl hR (by kernel_rfl) (Xg.run_loadn_rd (off0 := (offA a + i * (2 : Nat))) 2 (i * (2 : Nat)) [iv (ks.getD i default).fst, iv (ks.getD i default).snd] (by kernel_rfl) (by kernel_rfl) (by omega) rfl (Xg.recs_at' (wd := 2) (fun _ => rfl) default i (by omega) (by omega) (by kernel_rfl)) (by kernel_rfl)) ?_)
      refine Xg.ops_op (by kernel_rfl) (Xg.opx_new 2 [iv 0, iv 0] (by kernel_rfl) (by kernel_rfl) fun xb3 => ?_)
      refine Xg.ops_op (by kernel_rfl) (Xg.opx_pure ((iv (↑i : Int))) rfl (fun _ => by kernel_rfl) ?_)
      refine Xg.ops_op (by kernel_rfl) (Xg.opx_storen 2 (off := 0) 0 [iv (ks.getD i default).fst, iv (ks.getD i default).snd] (by kernel_rfl) rfl (by kernel_rfl) (by kernel_rfl) rfl (by kernel_rfl) (Nat.le_of_ble_eq_true (by kernel_rfl)) ?_)
      refine Xg.ops_nil ?_
      refine Xg.at_seq ?_
      refine Xg.at_region ?_
      refine Xg.ops_op (by kernel_rfl) (Xg.opx_pure ((pv xb3 0)) rfl (fun _ => by kernel_rfl) ?_)
      refine Xg.ops_op (by kernel_rfl) (Xg.opx_load (b := xb3) (off := ((0 : Nat))) 0 (iv (ks.getD i default).fst) rfl (by kernel_rfl) (by kernel_rfl) (by kernel_rfl) ?_)
      refine Xg.ops_op (by kernel_rfl) (Xg.opx_pure ((Value.agg #[Value.slice none (0 : Nat) (0 : Nat), Value.func (Fn.func (34 : Nat)) #[] #[]])) rfl (fun _ => by kernel_rfl) ?_)
      refine Xg.ops_op (by kernel_rfl) (Xg.opx_pure ((Value.agg #[iv (ks.getD i default).fst, Value.slice none (0 : Nat) (0 : Nat), Value.func (Fn.func (34 : Nat)) #[] #[]])) rfl (fun _ => by kernel_rfl) ?_)
      refine Xg.ops_op (by kernel_rfl) (Xg.opx_new 3 [iv 0, Value.slice none (0 : Nat) (0 : Nat), Value.nilFunc] (by kernel_rfl) (by kernel_rfl) fun xb4 => ?_)
      refine Xg.ops_op (by kernel_rfl) (Xg.opx_storen 3 (off := 0) 0 [iv (ks.getD i default).fst, Value.slice none (0 : Nat) (0 : Nat), Value.func (Fn.func (34 : Nat)) #[] #[]] (by kernel_rfl) rfl (by kernel_rfl) (by kernel_rfl) rfl (by kernel_rfl) (Nat.le_of_ble_eq_true (by kernel_rfl)) ?_)
      refine Xg.ops_nil ?_
      refine Xg.at_seq ?_
      refine Xg.at_seq ?_
      refine Xg.at_region ?_
      refine Xg.ops_op (by kernel_rfl) (Xg.opx_pure ((pv xb3 1)) rfl (fun _ => by kernel_rfl) ?_)
      refine Xg.ops_op (by kernel_rfl) (Xg.opx_load (b := xb3) (off := ((1 : Nat))) 1 (iv (ks.getD i default).snd) rfl (by kernel_rfl) (by kernel_rfl) (by kernel_rfl) ?_)
      refine Xg.ops_op (by kernel_rfl) (Xg.opx_pure ((iv 0)) rfl (fun _ => by kernel_rfl) ?_)
      refine Xg.ops_nil ?_
      refine Xg.at_block ?_)
    refine Xg.at_nil_ints 3 .i64 ?_
    rw [hmi]
    (focus
      refine Xg.at_keep [1, 0, 3, 5, 4, 6, 7, 8] (by kernel_rfl) ?_
      refine Xg.at_rounds_inv (α := (Nat × (Option Addr × Nat) × (Option Addr × Nat) × List Buf) × (Nat → Value)) (fun x => ((fun x => x.1 ≤ mm ∧ x.2.2.2 = Bl ++ List.replicate x.1 ⟨i, nA, 0, 0⟩) : (Nat × (Option Addr × Nat) × (Option Addr × Nat) × List Buf) → Prop) x.1) (fun x => ((fun x => mm - x.1) : (Nat × (Option Addr × Nat) × (Option Addr × Nat) × List Buf) → Nat) x.1) (fun x => Xg.headT [Value.agg #[Value.slice a ks.length c, iv (↑n : Int)], pv xb1 0, Value.pointer none, iv 0, pv xb2 0, iv (↑i : Int), pv xb3 0, pv xb4 0, Value.agg #[Value.slice a ks.length c, iv (↑n : Int)], Value.bool true, Value.bool false, pv xb1 1, iv (↑n : Int), Value.slice (some (Addr.mk ab (0 : Nat) none)) n n, Value.agg #[Value.slice none (0 : Nat) (0 : Nat), Value.slice none (0 : Nat) (0 : Nat), Value.slice (some (Addr.mk ab (0 : Nat) none)) n n], pv xb2 0, pv xb1 0, Value.slice a ks.length c, iv (↑ks.length : Int), iv (↑i : Int), Value.bool (decide ((↑i : Int) < (↑ks.length : Int))), iv (↑i : Int), Value.pointer (some (Addr.mk (blk a) (offA a + i * (2 : Nat)) none)), Value.agg #[iv (ks.getD i default).fst, iv (↑mm : Int)], pv xb3 0, iv (ks.getD i default).fst, Value.agg #[Value.slice none (0 : Nat) (0 : Nat), Value.func (Fn.func (34 : Nat)) #[] #[]], Value.agg #[iv (ks.getD i default).fst, Value.slice none (0 : Nat) (0 : Nat), Value.func (Fn.func (34 : Nat)) #[] #[]], pv xb3 1, iv (↑mm : Int), iv 0, ((i, L, (ca, cc), (ba, bc), Bl), J).snd (31 : Nat), ((i, L, (ca, cc), (ba, bc), Bl), J).snd (32 : Nat), ((i, L, (ca, cc), (ba, bc), Bl), J).snd (33 : Nat), ((i, L, (ca, cc), (ba, bc), Bl), J).snd (34 : Nat), ((i, L, (ca, cc), (ba, bc), Bl), J).snd (35 : Nat), ((i, L, (ca, cc), (ba, bc), Bl), J).snd (36 : Nat), ((i, L, (ca, cc), (ba, bc), Bl), J).snd (37 : Nat), ((i, L, (ca, cc), (ba, bc), Bl), J).snd (38 : Nat), ((i, L, (ca, cc), (ba, bc), Bl), J).snd (39 : Nat), ((i, L, (ca, cc), (ba, bc), Bl), J).snd (40 : Nat), ((i, L, (ca, cc), (ba, bc), Bl), J).snd (41 : Nat), ((i, L, (ca, cc), (ba, bc), Bl), J).snd (42 : Nat), ((i, L, (ca, cc), (ba, bc), Bl), J).snd (43 : Nat), ((i, L, (ca, cc), (ba, bc), Bl), J).snd (44 : Nat), ((i, L, (ca, cc), (ba, bc), Bl), J).snd (45 : Nat), ((i, L, (ca, cc), (ba, bc), Bl), J).snd (46 : Nat), ((i, L, (ca, cc), (ba, bc), Bl), J).snd (47 : Nat), ((i, L, (ca, cc), (ba, bc), Bl), J).snd (48 : Nat), ((i, L, (ca, cc), (ba, bc), Bl), J).snd (49 : Nat), ((i, L, (ca, cc), (ba, bc), Bl), J).snd (50 : Nat), ((i, L, (ca, cc), (ba, bc), Bl), J).snd (51 : Nat), ((i, L, (ca, cc), (ba, bc), Bl), J).snd (52 : Nat), ((i, L, (ca, cc), (ba, bc), Bl), J).snd (53 : Nat), ((i, L, (ca, cc), (ba, bc), Bl), J).snd (54 : Nat), ((i, L, (ca, cc), (ba, bc), Bl), J).snd (55 : Nat), ((i, L, (ca, cc), (ba, bc), Bl), J).snd (56 : Nat), ((i, L, (ca, cc), (ba, bc), Bl), J).snd (57 : Nat), ((i, L, (ca, cc), (ba, bc), Bl), J).snd (58 : Nat), ((i, L, (ca, cc), (ba, bc), Bl), J).snd (59 : Nat), ((i, L, (ca, cc), (ba, bc), Bl), J).snd (60 : Nat), ((i, L, (ca, cc), (ba, bc), Bl), J).snd (61 : Nat), tu] [31, 32, 33, 34, 35, 36, 37, 38, 39, 40, 41, 42, 43, 44, 45, 46, 47, 48, 49, 50] (((fun x => [(30, .int .i64 (x.1 : Nat))]) : (Nat × (Option Addr × Nat) × (Option Addr × Nat) × List Buf) → List (Nat × Go.Value)) x.1) x.2) (fun x => ((fun x => [row xb4 98 [.int .i64 (ks.getD i default).1, .slice x.2.1.1 x.1 x.2.1.2, fnO], I2 x.2.1.1 x.2.1.2 (iotaN Bl.length x.1), row xb2 94 [.slice ca L.length cc, .slice x.2.2.1.1 x.2.2.2.length x.2.2.1.2, .slice (some ⟨ab, 0, none⟩) n n], recsO 101 2 bufK x.2.2.1.1 x.2.2.1.2 x.2.2.2, recsO 98 3 claK ca cc L, row ab 102 (arr n fun _ => .pointer none), starC L, A]) : (Nat × (Option Addr × Nat) × (Option Addr × Nat) × List Buf) → List Go.Sl.HP) x.1) (((0, (none, 0), (ba, bc), Bl)), fun j9 => ([Value.agg #[Value.slice a ks.length c, iv (↑n : Int)], pv xb1 0, Value.pointer none, iv 0, pv xb2 0, iv (↑i : Int), pv xb3 0, pv xb4 0, Value.agg #[Value.slice a ks.length c, iv (↑n : Int)], Value.bool true, Value.bool false, pv xb1 1, iv (↑n : Int), Value.slice (some (Addr.mk ab (0 : Nat) none)) n n, Value.agg #[Value.slice none (0 : Nat) (0 : Nat), Value.slice none (0 : Nat) (0 : Nat), Value.slice (some (Addr.mk ab (0 : Nat) none)) n n], pv xb2 0, pv xb1 0, Value.slice a ks.length c, iv (↑ks.length : Int), iv (↑i : Int), Value.bool (decide ((↑i : Int) < (↑ks.length : Int))), iv (↑i : Int), Value.pointer (some (Addr.mk (blk a) (offA a + i * (2 : Nat)) none)), Value.agg #[iv (ks.getD i default).fst, iv (↑mm : Int)], pv xb3 0, iv (ks.getD i default).fst, Value.agg #[Value.slice none (0 : Nat) (0 : Nat), Value.func (Fn.func (34 : Nat)) #[] #[]], Value.agg #[iv (ks.getD i default).fst, Value.slice none (0 : Nat) (0 : Nat), Value.func (Fn.func (34 : Nat)) #[] #[]], pv xb3 1, iv (↑mm : Int), iv 0, ((i, L, (ca, cc), (ba, bc), Bl), J).snd (31 : Nat), ((i, L, (ca, cc), (ba, bc), Bl), J).snd (32 : Nat), ((i, L, (ca, cc), (ba, bc), Bl), J).snd (33 : Nat), ((i, L, (ca, cc), (ba, bc), Bl), J).snd (34 : Nat), ((i, L, (ca, cc), (ba, bc), Bl), J).snd (35 : Nat), ((i, L, (ca, cc), (ba, bc), Bl), J).snd (36 : Nat), ((i, L, (ca, cc), (ba, bc), Bl), J).snd (37 : Nat), ((i, L, (ca, cc), (ba, bc), Bl), J).snd (38 : Nat), ((i, L, (ca, cc), (ba, bc), Bl), J).snd (39 : Nat), ((i, L, (ca, cc), (ba, bc), Bl), J).snd (40 : Nat), ((i, L, (ca, cc), (ba, bc), Bl), J).snd (41 : Nat), ((i, L, (ca, cc), (ba, bc), Bl), J).snd (42 : Nat), ((i, L, (ca, cc), (ba, bc), Bl), J).snd (43 : Nat), ((i, L, (ca, cc), (ba, bc), Bl), J).snd (44 : Nat), ((i, L, (ca, cc), (ba, bc), Bl), J).snd (45 : Nat), ((i, L, (ca, cc), (ba, bc), Bl), J).snd (46 : Nat), ((i, L, (ca, cc), (ba, bc), Bl), J).snd (47 : Nat), ((i, L, (ca, cc), (ba, bc), Bl), J).snd (48 : Nat), ((i, L, (ca, cc), (ba, bc), Bl), J).snd (49 : Nat), ((i, L, (ca, cc), (ba, bc), Bl), J).snd (50 : Nat), ((i, L, (ca, cc), (ba, bc), Bl), J).snd (51 : Nat), ((i, L, (ca, cc), (ba, bc), Bl), J).snd (52 : Nat), ((i, L, (ca, cc), (ba, bc), Bl), J).snd (53 : Nat), ((i, L, (ca, cc), (ba, bc), Bl), J).snd (54 : Nat), ((i, L, (ca, cc), (ba, bc), Bl), J).snd (55 : Nat), ((i, L, (ca, cc), (ba, bc), Bl), J).snd (56 : Nat), ((i, L, (ca, cc), (ba, bc), Bl), J).snd (57 : Nat), ((i, L, (ca, cc), (ba, bc), Bl), J).snd (58 : Nat), ((i, L, (ca, cc), (ba, bc), Bl), J).snd (59 : Nat), ((i, L, (ca, cc), (ba, bc), Bl), J).snd (60 : Nat), ((i, L, (ca, cc), (ba, bc), Bl), J).snd (61 : Nat), tu] : List Value).getD j9 undef) (by kernel_rfl) (by kernel_rfl) ?_ ?_)
    · exact ⟨Nat.zero_le _, by rw [List.replicate_zero, List.append_nil]⟩
    rintro ⟨⟨j, ⟨xa, xc⟩, ⟨ba2, bc2⟩, Bl2⟩, J2⟩ hj ih2
    obtain ⟨hj, hB2⟩ := hj
    dsimp only at hj hB2
    (focus
      refine Xg.At.same (T' := [Value.agg #[Value.slice a ks.length c, iv (↑n : Int)], pv xb1 0, Value.pointer none, iv 0, pv xb2 0, iv (↑i : Int), pv xb3 0, pv xb4 0, Value.agg #[Value.slice a ks.length c, iv (↑n : Int)], Value.bool true, Value.bool false, pv xb1 1, iv (↑n : Int), Value.slice (some (Addr.mk ab (0 : Nat) none)) n n, Value.agg #[Value.slice none (0 : Nat) (0 : Nat), Value.slice none (0 : Nat) (0 : Nat), Value.slice (some (Addr.mk ab (0 : Nat) none)) n n], pv xb2 0, pv xb1 0, Value.slice a ks.length c, iv (↑ks.length : Int), iv (↑i : Int), Value.bool (decide ((↑i : Int) < (↑ks.length : Int))), iv (↑i : Int), Value.pointer (some (Addr.mk (blk a) (offA a + i * (2 : Nat)) none)), Value.agg #[iv (ks.getD i default).fst, iv (↑mm : Int)], pv xb3 0, iv (ks.getD i default).fst, Value.agg #[Value.slice none (0 : Nat) (0 : Nat), Value.func (Fn.func (34 : Nat)) #[] #[]], Value.agg #[iv (ks.getD i default).fst, Value.slice none (0 : Nat) (0 : Nat), Value.func (Fn.func (34 : Nat)) #[] #[]], pv xb3 1, iv (↑mm : Int), iv (↑j : Int), ((j, (xa, xc), (ba2, bc2), Bl2), J2).snd (31 : Nat), ((j, (xa, xc), (ba2, bc2), Bl2), J2).snd (32 : Nat), ((j, (xa, xc), (ba2, bc2), Bl2), J2).snd (33 : Nat), ((j, (xa, xc), (ba2, bc2), Bl2), J2).snd (34 : Nat), ((j, (xa, xc), (ba2, bc2), Bl2), J2).snd (35 : Nat), ((j, (xa, xc), (ba2, bc2), Bl2), J2).snd (36 : Nat), ((j, (xa, xc), (ba2, bc2), Bl2), J2).snd (37 : Nat), ((j, (xa, xc), (ba2, bc2), Bl2), J2).snd (38 : Nat), ((j, (xa, xc), (ba2, bc2), Bl2), J2).snd (39 : Nat), ((j, (xa, xc), (ba2, bc2), Bl2), J2).snd (40 : Nat), ((j, (xa, xc), (ba2, bc2), Bl2), J2).snd (41 : Nat), ((j, (xa, xc), (ba2, bc2), Bl2), J2).snd (42 : Nat), ((j, (xa, xc), (ba2, bc2), Bl2), J2).snd (43 : Nat), ((j, (xa, xc), (ba2, bc2), Bl2), J2).snd (44 : Nat), ((j, (xa, xc), (ba2, bc2), Bl2), J2).snd (45 : Nat), ((j, (xa, xc), (ba2, bc2), Bl2), J2).snd (46 : Nat), ((j, (xa, xc), (ba2, bc2), Bl2), J2).snd (47 : Nat), ((j, (xa, xc), (ba2, bc2), Bl2), J2).snd (48 : Nat), ((j, (xa, xc), (ba2, bc2), Bl2), J2).snd (49 : Nat), ((j, (xa, xc), (ba2, bc2), Bl2), J2).snd (50 : Nat), ((i, L, (ca, cc), (ba, bc), Bl), J).snd (51 : Nat), ((i, L, (ca, cc), (ba, bc), Bl), J).snd (52 : Nat), ((i, L, (ca, cc), (ba, bc), Bl), J).snd (53 : Nat), ((i, L, (ca, cc), (ba, bc), Bl), J).snd (54 : Nat), ((i, L, (ca, cc), (ba, bc), Bl), J).snd (55 : Nat), ((i, L, (ca, cc), (ba, bc), Bl), J).snd (56 : Nat), ((i, L, (ca, cc), (ba, bc), Bl), J).snd (57 : Nat), ((i, L, (ca, cc), (ba, bc), Bl), J).snd (58 : Nat), ((i, L, (ca, cc), (ba, bc), Bl), J).snd (59 : Nat), ((i, L, (ca, cc), (ba, bc), Bl), J).snd (60 : Nat), ((i, L, (ca, cc), (ba, bc), Bl), J).snd (61 : Nat), tu]) (L' := [row xb4 (98 : TypeId) [iv (ks.getD i default).fst, Value.slice ((j, (xa, xc), (ba2, bc2), Bl2), J2).fst.snd.fst.fst ((j, (xa, xc), (ba2, bc2), Bl2), J2).fst.fst ((j, (xa, xc), (ba2, bc2), Bl2), J2).fst.snd.fst.snd, fnO], I2 ((j, (xa, xc), (ba2, bc2), Bl2), J2).fst.snd.fst.fst ((j, (xa, xc), (ba2, bc2), Bl2), J2).fst.snd.fst.snd (iotaN Bl.length ((j, (xa, xc), (ba2, bc2), Bl2), J2).fst.fst), row xb2 (94 : TypeId) [Value.slice ca L.length cc, Value.slice ((j, (xa, xc), (ba2, bc2), Bl2), J2).fst.snd.snd.fst.fst ((j, (xa, xc), (ba2, bc2), Bl2), J2).fst.snd.snd.snd.length ((j, (xa, xc), (ba2, bc2), Bl2), J2).fst.snd.snd.fst.snd, Value.slice (some (Addr.mk ab (0 : Nat) none)) n n], recsO (101 : Nat) (2 : Nat) bufK ((j, (xa, xc), (ba2, bc2), Bl2), J2).fst.snd.snd.fst.fst ((j, (xa, xc), (ba2, bc2), Bl2), J2).fst.snd.snd.fst.snd ((j, (xa, xc), (ba2, bc2), Bl2), J2).fst.snd.snd.snd, recsO (98 : Nat) (3 : Nat) claK ca cc L, row ab (102 : TypeId) (arr n fun (x : Nat) => Value.pointer none), starC L, A]) (by kernel_rfl) rfl ?_)
    have hl2 : Bl2.length = Bl.length + j := by rw [hB2, List.length_append, List.length_replicate]
    have hp : ∀ b s, Does Try.prog 35 [.pointer (some ⟨b, 1, none⟩), .int .i64 (Bl2.length : Nat)] [row b 98 [.int .i64 s, .slice xa j xc, fnO], I2 xa xc (iotaN Bl.length j)]
        (RetE (fun x : Option Addr × Nat => True) (fun x => .tuple #[]) (fun x => [row b 98 [.int .i64 s, .slice x.1 (j + 1) x.2, fnO], I2 x.1 x.2 (iotaN Bl.length (j + 1))])) := fun b s => by
      have h := putB b s xa xc (iotaN Bl.length j) ((Bl.length + j : Nat) : Int) (iotaN_sd _ _ (by omega)) (by omega)
      rw [sins_iota, iotaN_len, iotaN_len] at h
      rw [hl2]; exact h
    by_cases hlt2 : j < mm
    · (focus
        refine Xg.at_seq ?_
        refine Xg.at_region ?_
        refine Xg.ops_op (by kernel_rfl) (Xg.opx_pure (.bool (decide ((((↑j : Int)) : Int) < ((↑mm : Int))))) rfl (fun _ => by kernel_rfl) ?_)
        refine Xg.ops_nil ?_
        refine Xg.at_seq ?_
        refine Xg.at_true (t := decide (((↑j : Int) < (↑mm : Int)))) (by kernel_rfl) (decide_eq_true (by omega)) ?_
        refine Xg.at_skip ?_
        refine Xg.at_seq ?_
        refine Xg.at_block ?_
        refine Xg.at_seq ?_
        refine Xg.at_region ?_
        refine Xg.ops_op (by kernel_rfl) (Xg.opx_pure ((pv xb4 1)) rfl (fun _ => by kernel_rfl) ?_)
        refine Xg.ops_op (by kernel_rfl) (Xg.opx_pure ((pv xb2 0)) rfl (fun _ => by kernel_rfl) ?_)
        refine Xg.ops_op (by kernel_rfl) (Xg.opx_pure ((pv xb2 0)) rfl (fun _ => by kernel_rfl) ?_)
        refine Xg.ops_op (by kernel_rfl) (Xg.opx_pure ((pv xb2 1)) rfl (fun _ => by kernel_rfl) ?_)
        refine Xg.ops_op (by kernel_rfl) (Xg.opx_load (b := xb2) (off := ((1 : Nat))) 2 (Value.slice ba2 Bl2.length bc2) rfl (by kernel_rfl) (by kernel_rfl) (by kernel_rfl) ?_)
        refine Xg.ops_op (by kernel_rfl) (Xg.opx_pure ((iv (↑Bl2.length : Int))) rfl (fun _ => by kernel_rfl) ?_)
        refine Xg.ops_op (by kernel_rfl) (Xg.opx_callE' [0, 1] (fun xx1 => [row xb4 (98 : TypeId) [iv (ks.getD i default).fst, Value.slice xx1.fst (j + (1 : Nat)) xx1.snd, Value.func (Fn.func (34 : Nat)) #[] #[]], I2 xx1.fst xx1.snd (iotaN Bl.length (j + (1 : Nat))), row xb2 (94 : TypeId) [Value.slice ca L.length cc, Value.slice ba2 Bl2.length bc2, Value.slice (some (Addr.mk ab (0 : Nat) none)) n n], recsO (101 : Nat) (2 : Nat) bufK ba2 bc2 Bl2, recsO (98 : Nat) (3 : Nat) claK ca cc L, row ab (102 : TypeId) (arr n fun (x : Nat) => Value.pointer none), starC L, A]) (fun _ => by kernel_rfl) (@hp (xb4) (((ks.getD i default).fst))) (by kernel_rfl) (by kernel_rfl) (by kernel_rfl) fun xx1 xh1 => ?_)
        try dsimp only at xh1
        refine Xg.ops_nil ?_
        refine Xg.at_region ?_
        refine Xg.ops_op (by kernel_rfl) (Xg.opx_pure ((pv xb2 0)) rfl (fun _ => by kernel_rfl) ?_)
        refine Xg.ops_op (by kernel_rfl) (Xg.opx_pure ((pv xb2 0)) rfl (fun _ => by kernel_rfl) ?_)
        refine Xg.ops_op (by kernel_rfl) (Xg.opx_pure ((pv xb2 0)) rfl (fun _ => by kernel_rfl) ?_)
        refine Xg.ops_op (by kernel_rfl) (Xg.opx_pure ((pv xb2 1)) rfl (fun _ => by kernel_rfl) ?_)
        refine Xg.ops_op (by kernel_rfl) (Xg.opx_load (b := xb2) (off := ((1 : Nat))) 2 (Value.slice ba2 Bl2.length bc2) rfl (by kernel_rfl) (by kernel_rfl) (by kernel_rfl) ?_)
        refine Xg.ops_op (by kernel_rfl) (Xg.opx_pure ((iv (↑i : Int))) rfl (fun _ => by kernel_rfl) ?_)
        refine Xg.ops_op (by kernel_rfl) (Xg.opx_pure ((Value.agg #[iv (↑i : Int), Value.slice none (0 : Nat) (0 : Nat)])) rfl (fun _ => by kernel_rfl) ?_)
        refine Xg.ops_op (by kernel_rfl) (Xg.opx_bs (elem := 101) 2 [Value.agg #[iv (↑i : Int), Value.slice none (0 : Nat) (0 : Nat)]] [iv (↑i : Int), Value.slice none (0 : Nat) (0 : Nat)] (by kernel_rfl) (by kernel_rfl) (by decide) rfl (by kernel_rfl) (by kernel_rfl) (by kernel_rfl) (by kernel_rfl) fun xb5 => ?_)
        refine Xg.ops_op (by kernel_rfl) (Xg.opx_append_recs (elem := 101) (yv := (Value.slice (some (Addr.mk xb5 (0 : Nat) none)) (1 : Nat) (1 : Nat))) (l := Bl2) 4 2 64 (Buf.mk i none (0 : Nat) (0 : Nat)) rfl (by kernel_rfl) (by kernel_rfl) (by kernel_rfl) (by kernel_rfl) (fun _ hS => Xg.row_rd hS 0 rfl (by kernel_rfl)) (by kernel_rfl) (by first | omega | (simp only [List.length_nil]; omega) | (simp; done) | (simp; omega)) (by first | omega | (simp only [List.length_nil]; omega) | (simp; done) | (simp; omega)) fun xa1 xc1 => ?_)
        have xl1 : ((Bl2 : (List Buf)) ++ ([(Buf.mk i none (0 : Nat) (0 : Nat))] : (List Buf))).length = (Bl2 : (List Buf)).length + 1 := by simp
        refine Xg.ops_op (by kernel_rfl) (Xg.opx_pure ((pv xb2 0)) rfl (fun _ => by kernel_rfl) ?_)
        refine Xg.ops_op (by kernel_rfl) (Xg.opx_pure ((pv xb2 1)) rfl (fun _ => by kernel_rfl) ?_)
        refine Xg.ops_op (by kernel_rfl) (Xg.opx_store1 (off := 1) 3 (Value.slice xa1 (Bl2 ++ [Buf.mk i none (0 : Nat) (0 : Nat)]).length xc1) (by kernel_rfl) rfl (by kernel_rfl) (by kernel_rfl) (by kernel_rfl) (Nat.le_of_ble_eq_true (by kernel_rfl)) ?_)
        refine Xg.ops_nil ?_
        refine Xg.at_inBlock ?_
        refine Xg.at_region ?_
        refine Xg.ops_op (by kernel_rfl) (Xg.opx_int .i64 (IntKind.wrap .i64 (((↑j : Int) + (1 : Int)))) rfl (fun _ => by kernel_rfl) (Xg.wrap_i64_in (by omega)) ?_)
        refine Xg.ops_op (by kernel_rfl) (Xg.opx_pure ((iv ((↑j : Int) + (1 : Int)))) rfl (fun _ => by kernel_rfl) ?_)
        refine Xg.ops_nil ?_
        refine Xg.at_inLoop ?_)
      (focus
        refine Xg.at_keep [1, 2, 3, 4, 5, 6, 7, 8] (by kernel_rfl) ?_
        refine Xs.same ?_ (fun J9 => ih2 (((j + 1, (xx1.1, xx1.2), (xa1, xc1), Bl2 ++ [⟨i, nA, 0, 0⟩])), J9) ?_ ?_) (by kernel_rfl))
      · rfl
      · exact ⟨hlt2, by rw [hB2, List.append_assoc, List.replicate_succ']⟩
      · dsimp only; omega
    · obtain rfl : j = mm := by omega
      clear ih2
      obtain ⟨X, hX⟩ : ∃ X, iotaN Bl.length j = X := ⟨_, rfl⟩
      have hXl : X.length = j := by rw [← hX, iotaN_len]
      rw [hX]
      clear hp
      subst hXl
      have hLl : L.length = i := hL.1
      (focus
        refine Xg.at_seq ?_
        refine Xg.at_region ?_
        refine Xg.ops_op (by kernel_rfl) (Xg.opx_pure (.bool (decide ((((↑X.length : Int)) : Int) < ((↑X.length : Int))))) rfl (fun _ => by kernel_rfl) ?_)
        refine Xg.ops_nil ?_
        refine Xg.at_seq ?_
        refine Xg.at_false (t := decide (((↑X.length : Int) < (↑X.length : Int)))) (by kernel_rfl) (decide_eq_false (by omega)) ?_
        refine Xg.at_exit rfl ?_
        refine Xg.at_draw [5, 6, 7, 10] [(4, [0, 1, 2, 3, 4, 5, 6], Xg.CellIs (xb2) (((0 : Nat))) ((Value.slice ca L.length cc)))] (by kernel_rfl) ?_
        refine Xg.any_pure ((pv xb2 0)) 0 (by kernel_rfl) rfl (by kernel_rfl) (by kernel_rfl) (by kernel_rfl) (by kernel_rfl) rfl (fun _ => by kernel_rfl) ?_
        refine Xg.any_pure ((pv xb2 0)) 1 (by kernel_rfl) rfl (by kernel_rfl) (by kernel_rfl) (by kernel_rfl) (by kernel_rfl) rfl (fun _ => by kernel_rfl) ?_
        refine Xg.any_pure ((pv xb2 0)) 2 (by kernel_rfl) rfl (by kernel_rfl) (by kernel_rfl) (by kernel_rfl) (by kernel_rfl) rfl (fun _ => by kernel_rfl) ?_
        refine Xg.any_pure ((pv xb2 0)) 3 (by kernel_rfl) rfl (by kernel_rfl) (by kernel_rfl) (by kernel_rfl) (by kernel_rfl) rfl (fun _ => by kernel_rfl) ?_
        refine Xg.any_reads (Value.slice ca L.length cc) 4 0 (by kernel_rfl) rfl (by kernel_rfl) (by kernel_rfl) (by kernel_rfl) (by kernel_rfl) rfl rfl (by kernel_rfl) (Xg.cell_now (b := xb2) (off := ((0 : Nat))) 2 rfl (by kernel_rfl)) (fun _ h => Xg.run_load (by kernel_rfl) (by kernel_rfl) h) ?_
        refine Xg.any_each [5] (by kernel_rfl) rfl ⟨?_, trivial⟩
        refine Xg.comes_act rfl (by kernel_rfl) (by kernel_rfl) (Xg.opx_loadn (off := 0) 3 0 [iv (ks.getD i default).fst, Value.slice xa X.length xc, Value.func (Fn.func (34 : Nat)) #[] #[]] (by kernel_rfl) rfl (by kernel_rfl) rfl (Xg.cells_at (by kernel_rfl)) (by kernel_rfl) ?_)
        refine Xg.acts (Xg.owes_cell 2 rfl (by kernel_rfl) Xg.owes_nil) ?_
        refine Xg.any_each [6] (by kernel_rfl) rfl ⟨?_, trivial⟩
        refine Xg.comes_act rfl (by kernel_rfl) (by kernel_rfl) (Xg.opx_bs (elem := 98) 3 [Value.agg #[iv (ks.getD i default).fst, Value.slice xa X.length xc, Value.func (Fn.func (34 : Nat)) #[] #[]]] [iv (ks.getD i default).fst, Value.slice xa X.length xc, Value.func (Fn.func (34 : Nat)) #[] #[]] (by kernel_rfl) (by kernel_rfl) (by decide) rfl (by kernel_rfl) (by kernel_rfl) (by kernel_rfl) (by kernel_rfl) fun xb5 => ?_)
        refine Xg.acts (Xg.owes_cell 3 rfl (by kernel_rfl) Xg.owes_nil) ?_
        refine Xg.any_each [7] (by kernel_rfl) rfl ⟨?_, trivial⟩
        refine Xg.comes_act rfl (by kernel_rfl) (by kernel_rfl) (Xg.opx_append_recs (elem := 98) (yv := (Value.slice (some (Addr.mk xb5 (0 : Nat) none)) (1 : Nat) (1 : Nat))) (l := L) 5 3 96 (Cls.mk (ks.getD i default).1 xa xc X) rfl (by kernel_rfl) (by kernel_rfl) (by kernel_rfl) (by kernel_rfl) (fun _ hS => Xg.row_rd hS 0 rfl (by kernel_rfl)) (by kernel_rfl) (by first | omega | (simp only [List.length_nil]; omega) | (simp; done) | (simp; omega)) (by first | omega | (simp only [List.length_nil]; omega) | (simp; done) | (simp; omega)) fun xa1 xc1 => ?_)
        have xl1 : ((L : (List Cls)) ++ ([(Cls.mk (ks.getD i default).1 xa xc X)] : (List Cls))).length = (L : (List Cls)).length + 1 := by simp
        refine Xg.acts (Xg.owes_skip (by kernel_rfl) Xg.owes_nil) ?_
        refine Xg.any_pure ((pv xb2 0)) 8 (by kernel_rfl) rfl (by kernel_rfl) (by kernel_rfl) (by kernel_rfl) (by kernel_rfl) rfl (fun _ => by kernel_rfl) ?_
        refine Xg.any_pure ((pv xb2 0)) 9 (by kernel_rfl) rfl (by kernel_rfl) (by kernel_rfl) (by kernel_rfl) (by kernel_rfl) rfl (fun _ => by kernel_rfl) ?_
        refine Xg.any_each [10] (by kernel_rfl) rfl ⟨?_, trivial⟩
        refine Xg.comes_act rfl (by kernel_rfl) (by kernel_rfl) (Xg.opx_store1 (off := 0) 3 (Value.slice xa1 (L ++ [Cls.mk (ks.getD i default).fst xa xc X]).length xc1) (by kernel_rfl) rfl (by kernel_rfl) (by kernel_rfl) (by kernel_rfl) (Nat.le_of_ble_eq_true (by kernel_rfl)) ?_)
        refine Xg.acts (Xg.owes_skip (by kernel_rfl) Xg.owes_nil) ?_
        refine Xg.any_nil (by kernel_rfl) ?_
        refine Xg.at_inBlock ?_
        refine Xg.at_region ?_
        refine Xg.ops_op (by kernel_rfl) (Xg.opx_int .i64 (IntKind.wrap .i64 (((↑i : Int) + (1 : Int)))) rfl (fun _ => by kernel_rfl) (Xg.wrap_i64_in (by omega)) ?_)
        refine Xg.ops_op (by kernel_rfl) (Xg.opx_pure ((iv ((↑i : Int) + (1 : Int)))) rfl (fun _ => by kernel_rfl) ?_)
        refine Xg.ops_nil ?_
        refine Xg.at_inLoop ?_)
      refine at_pick [2, 7, 3, 5, 4, 6, 8] rfl (at_starC_one (M := L) (x := ⟨(ks.getD i default).1, xa, xc, X⟩) ?_)
      (focus
        refine Xg.at_keep [1, 2, 3, 4, 0, 5] (by kernel_rfl) ?_
        refine Xs.same ?_ (fun J9 => ih (((i + 1, L ++ [⟨(ks.getD i default).1, xa, xc, X⟩], (xa1, xc1), (ba2, bc2), Bl2)), J9) ?_ ?_) (by kernel_rfl))
      · rfl
      · refine ⟨hlt, Lok_one hL _ rfl ?_, ?_⟩
        · rw [hmm, ← hB]; exact hX.symm
        · dsimp only
          rw [hB2, hB]
          show _ = bufL ks i ++ List.replicate (manyK ks i) ⟨i, nA, 0, 0⟩
          rw [hmm]
      · dsimp only; omega
  · obtain rfl : i = ks.length := by omega
    clear ih
    subst hB
    (focus
      refine Xg.at_seq ?_
      refine Xg.at_region ?_
      refine Xg.ops_op (by kernel_rfl) (Xg.opx_pure (.bool (decide ((((↑ks.length : Int)) : Int) < ((↑ks.length : Int))))) rfl (fun _ => by kernel_rfl) ?_)
      refine Xg.ops_nil ?_
      refine Xg.at_seq ?_
      refine Xg.at_false (t := decide (((↑ks.length : Int) < (↑ks.length : Int)))) (by kernel_rfl) (decide_eq_false (by omega)) ?_
      refine Xg.at_exit rfl ?_
      refine Xg.at_seq ?_
      refine Xg.at_region ?_
      refine Xg.ops_op (by kernel_rfl) (Xg.opx_pure ((pv xb2 0)) rfl (fun _ => by kernel_rfl) ?_)
      refine Xg.ops_op (by kernel_rfl) (Xg.opx_pure ((pv xb2 0)) rfl (fun _ => by kernel_rfl) ?_)
      refine Xg.ops_op (by kernel_rfl) (Xg.opx_pure ((iv 0)) rfl (fun _ => by kernel_rfl) ?_)
      refine Xg.ops_nil ?_
      refine Xg.at_ret_ps (v := (Value.tuple #[pv xb2 0, iv 0])) [0, 1, 2, 3, 4, 5] [row xb2 (94 : TypeId) [Value.slice ca L.length cc, Value.slice ba (bufL ks ks.length).length bc, Value.slice (some (Addr.mk ab (0 : Nat) none)) n n], recsO (98 : Nat) (3 : Nat) claK ca cc L, recsO (101 : Nat) (2 : Nat) bufK ba bc (bufL ks ks.length), row ab (102 : TypeId) (arr n fun (x : Nat) => Value.pointer none), starC L, A] Go.Proofs.Try.func14 (fun _ => by kernel_rfl) (by kernel_rfl) (by kernel_rfl) ?_
      refine ⟨((xb2, ab, (ca, cc), (ba, bc), L)), ?_, by kernel_rfl, by kernel_rfl⟩)
    exact hL
end Go.Proofs.Ytmplimmcjdkhlaa

/- The arena package: New makes a Pool. -/
namespace Go.Proofs.Ytmplimmcjdkhlaa
open Go.Sl Go.Xg
set_option linter.unusedVariables false
set_option linter.unusedSimpArgs false
set_option linter.unnecessarySimpa false
set_option maxHeartbeats 4000000
set_option maxRecDepth 100000

theorem map_getD {α : Type} (d : α) (l : List α) : (List.range l.length).map (fun i => l.getD i d) = l := by
  apply List.ext_getElem (by simp)
  intro i h1 h2
  simp [List.getD_eq_getElem?_getD, h2]
theorem star_emp {g w : World} {L : List HP} : ∀ (l : List Nat) (F : Nat → HP), (∀ i ∈ l, F i = Xg.emp) → SL g L w → SL g (seps (l.map F) :: L) w
  | [], F, _, h => SL.flat.2 h
  | x :: l, F, hF, h => by
    have h1 := star_emp l F (fun i hi => hF i (.tail _ hi)) h
    rw [List.map_cons, hF x (.head _)]
    exact SL.flat.2 (SL.emp_iff.2 (SL.flat.1 h1))
theorem own_row3 {g w : World} {L : List HP} {E sz n c : Nat} {a : Option Addr} {vs : List Value} (h : SL g (ownS E sz (.slice a n c) n vs :: L) w) (hn : n ≠ 0) :
    ∃ b sp, a = some ⟨b, 0, none⟩ ∧ SL g (row b E (vs ++ sp) :: L) w := by
  obtain ⟨hl, ⟨_, h0, _⟩ | ⟨b, cap, sp, h1, h2, h3, h4, h5⟩⟩ := h.own_cases
  · exact absurd h0 hn
  · cases h1; exact ⟨b, sp, rfl, h5⟩
def newσ (ks : List (Int × Int)) (n : Nat) : Po := { nc := ks.length, size := fun k => (ks.getD k default).1.toNat, fr := fun k => iotaN (bufL ks k).length (manyK ks k), nb := (bufL ks ks.length).length, cl := fun b => ((bufL ks ks.length).getD b default).cls, bs := fun _ => none, na := n, ar := fun _ => none }
theorem newS (A : HP) (a : Option Addr) (c : Nat) (ks : List (Int × Int)) (hR : Reads A 2 (.slice a ks.length c) ks.length (recs kC ks)) (hk : Kok ks) (n : Nat) (h1 : 1 ≤ n) (h64 : n ≤ 64) (h0 : (bufL ks ks.length).length ≠ 0) : Does Try.prog 14 [.agg #[.slice a ks.length c, .int .i64 (n : Nat)]] [A]
    (RetE (fun p : Nat => True) (fun p => .tuple #[.pointer (some ⟨p, 0, none⟩), .int .i64 0]) (fun p => [PoolS p (newσ ks n), A])) := by
  refine does_conv (K := []) (newL A a c ks hR hk n h1 h64) (fun g w F hS => hS) fun x hx g w F hS => ⟨x.1, trivial, rfl, ?_⟩
  obtain ⟨p, ab, ⟨ca, cc⟩, ⟨ba, bc⟩, L⟩ := x
  dsimp only at hS hx ⊢
  obtain ⟨hl, hx⟩ := hx
  have h2 : SL g (recsO 98 3 claK ca cc L :: _) w := hS.pull 1
  obtain ⟨cb, sp, rfl, h3⟩ := own_row3 h2 (by rw [hl]; have := hk.1; omega)
  have h4 : SL g (recsO 101 2 bufK ba bc (bufL ks ks.length) :: _) w := h3.pull 2
  obtain ⟨bb, sq, rfl, h5⟩ := own_row3 h4 h0
  have e1 : recs claK L ++ sp = claR ks.length sp (fun k => L.getD k default) := by
    unfold claR; rw [rowF_eq]; dsimp only; rw [← hl, map_getD]
  have e2 : recs bufK (bufL ks ks.length) ++ sq = bufR (bufL ks ks.length).length sq (fun b => (bufL ks ks.length).getD b default) := by
    unfold bufR; rw [rowF_eq]; dsimp only; rw [map_getD]
  have e3 : starC L = S0 (fun k => L.getD k default) ks.length := by
    unfold starC S0 starN
    conv => lhs; rw [← map_getD default L, List.map_map]
    rw [← hl]; rfl
  rw [e1, e2, e3] at h5
  have h6 : SL g (S1 (fun _ => none) (fun b => (bufL ks ks.length).getD b default) (bufL ks ks.length).length :: S2 (fun _ => none) (fun _ => none) (fun _ => (none, 0)) n :: _) w := star_emp _ _ (fun _ _ => rfl) (star_emp _ _ (fun _ _ => rfl) h5)
  rw [hl] at h6
  exact pools_shut (σ := newσ ks n) (PAd.mk cb cc bb bc ab sp sq (fun k => L.getD k default) (fun b => (bufL ks ks.length).getD b default) (fun _ => none) (fun _ => (none, 0)) (fun k hk2 => by
    obtain ⟨f1, f2⟩ := hx k hk2
    have f3 := (hk.2.2.1 k hk2).1
    have f4 := prevK_nn hk k (Nat.le_of_lt hk2)
    refine ⟨?_, f2⟩
    rw [f1]
    show _ = (((ks.getD k default).1.toNat : Nat) : Int)
    omega) (fun b hb => rfl) (fun b l hb hl2 => by cases hl2) (fun i hi => rfl)) (sl_ord [4, 3, 2, 5, 6, 0, 1, 7] 8 rfl h6)
end Go.Proofs.Ytmplimmcjdkhlaa

/- The arena package, any Pool: Take refused by the quota, by an empty class. -/
namespace Go.Proofs.Ytmplimmcjdkhlaa
open Go.Sl Go.Xg
set_option linter.unusedVariables false
set_option linter.unusedSimpArgs false
set_option linter.unnecessarySimpa false
set_option maxHeartbeats 4000000
set_option maxRecDepth 100000


section
variable (p cb nc cc bb nb bc ab na : Nat) (u : Nat → Option Nat) (id r : Nat) (hid : id < na) (hna : na ≤ 64) (hu : u id = some r) (sp : List Value) (C : Nat → Cls) (q us : Int) (ta : Option Addr) (tl tc : Nat)
include hid hna hu
end
section
variable (p : Nat) (σ : Po) (hna : σ.na ≤ 64) (hnc : σ.nc ≤ 100) (id : Nat) (hid : id < σ.na) (r : Ar) (hr : σ.ar id = some r)
include hna hnc hid hr
end
end Go.Proofs.Ytmplimmcjdkhlaa

/- The arena law: house. -/
namespace Go.Proofs.Ytmplimmcjdkhlaa
open Go.Sl Go.Xg
set_option linter.unusedVariables false
set_option linter.unusedSimpArgs false
set_option linter.unnecessarySimpa false
set_option maxHeartbeats 4000000
set_option maxRecDepth 100000

abbrev hdC (x : Int) : List Value := [.int .i64 x, .slice none 0 0, .slice none 0 0]
abbrev ksH (m : Nat) : List (Int × Int) := [(4, (m : Nat)), (16, (m : Nat))]
theorem kok_h (m : Nat) (h1 : 1 ≤ m) (h6 : m ≤ 500) : Kok (ksH m) := by
  refine ⟨by simp, by simp, fun i hi => ?_, ?_⟩
  · have hi2 : i < 2 := hi
    obtain rfl | rfl : i = 0 ∨ i = 1 := by omega
    · unfold prevK; simp [ksH]; omega
    · unfold prevK; simp [ksH]; omega
  · simp [ksH, totK]; omega
theorem bufH_len (m : Nat) : (bufL (ksH m) 2).length = 2 * m := by
  simp [bufL, ksH, manyK]; omega
theorem newH (m b : Nat) (h1 : 1 ≤ m) (h6 : m ≤ 500) : Does Try.prog 14 [.agg #[.slice (some ⟨b, 0, none⟩) 2 2, .int .i64 5]] [row b 32 [.int .i64 4, .int .i64 (m : Nat), .int .i64 16, .int .i64 (m : Nat)]]
    (RetE (fun p : Nat => True) (fun p => .tuple #[.pointer (some ⟨p, 0, none⟩), .int .i64 0]) (fun p => [PoolS p (newσ (ksH m) 5), row b 32 [.int .i64 4, .int .i64 (m : Nat), .int .i64 16, .int .i64 (m : Nat)]])) := by
  have hR : Reads (row b 32 [.int .i64 4, .int .i64 (m : Nat), .int .i64 16, .int .i64 (m : Nat)]) 2 (.slice (some ⟨b, 0, none⟩) (ksH m).length 2) (ksH m).length (recs kC (ksH m)) := reads_row rfl (fun j v hv => by rwa [Nat.zero_add])
  exact newS _ (some ⟨b, 0, none⟩) 2 (ksH m) hR (kok_h m h1 h6) 5 (by decide) (by decide) (by rw [show (ksH m).length = 2 from rfl, bufH_len]; omega)
/-- The Pool behind so many Opens. -/
def opsσ (m : Nat) (q : Int) : Nat → Po
  | 0 => newσ (ksH m) 5
  | i + 1 => openσ (opsσ m q i) i q
theorem ops_na (m : Nat) (q : Int) : ∀ i, (opsσ m q i).na = 5
  | 0 => rfl
  | i + 1 => ops_na m q i
theorem ops_ar (m : Nat) (q : Int) : ∀ i j, (opsσ m q i).ar j = if j < i then some ⟨q, 0, []⟩ else none
  | 0, j => rfl
  | i + 1, j => by
    show updF (opsσ m q i).ar i (some ⟨q, 0, []⟩) j = _
    unfold updF
    split
    · rename_i e; rw [if_pos (by omega)]
    · rename_i e
      rw [ops_ar m q i j]
      by_cases h : j < i
      · rw [if_pos h, if_pos (by omega)]
      · rw [if_neg h, if_neg (by omega)]
theorem ops_same (m : Nat) (q : Int) : ∀ i, (opsσ m q i).nc = 2 ∧ (opsσ m q i).nb = 2 * m ∧ (opsσ m q i).fr = (newσ (ksH m) 5).fr ∧ (opsσ m q i).size = (newσ (ksH m) 5).size ∧ (opsσ m q i).cl = (newσ (ksH m) 5).cl ∧ (opsσ m q i).bs = fun _ => none
  | 0 => ⟨rfl, bufH_len m, rfl, rfl, rfl, rfl⟩
  | i + 1 => ops_same m q i
theorem openH (p m : Nat) (q : Int) (i : Nat) (hi : i < 4) (hq : 0 ≤ q) : Does Try.prog 16 [.pointer (some ⟨p, 0, none⟩), .int .i64 q] [PoolS p (opsσ m q i)] (Ret (.tuple #[.int .i64 (i : Nat), .int .i64 0]) [PoolS p (opsσ m q (i + 1))]) :=
  openS p (opsσ m q i) (by rw [ops_na]; decide) i (by rw [ops_na]; omega) (by rw [ops_ar, if_neg (by omega)]) (fun j hj => by rw [ops_ar, if_pos hj]; rfl) q hq
theorem freeH (p m : Nat) (q : Int) (i : Nat) (hm : m ≤ 500) : Does Try.prog 27 [.pointer (some ⟨p, 0, none⟩), .int .i64 0] [PoolS p (opsσ m q i)]
    (RetE (fun z : Option Addr × Nat => True) (fun z => .slice z.1 m z.2) (fun z => [PoolS p (opsσ m q i), I2 z.1 z.2 ((opsσ m q i).fr 0)])) := by
  obtain ⟨e1, e2, e3, e4, e5, e6⟩ := ops_same m q i
  have hl : ((opsσ m q i).fr 0).length = m := by
    rw [e3]
    show (iotaN _ (manyK (ksH m) 0)).length = m
    rw [iotaN_len]; simp [manyK, ksH]
  have h := freeS p (opsσ m q i) 0 (by rw [e1]; decide) (by rw [e1]; decide) (by rw [hl]; omega)
  rw [hl] at h
  exact h

theorem house_d (m : Nat) (q : Int) (h1 : 1 ≤ m) (h6 : m ≤ 500) (hq : 0 ≤ q ∧ q ≤ 100000) : Does Try.prog 24 [.int .i64 (m : Nat), .int .i64 q] []
    (RetE (fun x : Nat × Option Addr × Nat => True) (fun x => .tuple #[.pointer (some ⟨x.1, 0, none⟩), .slice x.2.1 4 x.2.2, .bool true])
      (fun x => [PoolS x.1 (opsσ m q 4), recsO 62 3 hdC x.2.1 x.2.2 [0, 1, 2, 3]])) := by
  have hn : ∀ b, Does Try.prog 14 [.agg #[.slice (some ⟨b, 0, none⟩) 2 2, .int .i64 5]] [row b 32 [.int .i64 4, .int .i64 (m : Nat), .int .i64 16, .int .i64 (m : Nat)]]
    (RetE (fun p : Nat => True) (fun p => .tuple #[.pointer (some ⟨p, 0, none⟩), .int .i64 0]) (fun p => [PoolS p (opsσ m q 0), row b 32 [.int .i64 4, .int .i64 (m : Nat), .int .i64 16, .int .i64 (m : Nat)]])) := fun b => newH m b h1 h6
  have hf := fun p => freeH p m q 4 h6
  (focus
    refine Xg.spec_of Go.Proofs.Try.func24 rfl Go.Proofs.Try.ntmps24 fun g F => ?_)
  (focus
    refine Xg.at_seq ?_
    refine Xg.at_region ?_
    refine Xg.ops_op (by kernel_rfl) (Xg.opx_pure ((Value.pointer none)) rfl (fun _ => by kernel_rfl) ?_)
    refine Xg.ops_op (by kernel_rfl) (Xg.opx_pure ((Value.slice none (0 : Nat) (0 : Nat))) rfl (fun _ => by kernel_rfl) ?_)
    refine Xg.ops_op (by kernel_rfl) (Xg.opx_pure ((Value.bool false)) rfl (fun _ => by kernel_rfl) ?_)
    refine Xg.ops_nil ?_
    refine Xg.at_seq ?_
    refine Xg.at_region ?_
    refine Xg.ops_op (by kernel_rfl) (Xg.opx_pure ((iv (↑m : Int))) rfl (fun _ => by kernel_rfl) ?_)
    refine Xg.ops_op (by kernel_rfl) (Xg.opx_pure ((Value.agg #[iv 4, iv (↑m : Int)])) rfl (fun _ => by kernel_rfl) ?_)
    refine Xg.ops_op (by kernel_rfl) (Xg.opx_pure ((iv (↑m : Int))) rfl (fun _ => by kernel_rfl) ?_)
    refine Xg.ops_op (by kernel_rfl) (Xg.opx_pure ((Value.agg #[iv 16, iv (↑m : Int)])) rfl (fun _ => by kernel_rfl) ?_)
    refine Xg.ops_op (by kernel_rfl) (Xg.opx_bs (elem := 32) 2 [Value.agg #[iv 4, iv (↑m : Int)], Value.agg #[iv 16, iv (↑m : Int)]] [iv 4, iv (↑m : Int), iv 16, iv (↑m : Int)] (by kernel_rfl) (by kernel_rfl) (by decide) rfl (by kernel_rfl) (by kernel_rfl) (by kernel_rfl) (by kernel_rfl) fun xb1 => ?_)
    refine Xg.ops_op (by kernel_rfl) (Xg.opx_pure ((Value.agg #[Value.slice (some (Addr.mk xb1 (0 : Nat) none)) (2 : Nat) (2 : Nat), iv 5])) rfl (fun _ => by kernel_rfl) ?_)
    refine Xg.ops_op (by kernel_rfl) (Xg.opx_callE' [0] (fun xx1 => [PoolS xx1 (opsσ m q (0 : Nat)), row xb1 (32 : TypeId) [iv 4, iv (↑m : Int), iv 16, iv (↑m : Int)]]) (fun _ => by kernel_rfl) (@hn (xb1)) (by kernel_rfl) (by kernel_rfl) (by kernel_rfl) fun xx1 xh1 => ?_)
    try dsimp only at xh1
    refine Xg.ops_op (by kernel_rfl) (Xg.opx_pure ((Value.tuple #[pv xx1 0, iv 0])) rfl (fun _ => by kernel_rfl) ?_)
    refine Xg.ops_op (by kernel_rfl) (Xg.opx_pure ((pv xx1 0)) rfl (fun _ => by kernel_rfl) ?_)
    refine Xg.ops_op (by kernel_rfl) (Xg.opx_pure ((iv 0)) rfl (fun _ => by kernel_rfl) ?_)
    refine Xg.ops_op (by kernel_rfl) (Xg.opx_pure ((pv xx1 0)) rfl (fun _ => by kernel_rfl) ?_)
    refine Xg.ops_op (by kernel_rfl) (Xg.opx_pure ((iv 0)) rfl (fun _ => by kernel_rfl) ?_)
    refine Xg.ops_nil ?_
    refine Xg.at_seq ?_
    refine Xg.at_seq ?_
    refine Xg.at_region ?_
    refine Xg.ops_op (by kernel_rfl) (Xg.opx_pure ((pv xx1 0)) rfl (fun _ => by kernel_rfl) ?_)
    refine Xg.ops_op (by kernel_rfl) (Xg.opx_pure ((Value.bool false)) rfl (fun _ => by kernel_rfl) ?_)
    refine Xg.ops_op (by kernel_rfl) (Xg.opx_pure ((Value.bool false)) rfl (fun _ => by kernel_rfl) ?_)
    refine Xg.ops_op (by kernel_rfl) (Xg.opx_pure ((iv 0)) rfl (fun _ => by kernel_rfl) ?_)
    refine Xg.ops_op (by kernel_rfl) (Xg.opx_pure ((Value.bool false)) rfl (fun _ => by kernel_rfl) ?_)
    refine Xg.ops_op (by kernel_rfl) (Xg.opx_pure ((Value.bool false)) rfl (fun _ => by kernel_rfl) ?_)
    refine Xg.ops_nil ?_
    refine Xg.at_false (t := false) (by kernel_rfl) rfl ?_
    refine Xg.at_skip ?_
    refine Xg.at_seq ?_)
  refine at_nil_recs 62 3 hdC ?_
  (focus
    refine Xg.at_region ?_
    refine Xg.ops_op (by kernel_rfl) (Xg.opx_pure ((Value.slice none (0 : Nat) (0 : Nat))) rfl (fun _ => by kernel_rfl) ?_)
    refine Xg.ops_nil ?_
    refine Xg.at_seq ?_
    refine Xg.at_seq ?_
    refine Xg.at_region ?_
    refine Xg.ops_op (by kernel_rfl) (Xg.opx_pure ((iv 0)) rfl (fun _ => by kernel_rfl) ?_)
    refine Xg.ops_nil ?_
    refine Xg.at_block ?_)
  (focus
    refine Xg.at_keep [1, 0] (by kernel_rfl) ?_
    refine Xg.at_rounds_inv (α := (Nat × Option Addr × Nat × List Int) × (Nat → Value)) (fun x => ((fun x => x.1 ≤ 4 ∧ x.2.2.2 = iotaN 0 x.1) : (Nat × Option Addr × Nat × List Int) → Prop) x.1) (fun x => ((fun x => 4 - x.1) : (Nat × Option Addr × Nat × List Int) → Nat) x.1) (fun x => Xg.headT [iv (↑m : Int), iv q, tu, tu, Value.pointer none, Value.slice none (0 : Nat) (0 : Nat), Value.bool false, pv xx1 0, iv 0, Value.slice none (0 : Nat) (0 : Nat), iv 0, tu, tu, tu, Value.tuple #[pv xx1 0, iv 0], iv (↑m : Int), Value.agg #[iv 4, iv (↑m : Int)], iv (↑m : Int), Value.agg #[iv 16, iv (↑m : Int)], Value.slice (some (Addr.mk xb1 (0 : Nat) none)) (2 : Nat) (2 : Nat), Value.agg #[Value.slice (some (Addr.mk xb1 (0 : Nat) none)) (2 : Nat) (2 : Nat), iv 5], Value.tuple #[pv xx1 0, iv 0], pv xx1 0, iv 0, pv xx1 0, Value.bool false, Value.bool false, iv 0, Value.bool false, Value.bool false, tu, tu, tu, tu, tu, tu, tu, tu, tu, tu, tu, tu, tu, tu, tu, tu, tu, tu, tu, tu, tu, tu, tu, tu, tu, tu, tu, tu, tu, tu] [4, 5, 6, 11, 12, 30, 31, 32, 33, 34, 35, 36, 37, 38, 39, 40, 41, 42, 43, 44, 45, 46, 47, 48, 49, 50, 51] (((fun x => [(9, .slice x.2.1 x.2.2.2.length x.2.2.1), (10, .int .i64 (x.1 : Nat))]) : (Nat × Option Addr × Nat × List Int) → List (Nat × Go.Value)) x.1) x.2) (fun x => ((fun x => [PoolS xx1 (opsσ m q x.1), recsO 62 3 hdC x.2.1 x.2.2.1 x.2.2.2]) : (Nat × Option Addr × Nat × List Int) → List Go.Sl.HP) x.1) (((0, none, 0, [])), fun j9 => ([iv (↑m : Int), iv q, tu, tu, Value.pointer none, Value.slice none (0 : Nat) (0 : Nat), Value.bool false, pv xx1 0, iv 0, Value.slice none (0 : Nat) (0 : Nat), iv 0, tu, tu, tu, Value.tuple #[pv xx1 0, iv 0], iv (↑m : Int), Value.agg #[iv 4, iv (↑m : Int)], iv (↑m : Int), Value.agg #[iv 16, iv (↑m : Int)], Value.slice (some (Addr.mk xb1 (0 : Nat) none)) (2 : Nat) (2 : Nat), Value.agg #[Value.slice (some (Addr.mk xb1 (0 : Nat) none)) (2 : Nat) (2 : Nat), iv 5], Value.tuple #[pv xx1 0, iv 0], pv xx1 0, iv 0, pv xx1 0, Value.bool false, Value.bool false, iv 0, Value.bool false, Value.bool false, tu, tu, tu, tu, tu, tu, tu, tu, tu, tu, tu, tu, tu, tu, tu, tu, tu, tu, tu, tu, tu, tu, tu, tu, tu, tu, tu, tu, tu, tu] : List Value).getD j9 undef) (by kernel_rfl) (by kernel_rfl) ?_ ?_)
  · exact ⟨Nat.zero_le _, rfl⟩
  rintro ⟨⟨i, la, lc, H⟩, J⟩ hi ih
  obtain ⟨hi, hH⟩ := hi
  dsimp only at hi hH
  (focus
    refine Xg.At.same (T' := [iv (↑m : Int), iv q, tu, tu, J 4, J 5, J 6, pv xx1 0, iv 0, Value.slice la H.length lc, iv (↑i : Int), J 11, J 12, tu, Value.tuple #[pv xx1 0, iv 0], iv (↑m : Int), Value.agg #[iv 4, iv (↑m : Int)], iv (↑m : Int), Value.agg #[iv 16, iv (↑m : Int)], Value.slice (some (Addr.mk xb1 (0 : Nat) none)) (2 : Nat) (2 : Nat), Value.agg #[Value.slice (some (Addr.mk xb1 (0 : Nat) none)) (2 : Nat) (2 : Nat), iv 5], Value.tuple #[pv xx1 0, iv 0], pv xx1 0, iv 0, pv xx1 0, Value.bool false, Value.bool false, iv 0, Value.bool false, Value.bool false, J 30, J 31, J 32, J 33, J 34, J 35, J 36, J 37, J 38, J 39, J 40, J 41, J 42, J 43, J 44, J 45, J 46, J 47, J 48, J 49, J 50, J 51, tu, tu, tu, tu, tu, tu, tu, tu]) (L' := [PoolS xx1 (opsσ m q ((i, la, lc, H), J).fst.fst), recsO (62 : Nat) (3 : Nat) hdC ((i, la, lc, H), J).fst.snd.fst ((i, la, lc, H), J).fst.snd.snd.fst ((i, la, lc, H), J).fst.snd.snd.snd]) (by kernel_rfl) rfl ?_)
  by_cases hlt : i < 4
  · have ho := openH xx1 m q i hlt hq.1
    have hl : H.length = i := by rw [hH, iotaN_len]
    (focus
      refine Xg.at_seq ?_
      refine Xg.at_seq ?_
      refine Xg.at_region ?_
      refine Xg.ops_op (by kernel_rfl) (Xg.opx_pure ((iv (↑i : Int))) rfl (fun _ => by kernel_rfl) ?_)
      refine Xg.ops_op (by kernel_rfl) (Xg.opx_pure (.bool (decide ((((↑i : Int)) : Int) < ((4 : Int))))) rfl (fun _ => by kernel_rfl) ?_)
      refine Xg.ops_nil ?_
      refine Xg.at_true (t := decide (((↑i : Int) < (4 : Int)))) (by kernel_rfl) (decide_eq_true (by omega)) ?_
      refine Xg.at_skip ?_
      refine Xg.at_seq ?_
      refine Xg.at_block ?_
      refine Xg.at_seq ?_
      refine Xg.at_region ?_
      refine Xg.ops_op (by kernel_rfl) (Xg.opx_pure ((pv xx1 0)) rfl (fun _ => by kernel_rfl) ?_)
      refine Xg.ops_op (by kernel_rfl) (Xg.opx_pure ((iv q)) rfl (fun _ => by kernel_rfl) ?_)
      refine Xg.ops_op (by kernel_rfl) (Xg.opx_call1' [0] [PoolS xx1 (opsσ m q (i + (1 : Nat))), recsO (62 : Nat) (3 : Nat) hdC la lc H] (fun _ => by kernel_rfl) (@ho ) (by kernel_rfl) (by kernel_rfl) (by kernel_rfl) ?_)
      refine Xg.ops_op (by kernel_rfl) (Xg.opx_pure ((Value.tuple #[iv (↑i : Int), iv 0])) rfl (fun _ => by kernel_rfl) ?_)
      refine Xg.ops_op (by kernel_rfl) (Xg.opx_pure ((iv (↑i : Int))) rfl (fun _ => by kernel_rfl) ?_)
      refine Xg.ops_op (by kernel_rfl) (Xg.opx_pure ((iv 0)) rfl (fun _ => by kernel_rfl) ?_)
      refine Xg.ops_op (by kernel_rfl) (Xg.opx_pure ((iv (↑i : Int))) rfl (fun _ => by kernel_rfl) ?_)
      refine Xg.ops_op (by kernel_rfl) (Xg.opx_pure ((iv 0)) rfl (fun _ => by kernel_rfl) ?_)
      refine Xg.ops_nil ?_
      refine Xg.at_seq ?_
      refine Xg.at_seq ?_
      refine Xg.at_region ?_
      refine Xg.ops_op (by kernel_rfl) (Xg.opx_pure ((iv 0)) rfl (fun _ => by kernel_rfl) ?_)
      refine Xg.ops_op (by kernel_rfl) (Xg.opx_pure ((Value.bool false)) rfl (fun _ => by kernel_rfl) ?_)
      refine Xg.ops_op (by kernel_rfl) (Xg.opx_pure ((Value.bool false)) rfl (fun _ => by kernel_rfl) ?_)
      refine Xg.ops_op (by kernel_rfl) (Xg.opx_pure ((iv (↑i : Int))) rfl (fun _ => by kernel_rfl) ?_)
      refine Xg.ops_op (by kernel_rfl) (Xg.opx_pure ((iv (↑i : Int))) rfl (fun _ => by kernel_rfl) ?_)
      refine Xg.ops_op (by kernel_rfl) (Xg.opx_pure (.bool (!decide ((((↑i : Int)) : Int) = ((↑i : Int))))) rfl (fun _ => by kernel_rfl) ?_)
      refine Xg.ops_flag (j := 45) (c := (!decide ((↑i : Int) = (↑i : Int)))) (by kernel_rfl) (fun xh2 => absurd xh2 (by rw [decide_eq_true (p := ((↑i : Int) = (↑i : Int))) (by omega)]; decide)) (fun _ => ?_)
      refine Xg.ops_op (by kernel_rfl) (Xg.opx_pure ((Value.bool false)) rfl (fun _ => by kernel_rfl) ?_)
      refine Xg.ops_nil ?_
      refine Xg.at_false (t := false) (by kernel_rfl) rfl ?_
      refine Xg.at_skip ?_
      refine Xg.at_region ?_
      refine Xg.ops_op (by kernel_rfl) (Xg.opx_pure ((Value.slice la H.length lc)) rfl (fun _ => by kernel_rfl) ?_)
      refine Xg.ops_op (by kernel_rfl) (Xg.opx_pure ((iv (↑i : Int))) rfl (fun _ => by kernel_rfl) ?_)
      refine Xg.ops_op (by kernel_rfl) (Xg.opx_pure ((Value.agg #[iv (↑i : Int), Value.slice none (0 : Nat) (0 : Nat), Value.slice none (0 : Nat) (0 : Nat)])) rfl (fun _ => by kernel_rfl) ?_)
      refine Xg.ops_op (by kernel_rfl) (Xg.opx_bs (elem := 62) 3 [Value.agg #[iv (↑i : Int), Value.slice none (0 : Nat) (0 : Nat), Value.slice none (0 : Nat) (0 : Nat)]] [iv (↑i : Int), Value.slice none (0 : Nat) (0 : Nat), Value.slice none (0 : Nat) (0 : Nat)] (by kernel_rfl) (by kernel_rfl) (by decide) rfl (by kernel_rfl) (by kernel_rfl) (by kernel_rfl) (by kernel_rfl) fun xb2 => ?_)
      refine Xg.ops_op (by kernel_rfl) (Xg.opx_append_recs (elem := 62) (yv := (Value.slice (some (Addr.mk xb2 (0 : Nat) none)) (1 : Nat) (1 : Nat))) (l := H) 2 3 96 ((↑i : Int)) rfl (by kernel_rfl) (by kernel_rfl) (by kernel_rfl) (by kernel_rfl) (fun _ hS => Xg.row_rd hS 0 rfl (by kernel_rfl)) (by kernel_rfl) (by first | omega | (simp only [List.length_nil]; omega) | (simp; done) | (simp; omega)) (by first | omega | (simp only [List.length_nil]; omega) | (simp; done) | (simp; omega)) fun xa1 xc1 => ?_)
      have xl1 : ((H : (List Int)) ++ ([((↑i : Int))] : (List Int))).length = (H : (List Int)).length + 1 := by simp
      refine Xg.ops_op (by kernel_rfl) (Xg.opx_pure ((Value.slice xa1 (H ++ [(↑i : Int)]).length xc1)) rfl (fun _ => by kernel_rfl) ?_)
      refine Xg.ops_nil ?_
      refine Xg.at_inBlock ?_
      refine Xg.at_region ?_
      refine Xg.ops_op (by kernel_rfl) (Xg.opx_pure ((iv (↑i : Int))) rfl (fun _ => by kernel_rfl) ?_)
      refine Xg.ops_op (by kernel_rfl) (Xg.opx_int .i64 (IntKind.wrap .i64 (((↑i : Int) + (1 : Int)))) rfl (fun _ => by kernel_rfl) (Xg.wrap_i64_in (by omega)) ?_)
      refine Xg.ops_op (by kernel_rfl) (Xg.opx_pure ((iv ((↑i : Int) + (1 : Int)))) rfl (fun _ => by kernel_rfl) ?_)
      refine Xg.ops_nil ?_
      refine Xg.at_inLoop ?_)
    (focus
      refine Xg.at_keep [1, 2] (by kernel_rfl) ?_
      refine Xs.same ?_ (fun J9 => ih (((i + 1, xa1, xc1, H ++ [((i : Nat) : Int)])), J9) ?_ ?_) (by kernel_rfl))
    · rfl
    · exact ⟨hlt, by rw [hH, iotaN_one, Nat.zero_add]⟩
    · dsimp only; omega
  · obtain rfl : i = 4 := by omega
    clear ih
    subst hH
    (focus
      refine Xg.at_seq ?_
      refine Xg.at_seq ?_
      refine Xg.at_region ?_
      refine Xg.ops_op (by kernel_rfl) (Xg.opx_pure ((iv 4)) rfl (fun _ => by kernel_rfl) ?_)
      refine Xg.ops_op (by kernel_rfl) (Xg.opx_pure ((Value.bool false)) rfl (fun _ => by kernel_rfl) ?_)
      refine Xg.ops_nil ?_
      refine Xg.at_false (t := false) (by kernel_rfl) rfl ?_
      refine Xg.at_exit rfl ?_
      refine Xg.at_seq ?_
      refine Xg.at_region ?_
      refine Xg.ops_op (by kernel_rfl) (Xg.opx_pure ((pv xx1 0)) rfl (fun _ => by kernel_rfl) ?_)
      refine Xg.ops_op (by kernel_rfl) (Xg.opx_callE' [0] (fun xx2 => [PoolS xx1 (opsσ m q (4 : Nat)), I2 xx2.fst xx2.snd ((opsσ m q (4 : Nat)).fr (0 : Nat)), recsO (62 : Nat) (3 : Nat) hdC la lc (iotaN (0 : Nat) (4 : Nat))]) (fun _ => by kernel_rfl) (@hf (xx1)) (by kernel_rfl) (by kernel_rfl) (by kernel_rfl) fun xx2 xh2 => ?_)
      try dsimp only at xh2
      refine Xg.ops_op (by kernel_rfl) (Xg.opx_pure ((Value.slice xx2.fst m xx2.snd)) rfl (fun _ => by kernel_rfl) ?_)
      refine Xg.ops_nil ?_
      refine Xg.at_seq ?_
      refine Xg.at_region ?_
      refine Xg.ops_op (by kernel_rfl) (Xg.opx_pure ((pv xx1 0)) rfl (fun _ => by kernel_rfl) ?_)
      refine Xg.ops_op (by kernel_rfl) (Xg.opx_pure ((Value.slice la (4 : Nat) lc)) rfl (fun _ => by kernel_rfl) ?_)
      refine Xg.ops_op (by kernel_rfl) (Xg.opx_pure ((Value.slice xx2.fst m xx2.snd)) rfl (fun _ => by kernel_rfl) ?_)
      refine Xg.ops_op (by kernel_rfl) (Xg.opx_pure ((iv (↑m : Int))) rfl (fun _ => by kernel_rfl) ?_)
      refine Xg.ops_op (by kernel_rfl) (Xg.opx_pure ((iv (↑m : Int))) rfl (fun _ => by kernel_rfl) ?_)
      refine Xg.ops_op (by kernel_rfl) (Xg.opx_pure (.bool (decide ((((↑m : Int)) : Int) = ((↑m : Int))))) rfl (fun _ => by kernel_rfl) ?_)
      refine Xg.ops_op (by kernel_rfl) (Xg.opx_pure ((pv xx1 0)) rfl (fun _ => by kernel_rfl) ?_)
      refine Xg.ops_op (by kernel_rfl) (Xg.opx_pure ((Value.slice la (4 : Nat) lc)) rfl (fun _ => by kernel_rfl) ?_)
      refine Xg.ops_op (by kernel_rfl) (Xg.opx_pure ((Value.bool (decide ((↑m : Int) = (↑m : Int))))) rfl (fun _ => by kernel_rfl) ?_)
      refine Xg.ops_nil ?_)
    exact Xg.at_ret_ps (v := .tuple #[.pointer (some ⟨xx1, 0, none⟩), .slice la 4 lc, .bool (decide (((m : Nat) : Int) = ((m : Nat) : Int)))]) [0, 2] _ Try.func24 (fun _ => by kernel_rfl) (by kernel_rfl) rfl ⟨(xx1, la, lc), trivial, by rw [decide_eq_true rfl], rfl⟩
end Go.Proofs.Ytmplimmcjdkhlaa

/- The arena laws: pick. -/
namespace Go.Proofs.Ytmplimmcjdkhlaa
open Go.Sl Go.Xg
set_option linter.unusedVariables false
set_option linter.unusedSimpArgs false
set_option linter.unnecessarySimpa false
set_option maxHeartbeats 4000000
set_option maxRecDepth 100000

def pickN (c : Int) (n : Nat) : Nat := ((if c < 0 then -(c + 1) else c) % (n : Int)).toNat
theorem pickN_lt (c : Int) (n : Nat) (h : 0 < n) : pickN c n < n := by
  unfold pickN
  have h1 := Int.emod_lt_of_pos (if c < 0 then -(c + 1) else c) (b := (n : Int)) (by omega)
  have h2 := Int.emod_nonneg (if c < 0 then -(c + 1) else c) (b := (n : Int)) (by omega)
  omega
theorem pickN_eq (c : Int) (n : Nat) (h : 0 < n) : ((pickN c n : Nat) : Int) = (if c < 0 then -(c + 1) else c) % (n : Int) := by
  unfold pickN
  have h2 := Int.emod_nonneg (if c < 0 then -(c + 1) else c) (b := (n : Int)) (by omega)
  omega
theorem pick_d (c : Int) (n : Nat) (hc : i64ok c) (hn : 0 < n) : Does Try.prog 13 [.int .i64 c, .int .i64 (n : Nat)] []
    (RetE (fun x : Nat => x = pickN c n ∧ x < n) (fun x => .int .i64 (x : Nat)) (fun _ => [])) := by
  refine Does.mono (post := Ret (.int .i64 ((if c < 0 then -(c + 1) else c) % (n : Int))) []) ?_ fun v ps ⟨e1, e2⟩ => ⟨pickN c n, ⟨rfl, pickN_lt c n hn⟩, by rw [e1, ← pickN_eq c n hn], e2⟩
  obtain ⟨h1, h2⟩ := hc
  (focus
    refine Xg.spec_of Go.Proofs.Try.func13 rfl Go.Proofs.Try.ntmps13 fun g F => ?_)
  (focus
    refine Xg.at_seq ?_
    refine Xg.at_region ?_
    refine Xg.ops_op (by kernel_rfl) (Xg.opx_pure ((iv 0)) rfl (fun _ => by kernel_rfl) ?_)
    refine Xg.ops_nil ?_
    refine Xg.at_seq ?_
    refine Xg.at_seq ?_
    refine Xg.at_region ?_
    refine Xg.ops_op (by kernel_rfl) (Xg.opx_pure ((iv c)) rfl (fun _ => by kernel_rfl) ?_)
    refine Xg.ops_op (by kernel_rfl) (Xg.opx_pure (.bool (decide ((c : Int) < ((0 : Int))))) rfl (fun _ => by kernel_rfl) ?_)
    refine Xg.ops_nil ?_
    refine Xg.at_dec (p := (c < (0 : Int))) (by kernel_rfl) (fun xh1 => ?_) (fun xh1 => ?_)
    refine Xg.at_region ?_
    refine Xg.ops_op (by kernel_rfl) (Xg.opx_pure ((iv c)) rfl (fun _ => by kernel_rfl) ?_)
    refine Xg.ops_op (by kernel_rfl) (Xg.opx_int .i64 (IntKind.wrap .i64 ((c + (1 : Int)))) rfl (fun _ => by kernel_rfl) (Xg.wrap_i64_in (by omega)) ?_)
    refine Xg.ops_op (by kernel_rfl) (Xg.opx_int .i64 (IntKind.wrap .i64 (((0 : Int) - (c + (1 : Int))))) rfl (fun _ => by kernel_rfl) (Xg.wrap_i64_in (by omega)) ?_)
    refine Xg.ops_op (by kernel_rfl) (Xg.opx_pure ((iv ((0 : Int) - (c + (1 : Int))))) rfl (fun _ => by kernel_rfl) ?_)
    refine Xg.ops_nil ?_
    refine Xg.at_seq ?_
    refine Xg.at_region ?_
    refine Xg.ops_op (by kernel_rfl) (Xg.opx_pure ((iv ((0 : Int) - (c + (1 : Int))))) rfl (fun _ => by kernel_rfl) ?_)
    refine Xg.ops_op (by kernel_rfl) (Xg.opx_pure ((iv (↑n : Int))) rfl (fun _ => by kernel_rfl) ?_)
    refine Xg.ops_op (by kernel_rfl) (Xg.opx_run (.int .i64 (((0 : Int) - (c + (1 : Int))) % ((↑n : Int)))) rfl (fun _ => Xg.run_rem (k1 := .i64) (m := ((0 : Int) - (c + (1 : Int)))) (e := ((↑n : Int))) (by kernel_rfl) (by kernel_rfl) (by omega) (by omega)) ?_)
    refine Xg.ops_op (by kernel_rfl) (Xg.opx_pure ((iv (((0 : Int) - (c + (1 : Int))) % (↑n : Int)))) rfl (fun _ => by kernel_rfl) ?_)
    refine Xg.ops_nil ?_
    refine Xg.at_ret_ps (v := (iv (((0 : Int) - (c + (1 : Int))) % (↑n : Int)))) [] [] Go.Proofs.Try.func13 (fun _ => by kernel_rfl) (by kernel_rfl) (by kernel_rfl) ?_
    rotate_left
    refine Xg.at_skip ?_
    refine Xg.at_seq ?_
    refine Xg.at_region ?_
    refine Xg.ops_op (by kernel_rfl) (Xg.opx_pure ((iv c)) rfl (fun _ => by kernel_rfl) ?_)
    refine Xg.ops_op (by kernel_rfl) (Xg.opx_pure ((iv (↑n : Int))) rfl (fun _ => by kernel_rfl) ?_)
    refine Xg.ops_op (by kernel_rfl) (Xg.opx_run (.int .i64 (c % ((↑n : Int)))) rfl (fun _ => Xg.run_rem (k1 := .i64) (m := c) (e := ((↑n : Int))) (by kernel_rfl) (by kernel_rfl) (by omega) (by omega)) ?_)
    refine Xg.ops_op (by kernel_rfl) (Xg.opx_pure ((iv (c % (↑n : Int)))) rfl (fun _ => by kernel_rfl) ?_)
    refine Xg.ops_nil ?_
    refine Xg.at_ret_ps (v := (iv (c % (↑n : Int)))) [] [] Go.Proofs.Try.func13 (fun _ => by kernel_rfl) (by kernel_rfl) (by kernel_rfl) ?_)
  all_goals exact ⟨by first | (rw [if_pos (by omega), Int.zero_sub]; done) | (rw [if_neg (by omega)]; done), rfl⟩
end Go.Proofs.Ytmplimmcjdkhlaa
