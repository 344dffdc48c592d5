import Derived.Test.YtmplimmcjdkhlaaMPicked13
import Derived.Laws.StructEq
/- Structs of integers, compared with themselves. Over any program. -/
namespace Go.Xg
open Go Go.Sl
set_option linter.unusedVariables false
set_option linter.unusedSimpArgs false

def intTyE (P : Program) (t : TypeId) : Bool := match P.underlying t with
  | some (.int _) => true
  | _ => false
def aggInts (P : Program) (t : TypeId) (xs : Array Value) : Bool := (P.fieldsOf t).toList.all fun f => intTyE P f.type && (match xs[f.offset]? with
  | some (.int _ _) => true
  | _ => false)
theorem run_str_nsame {P : Program} {T : List Value} {d : Option Tmp} {t t2 ty : TypeId} {x y : Operand} {pos : String} {after : Array Edge} {gd : Option (Nat × Bool)} {xs ys : List Int}
    (ht : strTy P t = true) (hx : ev T x = .string (St xs)) (hy : ev T y = .string (St ys)) (h : xs = ys) (w : World) :
    (execOp (act T).eval { dst := d, op := .binOp .neq t x y t2, type := ty, pos, after, guard := gd }).run P w = .ok (.value (.bool false)) w := by
  have := run_str_ne (P := P) (d := d) (t2 := t2) (ty := ty) (pos := pos) (after := after) (gd := gd) ht hx hy w
  rwa [sEq_of h] at this
theorem recs_put {α : Type} {cells : α → List Value} {wd : Nat} (hw : ∀ x, (cells x).length = wd) : ∀ (l : List α) (i : Nat) (y : α), i < l.length → (recs cells l).take (i * wd) ++ cells y ++ (recs cells l).drop (i * wd + wd) = recs cells (l.set i y)
  | [], i, y, h => by simp at h
  | z :: l, 0, y, h => by
    simp only [recs, List.flatMap_cons, Nat.zero_mul, List.take_zero, List.nil_append, Nat.zero_add, List.set_cons_zero]
    rw [List.drop_left' (hw z)]
  | z :: l, i + 1, y, h => by
    have ih := recs_put hw l i y (by simpa using h)
    simp only [recs, List.flatMap_cons, List.set_cons_succ] at ih ⊢
    rw [← ih]
    have hz := hw z
    rw [show (i + 1) * wd = wd + i * wd from by rw [Nat.succ_mul, Nat.add_comm], List.take_append, List.take_of_length_le (by omega), hz, Nat.add_sub_cancel_left, List.drop_append, List.drop_of_length_le (by omega), hz, show wd + i * wd + wd - wd = i * wd + wd from by omega, List.nil_append, List.append_assoc, List.append_assoc, List.append_assoc]
/-- A struct is stored into a slice of structs. -/
theorem opx_storen_recs {P : Program} {g : World} {F : List HP} {T : List Value} {L : List HP} {K : List Value → List HP → Prop} {t ty : TypeId} {x y : Operand} {pos : String} {after : Array Edge} {gd : Option (Nat × Bool)} {off E c : Nat} {a : Option Addr} {α : Type} {cells : α → List Value} {l : List α} (sz i ix : Nat) (v : α)
    (hw : ∀ x, (cells x).length = sz) (hE : okTy P t sz = true) (hL : nth L i = some (recsO E sz cells a c l)) (hx : ev T x = .pointer (some ⟨blk a, off, none⟩)) (hy : ev T y = .agg (cells v).toArray) (hv : (cells v).all (·.oneCell') = true) (hi : ix < l.length) (ho : off = ix * sz ∨ off = offA a + ix * sz)
    (h : K T (L.set i (recsO E sz cells a c (l.set ix v)))) : OpX P g F { dst := none, op := .store t x y, type := ty, pos, after, guard := gd } T L K := by
  obtain ⟨z, by_, hE⟩ := okTy_el hE
  constructor
  intro w hS
  have h0 := sl_at i hL hS
  obtain ⟨hl, ⟨h1, h2, _⟩ | ⟨b, cap, sp, h1, h2, h3, h4, h5⟩⟩ := h0.own_cases
  · exfalso; omega
  · cases h1
    have ho' : off = ix * sz := by
      rcases ho with e | e
      · exact e
      · rw [e]; show 0 + _ = _; omega
    have hlr : (recs cells l).length = l.length * sz := by rw [recs_len hw]
    have hb : (ix + 1) * sz ≤ l.length * sz := Nat.mul_le_mul_right _ hi
    rw [Nat.succ_mul] at hb
    obtain ⟨w', hr, h'⟩ := h5.storeAgg t z sz by_ hE (cells v) (hw v) (fun u hu => List.all_eq_true.1 hv u hu) (o := off) (by rw [List.length_append]; omega)
    have e : (recs cells l ++ sp).take off ++ cells v ++ (recs cells l ++ sp).drop (off + sz) = recs cells (l.set ix v) ++ sp := by
      rw [← recs_put hw l ix v hi, ho', List.take_append_of_le_length (by omega), List.drop_append_of_le_length (by omega)]
      simp only [List.append_assoc]
    rw [e] at h'
    have h6 := SL.own_some (n := l.length) (cap := c) (sz := sz) h' (by rw [recs_len hw, List.length_set]) h2 h3 h4
    refine op_skip (exec_store _ (by rw [act_eval]; exact hx) (by rw [act_eval]; exact hy) hr) ⟨T, _, rfl, sl_back i hL h6, ?_⟩
    have := h
    rwa [show recsO E sz cells (some ⟨b, 0, none⟩) c (l.set ix v) = ownS E sz (.slice (some ⟨b, 0, none⟩) l.length c) l.length (recs cells (l.set ix v)) from by show ownS E sz (.slice _ (l.set ix v).length c) (l.set ix v).length _ = _; rw [List.length_set]] at this
end Go.Xg

/- The arena laws: what an arena must have, in memory. -/
namespace Go.Proofs.Ytmplimmcjdkhlaa
open Go.Sl Go.Xg
set_option linter.unusedVariables false
set_option linter.unusedSimpArgs false
set_option linter.unnecessarySimpa false
set_option maxHeartbeats 4000000
set_option maxRecDepth 100000

/-- One part for each of a list. -/
def starL {α : Type} (f : α → HP) (l : List α) : HP := seps (l.map f)
section
variable {α : Type} {f : α → HP} {g w : World} {F : List HP} {l : List α}
theorem starL_perm {m : List α} (hp : l.Perm m) (h : SL g (starL f l :: F) w) : SL g (starL f m :: F) w :=
  SL.flat.2 ((SL.flat.1 h).perm ((hp.map f).append_right F))
theorem starL_cons {x : α} : SL g (starL f (x :: l) :: F) w ↔ SL g (f x :: starL f l :: F) w := SL.flat1
theorem starL_nil : SL g (starL f [] :: F) w ↔ SL g F w := SL.flat (K := [])
theorem starL_one {x : α} (h : SL g (f x :: starL f l :: F) w) : SL g (starL f (l ++ [x]) :: F) w :=
  starL_perm (l := x :: l) (List.perm_append_singleton x l).symm (starL_cons.2 h)
theorem eraseD_perm (d : α) (l : List α) (i : Nat) (h : i < l.length) : l.Perm (l.getD i d :: l.eraseIdx i) := by
  have e : l = l.take i ++ l.getD i d :: l.drop (i + 1) := by
    conv => lhs; rw [← List.take_append_drop i l]
    rw [List.drop_eq_getElem_cons h, List.getD_eq_getElem?_getD, List.getElem?_eq_getElem h]; rfl
  rw [List.eraseIdx_eq_take_drop_succ]
  conv => lhs; rw [e]
  exact List.perm_middle
theorem set_perm (l : List α) (i : Nat) (x : α) (h : i < l.length) : (l.set i x).Perm (x :: l.eraseIdx i) := by
  rw [List.set_eq_take_append_cons_drop, if_pos h, List.eraseIdx_eq_take_drop_succ]
  exact List.perm_middle
theorem starL_take (d : α) {i : Nat} (hi : i < l.length) (h : SL g (starL f l :: F) w) : SL g (f (l.getD i d) :: starL f (l.eraseIdx i) :: F) w :=
  starL_cons.1 (starL_perm (eraseD_perm d l i hi) h)
theorem starL_put {i : Nat} {x : α} (hi : i < l.length) (h : SL g (f x :: starL f (l.eraseIdx i) :: F) w) : SL g (starL f (l.set i x) :: F) w :=
  starL_perm (set_perm l i x hi).symm (starL_cons.2 h)
end
theorem er_one {α : Type} (d : α) (l : List α) (k i : Nat) (hi : i < l.length) : (l.take (i + 1)).eraseIdx k = if i = k then (l.take i).eraseIdx k else (l.take i).eraseIdx k ++ [l.getD i d] := by
  have hl : (l.take i).length = i := by rw [List.length_take]; omega
  rw [take_one' d l i hi]
  by_cases h : k < i
  · rw [if_neg (by omega), List.eraseIdx_append_of_lt_length (by omega)]
  · rw [List.eraseIdx_append_of_length_le (by omega), List.eraseIdx_of_length_le (l := l.take i) (by omega), hl]
    by_cases e : i = k
    · rw [if_pos e, e, Nat.sub_self]; simp
    · rw [if_neg e, List.eraseIdx_of_length_le (by simp; omega)]

/-- What an arena must have. -/
structure HdV where
  id : Nat
  la : Option Addr
  lc : Nat
  ba : Option Addr
  bc : Nat
  les : List (Int × Int × Int)
  Z : List (Option Addr × List Int)
deriving Inhabited
abbrev bhK (z : Option Addr × List Int) : List Value := [.slice z.1 z.2.length z.2.length]
abbrev hdK (x : HdV) : List Value := [.int .i64 (x.id : Nat), .slice x.la x.les.length x.lc, .slice x.ba x.Z.length x.bc]
abbrev hdV (x : HdV) : Value := .agg #[.int .i64 (x.id : Nat), .slice x.la x.les.length x.lc, .slice x.ba x.Z.length x.bc]
abbrev byZ (z : Option Addr × List Int) : HP := Y2 z.1 z.2.length z.2
abbrev LeP (x : HdV) : HP := recsO 42 3 leK x.la x.lc x.les
abbrev BhP (x : HdV) : HP := recsO 40 1 bhK x.ba x.bc x.Z
abbrev ZP (x : HdV) : HP := starL byZ x.Z
def HdS (x : HdV) : HP := seps [LeP x, BhP x, ZP x]

def sizeL (l : List (Int × Int × Int)) : Int := (l.map fun x => x.2.2).sum
theorem sizeL_one (l : List (Int × Int × Int)) (x : Int × Int × Int) : sizeL (l ++ [x]) = sizeL l + x.2.2 := by
  unfold sizeL; simp
/-- Leases that may be. -/
def Lok5 (l : List (Int × Int × Int)) : Prop := l.length ≤ 5000 ∧ ∀ i, i < l.length → 0 ≤ (l.getD i default).2.2 ∧ (l.getD i default).2.2 ≤ 65536
theorem sizeL_bd {l : List (Int × Int × Int)} (h : Lok5 l) : ∀ i, i ≤ l.length → 0 ≤ sizeL (l.take i) ∧ sizeL (l.take i) ≤ 65536 * i
  | 0, _ => by simp [sizeL]
  | i + 1, hi => by
    have h1 := sizeL_bd h i (by omega)
    have h2 := h.2 i (by omega)
    rw [take_one' default l i (by omega), sizeL_one]
    omega
theorem size_d (id : Int) (a : Option Addr) (c : Nat) (bv : Value) (l : List (Int × Int × Int)) (h : Lok5 l) : Does Try.prog 26 [.agg #[.int .i64 id, .slice a l.length c, bv]] [recsO 42 3 leK a c l] (Ret (.int .i64 (sizeL l)) [recsO 42 3 leK a c l]) := by
  have hl5 := h.1
  (focus
    refine Xg.spec_of Go.Proofs.Try.func26 rfl Go.Proofs.Try.ntmps26 fun g F => ?_)
  (focus
    refine Xg.at_seq ?_
    refine Xg.at_region ?_
    refine Xg.ops_op (by kernel_rfl) (Xg.opx_box (v := (Value.agg #[iv id, Value.slice a l.length c, bv])) [iv id, Value.slice a l.length c, bv] (by kernel_rfl) (by kernel_rfl) fun xb1 => ?_)
    refine Xg.ops_op (by kernel_rfl) (Xg.opx_pure ((iv 0)) rfl (fun _ => by kernel_rfl) ?_)
    refine Xg.ops_nil ?_
    refine Xg.at_seq ?_
    refine Xg.at_region ?_
    refine Xg.ops_op (by kernel_rfl) (Xg.opx_pure ((iv 0)) rfl (fun _ => by kernel_rfl) ?_)
    refine Xg.ops_nil ?_
    refine Xg.at_seq ?_
    refine Xg.at_seq ?_
    refine Xg.at_region ?_
    refine Xg.ops_op (by kernel_rfl) (Xg.opx_pure ((iv 0)) rfl (fun _ => by kernel_rfl) ?_)
    refine Xg.ops_nil ?_
    refine Xg.at_block ?_)
  (focus
    refine Xg.at_rounds_inv (α := (Nat × Int) × (Nat → Value)) (fun x => ((fun x => x.1 ≤ l.length ∧ x.2 = sizeL (l.take x.1)) : (Nat × Int) → Prop) x.1) (fun x => ((fun x => l.length - x.1) : (Nat × Int) → Nat) x.1) (fun x => Xg.headT [Value.agg #[iv id, Value.slice a l.length c, bv], pv xb1 0, iv 0, iv 0, iv 0, tu, tu, tu, tu, tu, tu, tu, tu, tu, tu, tu, tu, tu, tu, tu, tu] [5, 6, 7, 8, 9, 10, 11, 12, 13, 14, 15, 16, 17, 18, 19] (((fun x => [(3, .int .i64 x.2), (4, .int .i64 (x.1 : Nat))]) : (Nat × Int) → List (Nat × Go.Value)) x.1) x.2) (fun x => ((fun x => [row xb1 62 [.int .i64 id, .slice a l.length c, bv], recsO 42 3 leK a c l]) : (Nat × Int) → List Go.Sl.HP) x.1) (((0, 0)), fun j9 => ([Value.agg #[iv id, Value.slice a l.length c, bv], pv xb1 0, iv 0, iv 0, iv 0, tu, tu, tu, tu, tu, tu, tu, tu, tu, tu, tu, tu, tu, tu, tu, tu] : List Value).getD j9 undef) (by kernel_rfl) (by kernel_rfl) ?_ ?_)
  · exact ⟨Nat.zero_le _, rfl⟩
  rintro ⟨⟨i, s⟩, J⟩ hi ih
  obtain ⟨hi, hs⟩ := hi
  dsimp only at hi hs
  (focus
    refine Xg.At.same (T' := [Value.agg #[iv id, Value.slice a l.length c, bv], pv xb1 0, iv 0, iv s, iv (↑i : Int), J 5, J 6, J 7, J 8, J 9, J 10, J 11, J 12, J 13, J 14, J 15, J 16, J 17, J 18, J 19, tu]) (L' := [row xb1 (62 : TypeId) [iv id, Value.slice a l.length c, bv], recsO (42 : Nat) (3 : Nat) leK a c l]) (by kernel_rfl) rfl ?_)
  by_cases hlt : i < l.length
  · have h1 := sizeL_bd h i (by omega)
    have h2 := h.2 i hlt
    rw [← hs] at h1
    (focus
      refine Xg.at_seq ?_
      refine Xg.at_seq ?_
      refine Xg.at_region ?_
      refine Xg.ops_op (by kernel_rfl) (Xg.opx_pure ((iv (↑i : Int))) rfl (fun _ => by kernel_rfl) ?_)
      refine Xg.ops_op (by kernel_rfl) (Xg.opx_pure ((pv xb1 1)) rfl (fun _ => by kernel_rfl) ?_)
      refine Xg.ops_op (by kernel_rfl) (Xg.opx_load (b := xb1) (off := ((1 : Nat))) 0 (Value.slice a l.length c) rfl (by kernel_rfl) (by kernel_rfl) (by kernel_rfl) ?_)
      refine Xg.ops_op (by kernel_rfl) (Xg.opx_pure ((iv (↑l.length : Int))) rfl (fun _ => by kernel_rfl) ?_)
      refine Xg.ops_op (by kernel_rfl) (Xg.opx_pure (.bool (decide ((((↑i : Int)) : Int) < ((↑l.length : Int))))) rfl (fun _ => by kernel_rfl) ?_)
      refine Xg.ops_nil ?_
      refine Xg.at_true (t := decide (((↑i : Int) < (↑l.length : Int)))) (by kernel_rfl) (decide_eq_true (by omega)) ?_
      refine Xg.at_skip ?_
      refine Xg.at_seq ?_
      refine Xg.at_block ?_
      refine Xg.at_region ?_
      refine Xg.ops_op (by kernel_rfl) (Xg.opx_pure ((iv s)) rfl (fun _ => by kernel_rfl) ?_)
      refine Xg.ops_op (by kernel_rfl) (Xg.opx_pure ((pv xb1 1)) rfl (fun _ => by kernel_rfl) ?_)
      refine Xg.ops_op (by kernel_rfl) (Xg.opx_load (b := xb1) (off := ((1 : Nat))) 0 (Value.slice a l.length c) rfl (by kernel_rfl) (by kernel_rfl) (by kernel_rfl) ?_)
      refine Xg.ops_op (by kernel_rfl) (Xg.opx_pure ((iv (↑i : Int))) rfl (fun _ => by kernel_rfl) ?_)
      refine Xg.ops_op (by kernel_rfl) (Xg.opx_ix_own (elem := 42) (kd := .i64) (e := ((↑i : Int))) 1 3 i (i * (3 : Nat)) rfl (by kernel_rfl) (by kernel_rfl) (by kernel_rfl) (by kernel_rfl) rfl (by omega) (by omega) ?_)
      refine Xg.ops_op (by kernel_rfl) (Xg.opx_pure ((Value.pointer (some (Addr.mk (blk a) (i * (3 : Nat) + (2 : Nat)) none)))) rfl (fun _ => by kernel_rfl) ?_)
      refine Xg.ops_op (by kernel_rfl) (Xg.opx_load_own (a := a) (off := (i * (3 : Nat) + (2 : Nat))) 1 (iv (l.getD i default).snd.snd) rfl (by kernel_rfl) (Xg.get_recs' (wd := 3) (fun _ => rfl) default i 2 (by omega) (by decide) (by omega) (by kernel_rfl)) (by kernel_rfl) ?_)
      refine Xg.ops_op (by kernel_rfl) (Xg.opx_int .i64 (IntKind.wrap .i64 ((s + (l.getD i default).snd.snd))) rfl (fun _ => by kernel_rfl) (Xg.wrap_i64_in (by omega)) ?_)
      refine Xg.ops_op (by kernel_rfl) (Xg.opx_pure ((iv (s + (l.getD i default).snd.snd))) rfl (fun _ => by kernel_rfl) ?_)
      refine Xg.ops_nil ?_
      refine Xg.at_inBlock ?_
      refine Xg.at_region ?_
      refine Xg.ops_op (by kernel_rfl) (Xg.opx_pure ((iv (↑i : Int))) rfl (fun _ => by kernel_rfl) ?_)
      refine Xg.ops_op (by kernel_rfl) (Xg.opx_int .i64 (IntKind.wrap .i64 (((↑i : Int) + (1 : Int)))) rfl (fun _ => by kernel_rfl) (Xg.wrap_i64_in (by omega)) ?_)
      refine Xg.ops_op (by kernel_rfl) (Xg.opx_pure ((iv ((↑i : Int) + (1 : Int)))) rfl (fun _ => by kernel_rfl) ?_)
      refine Xg.ops_nil ?_
      refine Xg.at_inLoop ?_)
    (focus
      refine Xg.at_keep [0, 1] (by kernel_rfl) ?_
      refine Xs.same ?_ (fun J9 => ih (((i + 1, s + (l.getD i default).2.2)), J9) ?_ ?_) (by kernel_rfl))
    · rfl
    · exact ⟨hlt, by rw [take_one' default l i hlt, sizeL_one, hs]⟩
    · dsimp only; omega
  · obtain rfl : i = l.length := by omega
    rw [List.take_length] at hs
    subst hs
    clear ih
    (focus
      refine Xg.at_seq ?_
      refine Xg.at_seq ?_
      refine Xg.at_region ?_
      refine Xg.ops_op (by kernel_rfl) (Xg.opx_pure ((iv (↑l.length : Int))) rfl (fun _ => by kernel_rfl) ?_)
      refine Xg.ops_op (by kernel_rfl) (Xg.opx_pure ((pv xb1 1)) rfl (fun _ => by kernel_rfl) ?_)
      refine Xg.ops_op (by kernel_rfl) (Xg.opx_load (b := xb1) (off := ((1 : Nat))) 0 (Value.slice a l.length c) rfl (by kernel_rfl) (by kernel_rfl) (by kernel_rfl) ?_)
      refine Xg.ops_op (by kernel_rfl) (Xg.opx_pure ((iv (↑l.length : Int))) rfl (fun _ => by kernel_rfl) ?_)
      refine Xg.ops_op (by kernel_rfl) (Xg.opx_pure (.bool (decide ((((↑l.length : Int)) : Int) < ((↑l.length : Int))))) rfl (fun _ => by kernel_rfl) ?_)
      refine Xg.ops_nil ?_
      refine Xg.at_false (t := decide (((↑l.length : Int) < (↑l.length : Int)))) (by kernel_rfl) (decide_eq_false (by omega)) ?_
      refine Xg.at_exit rfl ?_
      refine Xg.at_seq ?_
      refine Xg.at_region ?_
      refine Xg.ops_op (by kernel_rfl) (Xg.opx_pure ((iv (sizeL l))) rfl (fun _ => by kernel_rfl) ?_)
      refine Xg.ops_op (by kernel_rfl) (Xg.opx_pure ((iv (sizeL l))) rfl (fun _ => by kernel_rfl) ?_)
      refine Xg.ops_nil ?_
      refine Xg.at_ret_ps (v := (iv (sizeL l))) [1] [recsO (42 : Nat) (3 : Nat) leK a c l] Go.Proofs.Try.func26 (fun _ => by kernel_rfl) (by kernel_rfl) (by kernel_rfl) ?_
      exact ⟨by kernel_rfl, by kernel_rfl⟩)
theorem zeros_d (n : Nat) (hn : n ≤ 300) : Does Try.prog 20 [.int .i64 (n : Nat)] [] (RetE (fun z : Option Addr => z.isNone = false) (fun z => .slice z n n) (fun z => [Y2 z n (List.replicate n 0)])) := by
  (focus
    refine Xg.spec_of Go.Proofs.Try.func20 rfl Go.Proofs.Try.ntmps20 fun g F => ?_)
  (focus
    refine Xg.at_seq ?_
    refine Xg.at_region ?_
    refine Xg.ops_op (by kernel_rfl) (Xg.opx_pure ((Value.slice none (0 : Nat) (0 : Nat))) rfl (fun _ => by kernel_rfl) ?_)
    refine Xg.ops_nil ?_
    refine Xg.at_seq ?_
    refine Xg.at_region ?_
    refine Xg.ops_op (by kernel_rfl) (Xg.opx_pure ((iv (↑n : Int))) rfl (fun _ => by kernel_rfl) ?_)
    refine Xg.ops_op (by kernel_rfl) (Xg.opx_make_hid (elem := 5) (kd := .u8) (by_ := 1) (k1 := .i64) (k2 := .i64) (n := ((↑n : Int))) (c := ((↑n : Int))) n n (by kernel_rfl) (by kernel_rfl) (by kernel_rfl) (by kernel_rfl) rfl rfl (by omega) (by omega) fun xa1 xs1 xh1 xl1 xz1 => ?_)
    refine Xg.ops_op (by kernel_rfl) (Xg.opx_pure ((Value.slice xa1 xs1.length n)) rfl (fun _ => by kernel_rfl) ?_)
    refine Xg.ops_nil ?_)
  have hxl : xs1.length = n := by assumption
  have hxz : ∀ i : Nat, xs1.getD i 0 = 0 := by assumption
  have hxr : xs1 = List.replicate n 0 := by
    apply List.ext_getElem (by rw [hxl, List.length_replicate])
    intro i g1 g2
    have := hxz i
    simpa [List.getD, g1] using this
  rw [hxl]
  subst hxr
  (focus
    refine Xg.at_ret_ps (v := (Value.slice xa1 n n)) [0] [ints (5 : TypeId) IntKind.u8 xa1 n (List.replicate n (0 : Int))] Go.Proofs.Try.func20 (fun _ => by kernel_rfl) (by kernel_rfl) (by kernel_rfl) ?_
    refine ⟨xa1, ?_, by kernel_rfl, by kernel_rfl⟩)
  assumption
end Go.Proofs.Ytmplimmcjdkhlaa

/- The arena laws: acts: what changes nothing. -/
namespace Go.Proofs.Ytmplimmcjdkhlaa
open Go.Sl Go.Xg
set_option linter.unusedVariables false
set_option linter.unusedSimpArgs false
set_option linter.unnecessarySimpa false
set_option maxHeartbeats 4000000
set_option maxRecDepth 100000

/-- An act. -/
structure Ac where
  kd : Int
  wh : Int
  sz : Int
  pk : Int
  ap : Int
  bt : Int
deriving Inhabited
abbrev acC (a : Ac) : List Value := [.int .i64 a.kd, .int .i64 a.wh, .int .i64 a.sz, .int .i64 a.pk, .int .i64 a.ap, .int .i64 a.bt]
abbrev acV (a : Ac) : Value := .agg #[.int .i64 a.kd, .int .i64 a.wh, .int .i64 a.sz, .int .i64 a.pk, .int .i64 a.ap, .int .i64 a.bt]
def Acok (a : Ac) : Prop := i64ok a.kd ∧ i64ok a.wh ∧ i64ok a.sz ∧ i64ok a.pk ∧ i64ok a.ap ∧ i64ok a.bt
theorem pick_r (c : Int) (n : Nat) (hc : i64ok c) (hn : 0 < n) : Does Try.prog 13 [.int .i64 c, .int .i64 (n : Nat)] [] (Ret (.int .i64 (pickN c n : Nat)) []) :=
  (pick_d c n hc hn).mono fun v ps ⟨x, ⟨hx, _⟩, e1, e2⟩ => ⟨by rw [e1, hx], e2⟩
/-- Which lease is meant. -/
def kOf (a : Ac) (n : Nat) : Nat := if 0 < n then pickN a.pk n else 0
theorem kOf_lt (a : Ac) (n : Nat) (h : 0 < n) : kOf a n < n := by unfold kOf; rw [if_pos h]; exact pickN_lt _ _ h

theorem acts_none (p : Nat) (x : HdV) (a : Ac) (ha : Acok a) (q : Int) (hl : x.les.length ≤ 5000) (hk : 6 ≤ pickN a.kd 8) (A : HP) : Does Try.prog 25 [.pointer (some ⟨p, 0, none⟩), hdV x, acV a, .int .i64 q] [A]
    (Ret (.tuple #[hdV x, .bool true]) [A]) := by
  obtain ⟨a1, a2, a3, a4, a5, a6⟩ := id ha
  have hp8 := pick_r a.kd 8 a1 (by decide)
  (focus
    refine Xg.spec_of Go.Proofs.Try.func25 rfl Go.Proofs.Try.ntmps25 fun g F => ?_)
  (focus
    refine Xg.at_seq ?_
    refine Xg.at_region ?_
    refine Xg.ops_op (by kernel_rfl) (Xg.opx_box (v := (Value.agg #[iv (↑x.id : Int), Value.slice x.la x.les.length x.lc, Value.slice x.ba x.Z.length x.bc])) [iv (↑x.id : Int), Value.slice x.la x.les.length x.lc, Value.slice x.ba x.Z.length x.bc] (by kernel_rfl) (by kernel_rfl) fun xb1 => ?_)
    refine Xg.ops_op (by kernel_rfl) (Xg.opx_box (v := (Value.agg #[iv a.kd, iv a.wh, iv a.sz, iv a.pk, iv a.ap, iv a.bt])) [iv a.kd, iv a.wh, iv a.sz, iv a.pk, iv a.ap, iv a.bt] (by kernel_rfl) (by kernel_rfl) fun xb2 => ?_)
    refine Xg.ops_op (by kernel_rfl) (Xg.opx_new 3 [iv 0, Value.slice none (0 : Nat) (0 : Nat), Value.slice none (0 : Nat) (0 : Nat)] (by kernel_rfl) (by kernel_rfl) fun xb3 => ?_)
    refine Xg.ops_op (by kernel_rfl) (Xg.opx_pure ((Value.bool false)) rfl (fun _ => by kernel_rfl) ?_)
    refine Xg.ops_nil ?_
    refine Xg.at_seq ?_
    refine Xg.at_region ?_
    refine Xg.ops_op (by kernel_rfl) (Xg.opx_pure ((iv 0)) rfl (fun _ => by kernel_rfl) ?_)
    refine Xg.ops_nil ?_
    refine Xg.at_seq ?_
    refine Xg.at_seq ?_
    refine Xg.at_region ?_
    refine Xg.ops_op (by kernel_rfl) (Xg.opx_pure ((pv xb1 1)) rfl (fun _ => by kernel_rfl) ?_)
    refine Xg.ops_op (by kernel_rfl) (Xg.opx_load (b := xb1) (off := ((1 : Nat))) 2 (Value.slice x.la x.les.length x.lc) rfl (by kernel_rfl) (by kernel_rfl) (by kernel_rfl) ?_)
    refine Xg.ops_op (by kernel_rfl) (Xg.opx_pure ((iv (↑x.les.length : Int))) rfl (fun _ => by kernel_rfl) ?_)
    refine Xg.ops_op (by kernel_rfl) (Xg.opx_pure (.bool (decide ((((↑x.les.length : Int)) : Int) > ((0 : Int))))) rfl (fun _ => by kernel_rfl) ?_)
    refine Xg.ops_nil ?_)
  (focus
    refine Xg.at_cut (α := (Nat) × (Nat → Value)) (fun x9 => ((fun k => k = kOf a x.les.length) : (Nat) → Prop) x9.1) (fun x9 => Xg.headT [pv p 0, Value.agg #[iv (↑x.id : Int), Value.slice x.la x.les.length x.lc, Value.slice x.ba x.Z.length x.bc], Value.agg #[iv a.kd, iv a.wh, iv a.sz, iv a.pk, iv a.ap, iv a.bt], iv q, tu, pv xb1 0, pv xb2 0, tu, pv xb3 0, Value.bool false, iv 0, tu, tu, tu, tu, tu, tu, tu, tu, tu, tu, tu, tu, tu, tu, tu, tu, tu, pv xb1 1, Value.slice x.la x.les.length x.lc, iv (↑x.les.length : Int), Value.bool (decide ((↑x.les.length : Int) > (0 : Int))), tu, tu, tu, tu, tu, tu, tu, tu, tu, tu, tu, tu, tu, tu, tu, tu, tu, tu, tu, tu, tu, tu, tu, tu, tu, tu, tu, tu, tu, tu, tu, tu, tu, tu, tu, tu, tu, tu, tu, tu, tu, tu, tu, tu, tu, tu, tu, tu, tu, tu, tu, tu, tu, tu, tu, tu, tu, tu, tu, tu, tu, tu, tu, tu, tu, tu, tu, tu, tu, tu, tu, tu, tu, tu, tu, tu, tu, tu, tu, tu, tu, tu, tu, tu, tu, tu, tu, tu, tu, tu, tu, tu, tu, tu, tu, tu, tu, tu, tu, tu, tu, tu, tu, tu, tu, tu, tu, tu, tu, tu, tu, tu, tu, tu, tu, tu, tu, tu, tu, tu, tu, tu, tu, tu, tu, tu, tu, tu, tu, tu, tu, tu, tu, tu, tu, tu, tu, tu, tu, tu, tu, tu, tu, tu, tu, tu, tu, tu, tu, tu, tu, tu, tu, tu, tu, tu, tu, tu, tu, tu, tu, tu, tu, tu, tu, tu, tu, tu, tu, tu, tu, tu, tu, tu, tu, tu, tu, tu, tu, tu, tu, tu, tu, tu, tu, tu, tu, tu, tu, tu, tu, tu, tu, tu, tu, tu, tu, tu, tu, tu, tu, tu, tu, tu, tu, tu, tu, tu, tu, tu, tu, tu, tu, tu, tu] [32, 33, 34, 35, 36, 37] (((fun k => [(10, .int .i64 (k : Nat))]) : (Nat) → List (Nat × Go.Value)) x9.1) x9.2) (fun x9 => ((fun k => [A, row xb1 62 (hdK x), row xb2 59 (acC a), row xb3 62 [.int .i64 0, .slice none 0 0, .slice none 0 0]]) : (Nat) → List Go.Sl.HP) x9.1) (fun kk hk => ?_) ?_)
  · by_cases h0 : 0 < x.les.length
    · have hpk := pick_r a.pk x.les.length a4 h0
      (focus
        refine Xg.at_true (t := decide (((↑x.les.length : Int) > (0 : Int)))) (by kernel_rfl) (decide_eq_true (by omega)) ?_
        refine Xg.at_region ?_
        refine Xg.ops_op (by kernel_rfl) (Xg.opx_pure ((pv xb2 3)) rfl (fun _ => by kernel_rfl) ?_)
        refine Xg.ops_op (by kernel_rfl) (Xg.opx_load (b := xb2) (off := ((3 : Nat))) 1 (iv a.pk) rfl (by kernel_rfl) (by kernel_rfl) (by kernel_rfl) ?_)
        refine Xg.ops_op (by kernel_rfl) (Xg.opx_pure ((pv xb1 1)) rfl (fun _ => by kernel_rfl) ?_)
        refine Xg.ops_op (by kernel_rfl) (Xg.opx_load (b := xb1) (off := ((1 : Nat))) 2 (Value.slice x.la x.les.length x.lc) rfl (by kernel_rfl) (by kernel_rfl) (by kernel_rfl) ?_)
        refine Xg.ops_op (by kernel_rfl) (Xg.opx_pure ((iv (↑x.les.length : Int))) rfl (fun _ => by kernel_rfl) ?_)
        refine Xg.ops_op (by kernel_rfl) (Xg.opx_call1' [] [row xb3 (62 : Nat) [iv 0, Value.slice none (0 : Nat) (0 : Nat), Value.slice none (0 : Nat) (0 : Nat)], row xb2 (59 : Nat) [iv a.kd, iv a.wh, iv a.sz, iv a.pk, iv a.ap, iv a.bt], row xb1 (62 : Nat) [iv (↑x.id : Int), Value.slice x.la x.les.length x.lc, Value.slice x.ba x.Z.length x.bc], A] (fun _ => by kernel_rfl) (@hpk ) (by kernel_rfl) (by kernel_rfl) (by kernel_rfl) ?_)
        refine Xg.ops_op (by kernel_rfl) (Xg.opx_pure ((iv (↑(pickN a.pk x.les.length) : Int))) rfl (fun _ => by kernel_rfl) ?_)
        refine Xg.ops_nil ?_)
      (focus
        refine Xg.at_keep [3, 2, 1, 0] (by kernel_rfl) ?_
        refine Xg.At.same (by kernel_rfl) ?_ (hk ((pickN a.pk x.les.length), fun j9 => ([pv p 0, Value.agg #[iv (↑x.id : Int), Value.slice x.la x.les.length x.lc, Value.slice x.ba x.Z.length x.bc], Value.agg #[iv a.kd, iv a.wh, iv a.sz, iv a.pk, iv a.ap, iv a.bt], iv q, tu, pv xb1 0, pv xb2 0, tu, pv xb3 0, Value.bool false, iv (↑(pickN a.pk x.les.length) : Int), tu, tu, tu, tu, tu, tu, tu, tu, tu, tu, tu, tu, tu, tu, tu, tu, tu, pv xb1 1, Value.slice x.la x.les.length x.lc, iv (↑x.les.length : Int), Value.bool (decide ((↑x.les.length : Int) > (0 : Int))), pv xb2 3, iv a.pk, pv xb1 1, Value.slice x.la x.les.length x.lc, iv (↑x.les.length : Int), iv (↑(pickN a.pk x.les.length) : Int), tu, tu, tu, tu, tu, tu, tu, tu, tu, tu, tu, tu, tu, tu, tu, tu, tu, tu, tu, tu, tu, tu, tu, tu, tu, tu, tu, tu, tu, tu, tu, tu, tu, tu, tu, tu, tu, tu, tu, tu, tu, tu, tu, tu, tu, tu, tu, tu, tu, tu, tu, tu, tu, tu, tu, tu, tu, tu, tu, tu, tu, tu, tu, tu, tu, tu, tu, tu, tu, tu, tu, tu, tu, tu, tu, tu, tu, tu, tu, tu, tu, tu, tu, tu, tu, tu, tu, tu, tu, tu, tu, tu, tu, tu, tu, tu, tu, tu, tu, tu, tu, tu, tu, tu, tu, tu, tu, tu, tu, tu, tu, tu, tu, tu, tu, tu, tu, tu, tu, tu, tu, tu, tu, tu, tu, tu, tu, tu, tu, tu, tu, tu, tu, tu, tu, tu, tu, tu, tu, tu, tu, tu, tu, tu, tu, tu, tu, tu, tu, tu, tu, tu, tu, tu, tu, tu, tu, tu, tu, tu, tu, tu, tu, tu, tu, tu, tu, tu, tu, tu, tu, tu, tu, tu, tu, tu, tu, tu, tu, tu, tu, tu, tu, tu, tu, tu, tu, tu, tu, tu, tu, tu, tu, tu, tu, tu, tu, tu, tu, tu, tu, tu, tu, tu, tu, tu, tu, tu, tu] : List Value).getD j9 undef) ?_))
      · rfl
      · dsimp only; unfold kOf; rw [if_pos h0]
    · (focus
        refine Xg.at_false (t := decide (((↑x.les.length : Int) > (0 : Int)))) (by kernel_rfl) (decide_eq_false (by omega)) ?_
        refine Xg.at_skip ?_)
      (focus
        refine Xg.at_keep [3, 2, 1, 0] (by kernel_rfl) ?_
        refine Xg.At.same (by kernel_rfl) ?_ (hk ((0), fun j9 => ([pv p 0, Value.agg #[iv (↑x.id : Int), Value.slice x.la x.les.length x.lc, Value.slice x.ba x.Z.length x.bc], Value.agg #[iv a.kd, iv a.wh, iv a.sz, iv a.pk, iv a.ap, iv a.bt], iv q, tu, pv xb1 0, pv xb2 0, tu, pv xb3 0, Value.bool false, iv 0, tu, tu, tu, tu, tu, tu, tu, tu, tu, tu, tu, tu, tu, tu, tu, tu, tu, pv xb1 1, Value.slice x.la x.les.length x.lc, iv (↑x.les.length : Int), Value.bool (decide ((↑x.les.length : Int) > (0 : Int))), tu, tu, tu, tu, tu, tu, tu, tu, tu, tu, tu, tu, tu, tu, tu, tu, tu, tu, tu, tu, tu, tu, tu, tu, tu, tu, tu, tu, tu, tu, tu, tu, tu, tu, tu, tu, tu, tu, tu, tu, tu, tu, tu, tu, tu, tu, tu, tu, tu, tu, tu, tu, tu, tu, tu, tu, tu, tu, tu, tu, tu, tu, tu, tu, tu, tu, tu, tu, tu, tu, tu, tu, tu, tu, tu, tu, tu, tu, tu, tu, tu, tu, tu, tu, tu, tu, tu, tu, tu, tu, tu, tu, tu, tu, tu, tu, tu, tu, tu, tu, tu, tu, tu, tu, tu, tu, tu, tu, tu, tu, tu, tu, tu, tu, tu, tu, tu, tu, tu, tu, tu, tu, tu, tu, tu, tu, tu, tu, tu, tu, tu, tu, tu, tu, tu, tu, tu, tu, tu, tu, tu, tu, tu, tu, tu, tu, tu, tu, tu, tu, tu, tu, tu, tu, tu, tu, tu, tu, tu, tu, tu, tu, tu, tu, tu, tu, tu, tu, tu, tu, tu, tu, tu, tu, tu, tu, tu, tu, tu, tu, tu, tu, tu, tu, tu, tu, tu, tu, tu, tu, tu, tu, tu, tu, tu, tu, tu, tu, tu, tu, tu, tu, tu, tu, tu, tu, tu, tu, tu, tu, tu, tu, tu, tu, tu] : List Value).getD j9 undef) ?_))
      · rfl
      · dsimp only; unfold kOf; rw [if_neg h0]
  rintro ⟨k, J⟩ hkk
  dsimp only at hkk
  (focus
    refine Xg.At.same (T' := [pv p 0, Value.agg #[iv (↑x.id : Int), Value.slice x.la x.les.length x.lc, Value.slice x.ba x.Z.length x.bc], Value.agg #[iv a.kd, iv a.wh, iv a.sz, iv a.pk, iv a.ap, iv a.bt], iv q, tu, pv xb1 0, pv xb2 0, tu, pv xb3 0, Value.bool false, iv (↑k : Int), tu, tu, tu, tu, tu, tu, tu, tu, tu, tu, tu, tu, tu, tu, tu, tu, tu, pv xb1 1, Value.slice x.la x.les.length x.lc, iv (↑x.les.length : Int), Value.bool (decide ((↑x.les.length : Int) > (0 : Int))), J 32, J 33, J 34, J 35, J 36, J 37, tu, tu, tu, tu, tu, tu, tu, tu, tu, tu, tu, tu, tu, tu, tu, tu, tu, tu, tu, tu, tu, tu, tu, tu, tu, tu, tu, tu, tu, tu, tu, tu, tu, tu, tu, tu, tu, tu, tu, tu, tu, tu, tu, tu, tu, tu, tu, tu, tu, tu, tu, tu, tu, tu, tu, tu, tu, tu, tu, tu, tu, tu, tu, tu, tu, tu, tu, tu, tu, tu, tu, tu, tu, tu, tu, tu, tu, tu, tu, tu, tu, tu, tu, tu, tu, tu, tu, tu, tu, tu, tu, tu, tu, tu, tu, tu, tu, tu, tu, tu, tu, tu, tu, tu, tu, tu, tu, tu, tu, tu, tu, tu, tu, tu, tu, tu, tu, tu, tu, tu, tu, tu, tu, tu, tu, tu, tu, tu, tu, tu, tu, tu, tu, tu, tu, tu, tu, tu, tu, tu, tu, tu, tu, tu, tu, tu, tu, tu, tu, tu, tu, tu, tu, tu, tu, tu, tu, tu, tu, tu, tu, tu, tu, tu, tu, tu, tu, tu, tu, tu, tu, tu, tu, tu, tu, tu, tu, tu, tu, tu, tu, tu, tu, tu, tu, tu, tu, tu, tu, tu, tu, tu, tu, tu, tu, tu, tu, tu, tu, tu, tu, tu, tu, tu, tu, tu, tu, tu, tu]) (L' := [A, row xb1 (62 : TypeId) (hdK x), row xb2 (59 : TypeId) (acC a), row xb3 (62 : TypeId) [iv 0, Value.slice none (0 : Nat) (0 : Nat), Value.slice none (0 : Nat) (0 : Nat)]]) (by kernel_rfl) rfl ?_)
  (focus
    refine Xg.at_seq ?_
    refine Xg.at_seq ?_
    refine Xg.at_region ?_
    refine Xg.ops_op (by kernel_rfl) (Xg.opx_pure ((pv xb2 0)) rfl (fun _ => by kernel_rfl) ?_)
    refine Xg.ops_op (by kernel_rfl) (Xg.opx_load (b := xb2) (off := ((0 : Nat))) 2 (iv a.kd) rfl (by kernel_rfl) (by kernel_rfl) (by kernel_rfl) ?_)
    refine Xg.ops_op (by kernel_rfl) (Xg.opx_call1' [] [A, row xb1 (62 : TypeId) [iv (↑x.id : Int), Value.slice x.la x.les.length x.lc, Value.slice x.ba x.Z.length x.bc], row xb2 (59 : TypeId) [iv a.kd, iv a.wh, iv a.sz, iv a.pk, iv a.ap, iv a.bt], row xb3 (62 : TypeId) [iv 0, Value.slice none (0 : Nat) (0 : Nat), Value.slice none (0 : Nat) (0 : Nat)]] (fun _ => by kernel_rfl) (@hp8 ) (by kernel_rfl) (by kernel_rfl) (by kernel_rfl) ?_)
    refine Xg.ops_nil ?_
    refine Xg.at_block ?_
    refine Xg.at_seq ?_
    refine Xg.at_seq ?_
    refine Xg.at_region ?_
    refine Xg.ops_op (by kernel_rfl) (Xg.opx_pure (.bool (decide ((((↑(pickN a.kd (8 : Nat)) : Int)) : Int) = ((0 : Int))))) rfl (fun _ => by kernel_rfl) ?_)
    refine Xg.ops_op (by kernel_rfl) (Xg.opx_pure ((Value.bool (decide ((↑(pickN a.kd (8 : Nat)) : Int) = (0 : Int))))) rfl (fun _ => by kernel_rfl) ?_)
    refine Xg.ops_nil ?_
    refine Xg.at_false (t := decide (((↑(pickN a.kd (8 : Nat)) : Int) = (0 : Int)))) (by kernel_rfl) (decide_eq_false (by omega)) ?_
    refine Xg.at_region ?_
    refine Xg.ops_op (by kernel_rfl) (Xg.opx_pure (.bool (decide ((((↑(pickN a.kd (8 : Nat)) : Int)) : Int) = ((1 : Int))))) rfl (fun _ => by kernel_rfl) ?_)
    refine Xg.ops_op (by kernel_rfl) (Xg.opx_pure ((Value.bool (decide ((↑(pickN a.kd (8 : Nat)) : Int) = (1 : Int))))) rfl (fun _ => by kernel_rfl) ?_)
    refine Xg.ops_nil ?_
    refine Xg.at_false (t := decide (((↑(pickN a.kd (8 : Nat)) : Int) = (1 : Int)))) (by kernel_rfl) (decide_eq_false (by omega)) ?_
    refine Xg.at_seq ?_
    refine Xg.at_seq ?_
    refine Xg.at_region ?_
    refine Xg.ops_op (by kernel_rfl) (Xg.opx_pure (.bool (decide ((((↑(pickN a.kd (8 : Nat)) : Int)) : Int) = ((2 : Int))))) rfl (fun _ => by kernel_rfl) ?_)
    refine Xg.ops_op (by kernel_rfl) (Xg.opx_pure ((Value.bool (decide ((↑(pickN a.kd (8 : Nat)) : Int) = (2 : Int))))) rfl (fun _ => by kernel_rfl) ?_)
    refine Xg.ops_nil ?_
    refine Xg.at_false (t := decide (((↑(pickN a.kd (8 : Nat)) : Int) = (2 : Int)))) (by kernel_rfl) (decide_eq_false (by omega)) ?_
    refine Xg.at_region ?_
    refine Xg.ops_op (by kernel_rfl) (Xg.opx_pure (.bool (decide ((((↑(pickN a.kd (8 : Nat)) : Int)) : Int) = ((3 : Int))))) rfl (fun _ => by kernel_rfl) ?_)
    refine Xg.ops_op (by kernel_rfl) (Xg.opx_pure ((Value.bool (decide ((↑(pickN a.kd (8 : Nat)) : Int) = (3 : Int))))) rfl (fun _ => by kernel_rfl) ?_)
    refine Xg.ops_nil ?_
    refine Xg.at_false (t := decide (((↑(pickN a.kd (8 : Nat)) : Int) = (3 : Int)))) (by kernel_rfl) (decide_eq_false (by omega)) ?_
    refine Xg.at_seq ?_
    refine Xg.at_region ?_
    refine Xg.ops_op (by kernel_rfl) (Xg.opx_pure (.bool (decide ((((↑(pickN a.kd (8 : Nat)) : Int)) : Int) = ((4 : Int))))) rfl (fun _ => by kernel_rfl) ?_)
    refine Xg.ops_op (by kernel_rfl) (Xg.opx_pure ((Value.bool (decide ((↑(pickN a.kd (8 : Nat)) : Int) = (4 : Int))))) rfl (fun _ => by kernel_rfl) ?_)
    refine Xg.ops_nil ?_
    refine Xg.at_false (t := decide (((↑(pickN a.kd (8 : Nat)) : Int) = (4 : Int)))) (by kernel_rfl) (decide_eq_false (by omega)) ?_
    refine Xg.at_seq ?_
    refine Xg.at_region ?_
    refine Xg.ops_op (by kernel_rfl) (Xg.opx_pure (.bool (decide ((((↑(pickN a.kd (8 : Nat)) : Int)) : Int) = ((5 : Int))))) rfl (fun _ => by kernel_rfl) ?_)
    refine Xg.ops_op (by kernel_rfl) (Xg.opx_pure ((Value.bool (decide ((↑(pickN a.kd (8 : Nat)) : Int) = (5 : Int))))) rfl (fun _ => by kernel_rfl) ?_)
    refine Xg.ops_nil ?_
    refine Xg.at_false (t := decide (((↑(pickN a.kd (8 : Nat)) : Int) = (5 : Int)))) (by kernel_rfl) (decide_eq_false (by omega)) ?_
    refine Xg.at_skip ?_
    refine Xg.at_inBlock ?_
    refine Xg.at_seq ?_
    refine Xg.at_region ?_
    refine Xg.ops_op (by kernel_rfl) (Xg.opx_loadn (off := 0) 3 1 [iv (↑x.id : Int), Value.slice x.la x.les.length x.lc, Value.slice x.ba x.Z.length x.bc] (by kernel_rfl) rfl (by kernel_rfl) rfl (Xg.cells_at (by kernel_rfl)) (by kernel_rfl) ?_)
    refine Xg.ops_op (by kernel_rfl) (Xg.opx_storen 3 (off := 0) 3 [iv (↑x.id : Int), Value.slice x.la x.les.length x.lc, Value.slice x.ba x.Z.length x.bc] (by kernel_rfl) rfl (by kernel_rfl) (by kernel_rfl) rfl (by kernel_rfl) (Nat.le_of_ble_eq_true (by kernel_rfl)) ?_)
    refine Xg.ops_op (by kernel_rfl) (Xg.opx_pure ((Value.bool true)) rfl (fun _ => by kernel_rfl) ?_)
    refine Xg.ops_nil ?_
    refine Xg.at_ret_feed (v := (Value.tuple #[Value.agg #[iv (↑x.id : Int), Value.slice x.la x.les.length x.lc, Value.slice x.ba x.Z.length x.bc], Value.bool true])) [(Addr.mk xb3 (0 : Nat) none), (Addr.mk xb3 (1 : Nat) none), (Addr.mk xb3 (2 : Nat) none)] [iv (↑x.id : Int), Value.slice x.la x.les.length x.lc, Value.slice x.ba x.Z.length x.bc] [0] [A] Go.Proofs.Try.func25 (by kernel_rfl) (Xg.cells_cons (b := xb3) (off := 0) 3 rfl (by kernel_rfl) (Xg.cells_cons (b := xb3) (off := 1) 3 rfl (by kernel_rfl) (Xg.cells_cons (b := xb3) (off := 2) 3 rfl (by kernel_rfl) Xg.cells_nil))) (by kernel_rfl) (by kernel_rfl) ?_
    exact ⟨by kernel_rfl, by kernel_rfl⟩)
end Go.Proofs.Ytmplimmcjdkhlaa

/- The arena laws: acts in an argument. -/
namespace Go.Proofs.Ytmplimmcjdkhlaa
open Go.ChangeShapes Go.WideShapes Go.ChangeAt Go.RowKit Go.Sl Go.Xg
set_option maxRecDepth 100000
set_option linter.unusedVariables false
set_option linter.unusedSimpArgs false

section
variable {H : Type} {enc : TypeId × Value → H} {P : Program} {w : World} {base : Nat} {spare : Nat → Bool} {held : Bool}
theorem trod_struct6 {t : TypeId} {f0 f1 f2 f3 f4 f5 : Field} {fuel : Nat} {cs : List Value} {x : DataW H × List MemPlace} (ht : P.underlying t = some (.struct #[f0, f1, f2, f3, f4, f5])) (h : DataW.trod enc P w base spare held fuel t cs = some x) :
    ∃ y0 y1 y2 y3 y4 y5 n, DataW.trod enc P w base spare held n f0.type ((cs.drop f0.offset).take (P.cellsOf f0.type)) = some y0 ∧ DataW.trod enc P w base spare held n f1.type ((cs.drop f1.offset).take (P.cellsOf f1.type)) = some y1 ∧ DataW.trod enc P w base spare held n f2.type ((cs.drop f2.offset).take (P.cellsOf f2.type)) = some y2 ∧ DataW.trod enc P w base spare held n f3.type ((cs.drop f3.offset).take (P.cellsOf f3.type)) = some y3 ∧ DataW.trod enc P w base spare held n f4.type ((cs.drop f4.offset).take (P.cellsOf f4.type)) = some y4 ∧ DataW.trod enc P w base spare held n f5.type ((cs.drop f5.offset).take (P.cellsOf f5.type)) = some y5 := by
  obtain ⟨xs, n, _, rfl, hl, hlen, hf⟩ := DataW.trod_struct ht h
  match xs, hlen with
  | [y0, y1, y2, y3, y4, y5], _ => exact ⟨y0, y1, y2, y3, y4, y5, n, by simpa using hf 0 f0 rfl, by simpa using hf 1 f1 rfl, by simpa using hf 2 f2 rfl, by simpa using hf 3 f3 rfl, by simpa using hf 4 f4 rfl, by simpa using hf 5 f5 rfl⟩
end
theorem actn_arg {H : Type} {enc : TypeId × Value → H} {W : World} {a : Option Addr} {n c : Nat} {d : DataW H} {ps : List MemPlace}
    (h : DataW.Trod enc Try.prog W 0 (fun _ => true) true 54 (.slice a n c) d ps) :
    ∃ l : List Ac, l.length = n ∧ n ≤ maxLen ∧ Reads (old W) 6 (.slice a n c) n (recs acC l) ∧ n ≤ c ∧ ∀ i, i < n → Acok (l.getD i default) := by
  obtain ⟨fuel, hf⟩ := h
  rcases Deep.open_slice Try.underlying54 hf with ⟨hcs, _⟩ | ⟨x, l, c', m, k, D, Pl, hcs, _, hl, hm, hmm, _, hel⟩
  · cases List.head_eq_of_cons_eq (show [Value.slice a n c] = [Value.slice none 0 0] from hcs)
    exact ⟨[], rfl, Nat.zero_le _, reads_old rfl (by simp [recs]), Nat.zero_le _, fun i hi => absurd hi (Nat.not_lt_zero _)⟩
  · cases List.head_eq_of_cons_eq (show [Value.slice a n c] = [Value.slice (some x) l c'] from hcs)
    have hnm : n ≤ m := by rw [hmm]; split <;> omega
    obtain ⟨V, hV⟩ := Deep.choose_lt (n := n) (α := Ac) (p := fun i v => Acok v ∧ W.cell? (x.add (i * 6 + 0)) = some (.int .i64 v.kd) ∧ W.cell? (x.add (i * 6 + 1)) = some (.int .i64 v.wh) ∧ W.cell? (x.add (i * 6 + 2)) = some (.int .i64 v.sz) ∧ W.cell? (x.add (i * 6 + 3)) = some (.int .i64 v.pk) ∧ W.cell? (x.add (i * 6 + 4)) = some (.int .i64 v.ap) ∧ W.cell? (x.add (i * 6 + 5)) = some (.int .i64 v.bt)) (fun i hi' => by
      obtain ⟨cs', h1, h2⟩ := hel i (by omega)
      rw [show Try.prog.cellsOf 59 = 6 from by kernel_rfl] at h1
      obtain ⟨_, hlen, hcell⟩ := World.cells?_some h1
      obtain ⟨y0, y1, y2, y3, y4, y5, q, e0, e1, e2, e3, e4, e5⟩ := trod_struct6 Try.underlying59 h2
      match cs', hlen with
      | [v0, v1, v2, v3, v4, v5], _ =>
        obtain ⟨n0, c0, _, w0⟩ := DataW.trod_int Try.underlying3 e0
        obtain rfl : v0 = Value.int .i64 n0 := List.head_eq_of_cons_eq (show [v0] = [Value.int .i64 n0] from c0)
        obtain ⟨n1, c1, _, w1⟩ := DataW.trod_int Try.underlying3 e1
        obtain rfl : v1 = Value.int .i64 n1 := List.head_eq_of_cons_eq (show [v1] = [Value.int .i64 n1] from c1)
        obtain ⟨n2, c2, _, w2⟩ := DataW.trod_int Try.underlying3 e2
        obtain rfl : v2 = Value.int .i64 n2 := List.head_eq_of_cons_eq (show [v2] = [Value.int .i64 n2] from c2)
        obtain ⟨n3, c3, _, w3⟩ := DataW.trod_int Try.underlying3 e3
        obtain rfl : v3 = Value.int .i64 n3 := List.head_eq_of_cons_eq (show [v3] = [Value.int .i64 n3] from c3)
        obtain ⟨n4, c4, _, w4⟩ := DataW.trod_int Try.underlying3 e4
        obtain rfl : v4 = Value.int .i64 n4 := List.head_eq_of_cons_eq (show [v4] = [Value.int .i64 n4] from c4)
        obtain ⟨n5, c5, _, w5⟩ := DataW.trod_int Try.underlying3 e5
        obtain rfl : v5 = Value.int .i64 n5 := List.head_eq_of_cons_eq (show [v5] = [Value.int .i64 n5] from c5)
        have g0 := hcell 0 (by omega)
        have g1 := hcell 1 (by omega)
        have g2 := hcell 2 (by omega)
        have g3 := hcell 3 (by omega)
        have g4 := hcell 4 (by omega)
        have g5 := hcell 5 (by omega)
        simp only [Deep.add_add] at g0 g1 g2 g3 g4 g5
        exact ⟨⟨n0, n1, n2, n3, n4, n5⟩, ⟨bounds_i64 w0, bounds_i64 w1, bounds_i64 w2, bounds_i64 w3, bounds_i64 w4, bounds_i64 w5⟩, by simpa using g0, by simpa using g1, by simpa using g2, by simpa using g3, by simpa using g4, by simpa using g5⟩)
    refine ⟨(List.range n).map V, by simp, by omega, reads_old (by rw [recs_len (wd := 6) (fun _ => rfl)]; simp) fun j u hu => ⟨x, rfl, ?_⟩, hl, fun i hi => ?_⟩
    · have hj : j < ((List.range n).map V).length * 6 := by
        have := (List.getElem?_eq_some_iff.1 hu).1
        rwa [recs_len (wd := 6) (fun _ => rfl)] at this
      have hi' : j / 6 < n := by simp at hj; omega
      have g := get_recs (cells := acC) (wd := 6) (fun _ => rfl) default (l := (List.range n).map V) (i := j / 6) (j := j % 6) (by simp; omega) (by omega)
      rw [show j / 6 * 6 + j % 6 = j by omega, hu] at g
      have eV : ((List.range n).map V).getD (j / 6) default = V (j / 6) := by simp [List.getD, hi']
      rw [eV] at g
      obtain ⟨_, k0, k1, k2, k3, k4, k5⟩ := hV (j / 6) hi'
      rcases (show j % 6 = 0 ∨ j % 6 = 1 ∨ j % 6 = 2 ∨ j % 6 = 3 ∨ j % 6 = 4 ∨ j % 6 = 5 by omega) with e | e | e | e | e | e <;> rw [e] at g <;> simp at g <;> rw [g]
      · rw [show j = j / 6 * 6 + 0 by omega]; simpa [show (j / 6 * 6 + 0) / 6 = j / 6 by omega] using k0
      · rw [show j = j / 6 * 6 + 1 by omega]; simpa [show (j / 6 * 6 + 1) / 6 = j / 6 by omega] using k1
      · rw [show j = j / 6 * 6 + 2 by omega]; simpa [show (j / 6 * 6 + 2) / 6 = j / 6 by omega] using k2
      · rw [show j = j / 6 * 6 + 3 by omega]; simpa [show (j / 6 * 6 + 3) / 6 = j / 6 by omega] using k3
      · rw [show j = j / 6 * 6 + 4 by omega]; simpa [show (j / 6 * 6 + 4) / 6 = j / 6 by omega] using k4
      · rw [show j = j / 6 * 6 + 5 by omega]; simpa [show (j / 6 * 6 + 5) / 6 = j / 6 by omega] using k5
    · have eV : ((List.range n).map V).getD i default = V i := by simp [List.getD, hi]
      rw [eV]
      exact (hV i hi).1
end Go.Proofs.Ytmplimmcjdkhlaa

/- The arena laws: acts: a byte is stored. -/
namespace Go.Proofs.Ytmplimmcjdkhlaa
open Go.Sl Go.Xg
set_option linter.unusedVariables false
set_option linter.unusedSimpArgs false
set_option linter.unnecessarySimpa false
set_option maxHeartbeats 4000000
set_option maxRecDepth 100000

theorem acts_none2 (p : Nat) (x : HdV) (a : Ac) (ha : Acok a) (q : Int) (hl : x.les.length = 0) (hk : 2 ≤ pickN a.kd 8 ∧ pickN a.kd 8 ≤ 4) (A : HP) : Does Try.prog 25 [.pointer (some ⟨p, 0, none⟩), hdV x, acV a, .int .i64 q] [A]
    (Ret (.tuple #[hdV x, .bool true]) [A]) := by
  obtain ⟨a1, a2, a3, a4, a5, a6⟩ := id ha
  have hp8 := pick_r a.kd 8 a1 (by decide)
  (focus
    refine Xg.spec_of Go.Proofs.Try.func25 rfl Go.Proofs.Try.ntmps25 fun g F => ?_)
  by_cases h4 : pickN a.kd 8 = 4
  · (focus
      refine Xg.at_seq ?_
      refine Xg.at_region ?_
      refine Xg.ops_op (by kernel_rfl) (Xg.opx_box (v := (Value.agg #[iv (↑x.id : Int), Value.slice x.la x.les.length x.lc, Value.slice x.ba x.Z.length x.bc])) [iv (↑x.id : Int), Value.slice x.la x.les.length x.lc, Value.slice x.ba x.Z.length x.bc] (by kernel_rfl) (by kernel_rfl) fun xb1 => ?_)
      refine Xg.ops_op (by kernel_rfl) (Xg.opx_box (v := (Value.agg #[iv a.kd, iv a.wh, iv a.sz, iv a.pk, iv a.ap, iv a.bt])) [iv a.kd, iv a.wh, iv a.sz, iv a.pk, iv a.ap, iv a.bt] (by kernel_rfl) (by kernel_rfl) fun xb2 => ?_)
      refine Xg.ops_op (by kernel_rfl) (Xg.opx_new 3 [iv 0, Value.slice none (0 : Nat) (0 : Nat), Value.slice none (0 : Nat) (0 : Nat)] (by kernel_rfl) (by kernel_rfl) fun xb3 => ?_)
      refine Xg.ops_op (by kernel_rfl) (Xg.opx_pure ((Value.bool false)) rfl (fun _ => by kernel_rfl) ?_)
      refine Xg.ops_nil ?_
      refine Xg.at_seq ?_
      refine Xg.at_region ?_
      refine Xg.ops_op (by kernel_rfl) (Xg.opx_pure ((iv 0)) rfl (fun _ => by kernel_rfl) ?_)
      refine Xg.ops_nil ?_
      refine Xg.at_seq ?_
      refine Xg.at_seq ?_
      refine Xg.at_region ?_
      refine Xg.ops_op (by kernel_rfl) (Xg.opx_pure ((pv xb1 1)) rfl (fun _ => by kernel_rfl) ?_)
      refine Xg.ops_op (by kernel_rfl) (Xg.opx_load (b := xb1) (off := ((1 : Nat))) 2 (Value.slice x.la x.les.length x.lc) rfl (by kernel_rfl) (by kernel_rfl) (by kernel_rfl) ?_)
      refine Xg.ops_op (by kernel_rfl) (Xg.opx_pure ((iv (↑x.les.length : Int))) rfl (fun _ => by kernel_rfl) ?_)
      refine Xg.ops_op (by kernel_rfl) (Xg.opx_pure (.bool (decide ((((↑x.les.length : Int)) : Int) > ((0 : Int))))) rfl (fun _ => by kernel_rfl) ?_)
      refine Xg.ops_nil ?_
      refine Xg.at_false (t := decide (((↑x.les.length : Int) > (0 : Int)))) (by kernel_rfl) (decide_eq_false (by omega)) ?_
      refine Xg.at_skip ?_
      refine Xg.at_seq ?_
      refine Xg.at_seq ?_
      refine Xg.at_region ?_
      refine Xg.ops_op (by kernel_rfl) (Xg.opx_pure ((pv xb2 0)) rfl (fun _ => by kernel_rfl) ?_)
      refine Xg.ops_op (by kernel_rfl) (Xg.opx_load (b := xb2) (off := ((0 : Nat))) 1 (iv a.kd) rfl (by kernel_rfl) (by kernel_rfl) (by kernel_rfl) ?_)
      refine Xg.ops_op (by kernel_rfl) (Xg.opx_call1' [] [row xb3 (62 : Nat) [iv 0, Value.slice none (0 : Nat) (0 : Nat), Value.slice none (0 : Nat) (0 : Nat)], row xb2 (59 : Nat) [iv a.kd, iv a.wh, iv a.sz, iv a.pk, iv a.ap, iv a.bt], row xb1 (62 : Nat) [iv (↑x.id : Int), Value.slice x.la x.les.length x.lc, Value.slice x.ba x.Z.length x.bc], A] (fun _ => by kernel_rfl) (@hp8 ) (by kernel_rfl) (by kernel_rfl) (by kernel_rfl) ?_)
      refine Xg.ops_nil ?_
      refine Xg.at_block ?_
      refine Xg.at_seq ?_
      refine Xg.at_seq ?_
      refine Xg.at_region ?_
      refine Xg.ops_op (by kernel_rfl) (Xg.opx_pure (.bool (decide ((((↑(pickN a.kd (8 : Nat)) : Int)) : Int) = ((0 : Int))))) rfl (fun _ => by kernel_rfl) ?_)
      refine Xg.ops_op (by kernel_rfl) (Xg.opx_pure ((Value.bool (decide ((↑(pickN a.kd (8 : Nat)) : Int) = (0 : Int))))) rfl (fun _ => by kernel_rfl) ?_)
      refine Xg.ops_nil ?_
      refine Xg.at_false (t := decide (((↑(pickN a.kd (8 : Nat)) : Int) = (0 : Int)))) (by kernel_rfl) (decide_eq_false (by omega)) ?_
      refine Xg.at_region ?_
      refine Xg.ops_op (by kernel_rfl) (Xg.opx_pure (.bool (decide ((((↑(pickN a.kd (8 : Nat)) : Int)) : Int) = ((1 : Int))))) rfl (fun _ => by kernel_rfl) ?_)
      refine Xg.ops_op (by kernel_rfl) (Xg.opx_pure ((Value.bool (decide ((↑(pickN a.kd (8 : Nat)) : Int) = (1 : Int))))) rfl (fun _ => by kernel_rfl) ?_)
      refine Xg.ops_nil ?_
      refine Xg.at_false (t := decide (((↑(pickN a.kd (8 : Nat)) : Int) = (1 : Int)))) (by kernel_rfl) (decide_eq_false (by omega)) ?_
      refine Xg.at_seq ?_
      refine Xg.at_seq ?_
      refine Xg.at_region ?_
      refine Xg.ops_op (by kernel_rfl) (Xg.opx_pure (.bool (decide ((((↑(pickN a.kd (8 : Nat)) : Int)) : Int) = ((2 : Int))))) rfl (fun _ => by kernel_rfl) ?_)
      refine Xg.ops_op (by kernel_rfl) (Xg.opx_pure ((Value.bool (decide ((↑(pickN a.kd (8 : Nat)) : Int) = (2 : Int))))) rfl (fun _ => by kernel_rfl) ?_)
      refine Xg.ops_nil ?_
      refine Xg.at_false (t := decide (((↑(pickN a.kd (8 : Nat)) : Int) = (2 : Int)))) (by kernel_rfl) (decide_eq_false (by omega)) ?_
      refine Xg.at_region ?_
      refine Xg.ops_op (by kernel_rfl) (Xg.opx_pure (.bool (decide ((((↑(pickN a.kd (8 : Nat)) : Int)) : Int) = ((3 : Int))))) rfl (fun _ => by kernel_rfl) ?_)
      refine Xg.ops_op (by kernel_rfl) (Xg.opx_pure ((Value.bool (decide ((↑(pickN a.kd (8 : Nat)) : Int) = (3 : Int))))) rfl (fun _ => by kernel_rfl) ?_)
      refine Xg.ops_nil ?_
      refine Xg.at_false (t := decide (((↑(pickN a.kd (8 : Nat)) : Int) = (3 : Int)))) (by kernel_rfl) (decide_eq_false (by omega)) ?_
      refine Xg.at_seq ?_
      refine Xg.at_region ?_
      refine Xg.ops_op (by kernel_rfl) (Xg.opx_pure (.bool (decide ((((↑(pickN a.kd (8 : Nat)) : Int)) : Int) = ((4 : Int))))) rfl (fun _ => by kernel_rfl) ?_)
      refine Xg.ops_op (by kernel_rfl) (Xg.opx_pure ((Value.bool (decide ((↑(pickN a.kd (8 : Nat)) : Int) = (4 : Int))))) rfl (fun _ => by kernel_rfl) ?_)
      refine Xg.ops_nil ?_
      refine Xg.at_true (t := decide (((↑(pickN a.kd (8 : Nat)) : Int) = (4 : Int)))) (by kernel_rfl) (decide_eq_true (by omega)) ?_
      refine Xg.at_seq ?_
      refine Xg.at_seq ?_
      refine Xg.at_region ?_
      refine Xg.ops_op (by kernel_rfl) (Xg.opx_pure ((pv xb1 1)) rfl (fun _ => by kernel_rfl) ?_)
      refine Xg.ops_op (by kernel_rfl) (Xg.opx_load (b := xb1) (off := ((1 : Nat))) 2 (Value.slice x.la x.les.length x.lc) rfl (by kernel_rfl) (by kernel_rfl) (by kernel_rfl) ?_)
      refine Xg.ops_op (by kernel_rfl) (Xg.opx_pure ((iv (↑x.les.length : Int))) rfl (fun _ => by kernel_rfl) ?_)
      refine Xg.ops_op (by kernel_rfl) (Xg.opx_pure (.bool (decide ((((↑x.les.length : Int)) : Int) = ((0 : Int))))) rfl (fun _ => by kernel_rfl) ?_)
      refine Xg.ops_nil ?_
      refine Xg.at_true (t := decide (((↑x.les.length : Int) = (0 : Int)))) (by kernel_rfl) (decide_eq_true (by omega)) ?_
      refine Xg.at_seq ?_
      refine Xg.at_region ?_
      refine Xg.ops_op (by kernel_rfl) (Xg.opx_loadn (off := 0) 3 2 [iv (↑x.id : Int), Value.slice x.la x.les.length x.lc, Value.slice x.ba x.Z.length x.bc] (by kernel_rfl) rfl (by kernel_rfl) rfl (Xg.cells_at (by kernel_rfl)) (by kernel_rfl) ?_)
      refine Xg.ops_op (by kernel_rfl) (Xg.opx_storen 3 (off := 0) 0 [iv (↑x.id : Int), Value.slice x.la x.les.length x.lc, Value.slice x.ba x.Z.length x.bc] (by kernel_rfl) rfl (by kernel_rfl) (by kernel_rfl) rfl (by kernel_rfl) (Nat.le_of_ble_eq_true (by kernel_rfl)) ?_)
      refine Xg.ops_op (by kernel_rfl) (Xg.opx_pure ((Value.bool true)) rfl (fun _ => by kernel_rfl) ?_)
      refine Xg.ops_nil ?_
      refine Xg.at_ret_feed (v := (Value.tuple #[Value.agg #[iv (↑x.id : Int), Value.slice x.la x.les.length x.lc, Value.slice x.ba x.Z.length x.bc], Value.bool true])) [(Addr.mk xb3 (0 : Nat) none), (Addr.mk xb3 (1 : Nat) none), (Addr.mk xb3 (2 : Nat) none)] [iv (↑x.id : Int), Value.slice x.la x.les.length x.lc, Value.slice x.ba x.Z.length x.bc] [3] [A] Go.Proofs.Try.func25 (by kernel_rfl) (Xg.cells_cons (b := xb3) (off := 0) 0 rfl (by kernel_rfl) (Xg.cells_cons (b := xb3) (off := 1) 0 rfl (by kernel_rfl) (Xg.cells_cons (b := xb3) (off := 2) 0 rfl (by kernel_rfl) Xg.cells_nil))) (by kernel_rfl) (by kernel_rfl) ?_
      exact ⟨by kernel_rfl, by kernel_rfl⟩)
  · (focus
      refine Xg.at_seq ?_
      refine Xg.at_region ?_
      refine Xg.ops_op (by kernel_rfl) (Xg.opx_box (v := (Value.agg #[iv (↑x.id : Int), Value.slice x.la x.les.length x.lc, Value.slice x.ba x.Z.length x.bc])) [iv (↑x.id : Int), Value.slice x.la x.les.length x.lc, Value.slice x.ba x.Z.length x.bc] (by kernel_rfl) (by kernel_rfl) fun xb1 => ?_)
      refine Xg.ops_op (by kernel_rfl) (Xg.opx_box (v := (Value.agg #[iv a.kd, iv a.wh, iv a.sz, iv a.pk, iv a.ap, iv a.bt])) [iv a.kd, iv a.wh, iv a.sz, iv a.pk, iv a.ap, iv a.bt] (by kernel_rfl) (by kernel_rfl) fun xb2 => ?_)
      refine Xg.ops_op (by kernel_rfl) (Xg.opx_new 3 [iv 0, Value.slice none (0 : Nat) (0 : Nat), Value.slice none (0 : Nat) (0 : Nat)] (by kernel_rfl) (by kernel_rfl) fun xb3 => ?_)
      refine Xg.ops_op (by kernel_rfl) (Xg.opx_pure ((Value.bool false)) rfl (fun _ => by kernel_rfl) ?_)
      refine Xg.ops_nil ?_
      refine Xg.at_seq ?_
      refine Xg.at_region ?_
      refine Xg.ops_op (by kernel_rfl) (Xg.opx_pure ((iv 0)) rfl (fun _ => by kernel_rfl) ?_)
      refine Xg.ops_nil ?_
      refine Xg.at_seq ?_
      refine Xg.at_seq ?_
      refine Xg.at_region ?_
      refine Xg.ops_op (by kernel_rfl) (Xg.opx_pure ((pv xb1 1)) rfl (fun _ => by kernel_rfl) ?_)
      refine Xg.ops_op (by kernel_rfl) (Xg.opx_load (b := xb1) (off := ((1 : Nat))) 2 (Value.slice x.la x.les.length x.lc) rfl (by kernel_rfl) (by kernel_rfl) (by kernel_rfl) ?_)
      refine Xg.ops_op (by kernel_rfl) (Xg.opx_pure ((iv (↑x.les.length : Int))) rfl (fun _ => by kernel_rfl) ?_)
      refine Xg.ops_op (by kernel_rfl) (Xg.opx_pure (.bool (decide ((((↑x.les.length : Int)) : Int) > ((0 : Int))))) rfl (fun _ => by kernel_rfl) ?_)
      refine Xg.ops_nil ?_
      refine Xg.at_false (t := decide (((↑x.les.length : Int) > (0 : Int)))) (by kernel_rfl) (decide_eq_false (by omega)) ?_
      refine Xg.at_skip ?_
      refine Xg.at_seq ?_
      refine Xg.at_seq ?_
      refine Xg.at_region ?_
      refine Xg.ops_op (by kernel_rfl) (Xg.opx_pure ((pv xb2 0)) rfl (fun _ => by kernel_rfl) ?_)
      refine Xg.ops_op (by kernel_rfl) (Xg.opx_load (b := xb2) (off := ((0 : Nat))) 1 (iv a.kd) rfl (by kernel_rfl) (by kernel_rfl) (by kernel_rfl) ?_)
      refine Xg.ops_op (by kernel_rfl) (Xg.opx_call1' [] [row xb3 (62 : Nat) [iv 0, Value.slice none (0 : Nat) (0 : Nat), Value.slice none (0 : Nat) (0 : Nat)], row xb2 (59 : Nat) [iv a.kd, iv a.wh, iv a.sz, iv a.pk, iv a.ap, iv a.bt], row xb1 (62 : Nat) [iv (↑x.id : Int), Value.slice x.la x.les.length x.lc, Value.slice x.ba x.Z.length x.bc], A] (fun _ => by kernel_rfl) (@hp8 ) (by kernel_rfl) (by kernel_rfl) (by kernel_rfl) ?_)
      refine Xg.ops_nil ?_
      refine Xg.at_block ?_
      refine Xg.at_seq ?_
      refine Xg.at_seq ?_
      refine Xg.at_region ?_
      refine Xg.ops_op (by kernel_rfl) (Xg.opx_pure (.bool (decide ((((↑(pickN a.kd (8 : Nat)) : Int)) : Int) = ((0 : Int))))) rfl (fun _ => by kernel_rfl) ?_)
      refine Xg.ops_op (by kernel_rfl) (Xg.opx_pure ((Value.bool (decide ((↑(pickN a.kd (8 : Nat)) : Int) = (0 : Int))))) rfl (fun _ => by kernel_rfl) ?_)
      refine Xg.ops_nil ?_)
    (focus
      refine Xg.at_false (t := decide (((↑(pickN a.kd (8 : Nat)) : Int) = (0 : Int)))) (by kernel_rfl) (decide_eq_false (by omega)) ?_
      refine Xg.at_region ?_
      refine Xg.ops_op (by kernel_rfl) (Xg.opx_pure (.bool (decide ((((↑(pickN a.kd (8 : Nat)) : Int)) : Int) = ((1 : Int))))) rfl (fun _ => by kernel_rfl) ?_)
      refine Xg.ops_op (by kernel_rfl) (Xg.opx_pure ((Value.bool (decide ((↑(pickN a.kd (8 : Nat)) : Int) = (1 : Int))))) rfl (fun _ => by kernel_rfl) ?_)
      refine Xg.ops_nil ?_
      refine Xg.at_false (t := decide (((↑(pickN a.kd (8 : Nat)) : Int) = (1 : Int)))) (by kernel_rfl) (decide_eq_false (by omega)) ?_
      refine Xg.at_seq ?_
      refine Xg.at_seq ?_
      refine Xg.at_region ?_
      refine Xg.ops_op (by kernel_rfl) (Xg.opx_pure (.bool (decide ((((↑(pickN a.kd (8 : Nat)) : Int)) : Int) = ((2 : Int))))) rfl (fun _ => by kernel_rfl) ?_)
      refine Xg.ops_op (by kernel_rfl) (Xg.opx_pure ((Value.bool (decide ((↑(pickN a.kd (8 : Nat)) : Int) = (2 : Int))))) rfl (fun _ => by kernel_rfl) ?_)
      refine Xg.ops_nil ?_
      refine Xg.at_dec (p := ((↑(pickN a.kd (8 : Nat)) : Int) = (2 : Int))) (by kernel_rfl) (fun xh1 => ?_) (fun xh1 => ?_)
      refine Xg.at_skip ?_
      refine Xg.at_true (t := decide (((↑(pickN a.kd (8 : Nat)) : Int) = (2 : Int)))) (by kernel_rfl) (decide_eq_true (by omega)) ?_
      refine Xg.at_seq ?_
      refine Xg.at_seq ?_
      refine Xg.at_region ?_
      refine Xg.ops_op (by kernel_rfl) (Xg.opx_pure ((pv xb1 1)) rfl (fun _ => by kernel_rfl) ?_)
      refine Xg.ops_op (by kernel_rfl) (Xg.opx_load (b := xb1) (off := ((1 : Nat))) 2 (Value.slice x.la x.les.length x.lc) rfl (by kernel_rfl) (by kernel_rfl) (by kernel_rfl) ?_)
      refine Xg.ops_op (by kernel_rfl) (Xg.opx_pure ((iv (↑x.les.length : Int))) rfl (fun _ => by kernel_rfl) ?_)
      refine Xg.ops_op (by kernel_rfl) (Xg.opx_pure (.bool (decide ((((↑x.les.length : Int)) : Int) = ((0 : Int))))) rfl (fun _ => by kernel_rfl) ?_)
      refine Xg.ops_nil ?_
      refine Xg.at_true (t := decide (((↑x.les.length : Int) = (0 : Int)))) (by kernel_rfl) (decide_eq_true (by omega)) ?_
      refine Xg.at_seq ?_
      refine Xg.at_region ?_
      refine Xg.ops_op (by kernel_rfl) (Xg.opx_loadn (off := 0) 3 2 [iv (↑x.id : Int), Value.slice x.la x.les.length x.lc, Value.slice x.ba x.Z.length x.bc] (by kernel_rfl) rfl (by kernel_rfl) rfl (Xg.cells_at (by kernel_rfl)) (by kernel_rfl) ?_)
      refine Xg.ops_op (by kernel_rfl) (Xg.opx_storen 3 (off := 0) 0 [iv (↑x.id : Int), Value.slice x.la x.les.length x.lc, Value.slice x.ba x.Z.length x.bc] (by kernel_rfl) rfl (by kernel_rfl) (by kernel_rfl) rfl (by kernel_rfl) (Nat.le_of_ble_eq_true (by kernel_rfl)) ?_)
      refine Xg.ops_op (by kernel_rfl) (Xg.opx_pure ((Value.bool true)) rfl (fun _ => by kernel_rfl) ?_)
      refine Xg.ops_nil ?_
      refine Xg.at_ret_feed (v := (Value.tuple #[Value.agg #[iv (↑x.id : Int), Value.slice x.la x.les.length x.lc, Value.slice x.ba x.Z.length x.bc], Value.bool true])) [(Addr.mk xb3 (0 : Nat) none), (Addr.mk xb3 (1 : Nat) none), (Addr.mk xb3 (2 : Nat) none)] [iv (↑x.id : Int), Value.slice x.la x.les.length x.lc, Value.slice x.ba x.Z.length x.bc] [3] [A] Go.Proofs.Try.func25 (by kernel_rfl) (Xg.cells_cons (b := xb3) (off := 0) 0 rfl (by kernel_rfl) (Xg.cells_cons (b := xb3) (off := 1) 0 rfl (by kernel_rfl) (Xg.cells_cons (b := xb3) (off := 2) 0 rfl (by kernel_rfl) Xg.cells_nil))) (by kernel_rfl) (by kernel_rfl) ?_
      exact ⟨by kernel_rfl, by kernel_rfl⟩
      refine Xg.at_region ?_
      refine Xg.ops_op (by kernel_rfl) (Xg.opx_pure (.bool (decide ((((↑(pickN a.kd (8 : Nat)) : Int)) : Int) = ((3 : Int))))) rfl (fun _ => by kernel_rfl) ?_)
      refine Xg.ops_op (by kernel_rfl) (Xg.opx_pure ((Value.bool (decide ((↑(pickN a.kd (8 : Nat)) : Int) = (3 : Int))))) rfl (fun _ => by kernel_rfl) ?_)
      refine Xg.ops_nil ?_
      refine Xg.at_true (t := decide (((↑(pickN a.kd (8 : Nat)) : Int) = (3 : Int)))) (by kernel_rfl) (decide_eq_true (by omega)) ?_
      refine Xg.at_seq ?_
      refine Xg.at_seq ?_
      refine Xg.at_region ?_
      refine Xg.ops_op (by kernel_rfl) (Xg.opx_pure ((pv xb1 1)) rfl (fun _ => by kernel_rfl) ?_)
      refine Xg.ops_op (by kernel_rfl) (Xg.opx_load (b := xb1) (off := ((1 : Nat))) 2 (Value.slice x.la x.les.length x.lc) rfl (by kernel_rfl) (by kernel_rfl) (by kernel_rfl) ?_)
      refine Xg.ops_op (by kernel_rfl) (Xg.opx_pure ((iv (↑x.les.length : Int))) rfl (fun _ => by kernel_rfl) ?_)
      refine Xg.ops_op (by kernel_rfl) (Xg.opx_pure (.bool (decide ((((↑x.les.length : Int)) : Int) = ((0 : Int))))) rfl (fun _ => by kernel_rfl) ?_)
      refine Xg.ops_nil ?_
      refine Xg.at_true (t := decide (((↑x.les.length : Int) = (0 : Int)))) (by kernel_rfl) (decide_eq_true (by omega)) ?_
      refine Xg.at_seq ?_
      refine Xg.at_region ?_
      refine Xg.ops_op (by kernel_rfl) (Xg.opx_loadn (off := 0) 3 2 [iv (↑x.id : Int), Value.slice x.la x.les.length x.lc, Value.slice x.ba x.Z.length x.bc] (by kernel_rfl) rfl (by kernel_rfl) rfl (Xg.cells_at (by kernel_rfl)) (by kernel_rfl) ?_)
      refine Xg.ops_op (by kernel_rfl) (Xg.opx_storen 3 (off := 0) 0 [iv (↑x.id : Int), Value.slice x.la x.les.length x.lc, Value.slice x.ba x.Z.length x.bc] (by kernel_rfl) rfl (by kernel_rfl) (by kernel_rfl) rfl (by kernel_rfl) (Nat.le_of_ble_eq_true (by kernel_rfl)) ?_)
      refine Xg.ops_op (by kernel_rfl) (Xg.opx_pure ((Value.bool true)) rfl (fun _ => by kernel_rfl) ?_)
      refine Xg.ops_nil ?_
      refine Xg.at_ret_feed (v := (Value.tuple #[Value.agg #[iv (↑x.id : Int), Value.slice x.la x.les.length x.lc, Value.slice x.ba x.Z.length x.bc], Value.bool true])) [(Addr.mk xb3 (0 : Nat) none), (Addr.mk xb3 (1 : Nat) none), (Addr.mk xb3 (2 : Nat) none)] [iv (↑x.id : Int), Value.slice x.la x.les.length x.lc, Value.slice x.ba x.Z.length x.bc] [3] [A] Go.Proofs.Try.func25 (by kernel_rfl) (Xg.cells_cons (b := xb3) (off := 0) 0 rfl (by kernel_rfl) (Xg.cells_cons (b := xb3) (off := 1) 0 rfl (by kernel_rfl) (Xg.cells_cons (b := xb3) (off := 2) 0 rfl (by kernel_rfl) Xg.cells_nil))) (by kernel_rfl) (by kernel_rfl) ?_
      exact ⟨by kernel_rfl, by kernel_rfl⟩)
theorem acts_store (p : Nat) (σ : Po) (x : HdV) (a : Ac) (ha : Acok a) (q : Int) (hl5 : x.les.length ≤ 5000) (k : Nat) (hkk : k = kOf a x.les.length) (hl : k < x.les.length) (hZ : x.Z.length = x.les.length) (hk : 2 ≤ pickN a.kd 8 ∧ pickN a.kd 8 ≤ 3) (b : Nat) (l : List Int) (ad : Option Addr) (hb : (x.les.getD k default).1 = (b : Nat)) (hz : (x.les.getD k default).2.2 = (l.length : Nat)) (hl1 : 1 ≤ l.length) (hl6 : l.length ≤ 65536) (hzz : x.Z.getD k default = (ad, l)) (τ : Int → Po)
    (hst : ∀ (i : Nat) (bt : Int) (y : Nat), i < l.length → Does Try.prog 18 [.pointer (some ⟨p, 0, none⟩), .int .i64 (x.id : Nat), .int .i64 (b : Nat), .int .i64 (i : Nat), .slice (some ⟨y, 0, none⟩) 1 1] [PoolS p σ, row y 5 [.int .u8 bt]] (Ret (.int .i64 0) [PoolS p (storeσ σ b (l.set i bt)), row y 5 [.int .u8 bt]])) :
    Does Try.prog 25 [.pointer (some ⟨p, 0, none⟩), hdV x, acV a, .int .i64 q] [PoolS p σ, LeP x, BhP x, Y2 ad l.length l]
    (Ret (.tuple #[hdV x, .bool true]) [PoolS p (storeσ σ b (l.set (pickN a.ap l.length) (a.bt % 256))), LeP x, BhP x, Y2 ad l.length (l.set (pickN a.ap l.length) (a.bt % 256))]) := by
  obtain ⟨rfl, rfl⟩ : ad = (x.Z.getD k default).1 ∧ l = (x.Z.getD k default).2 := by rw [hzz]; exact ⟨rfl, rfl⟩
  clear hzz
  obtain ⟨a1, a2, a3, a4, a5, a6⟩ := id ha
  have hp8 := pick_r a.kd 8 a1 (by decide)
  have hpk := pick_r a.pk x.les.length a4 (by omega)
  have hpa := pick_r a.ap (x.Z.getD k default).2.length a5 (by omega)
  have hi := pickN_lt a.ap (x.Z.getD k default).2.length (by omega)
  have hst := fun bt y => hst (pickN a.ap (x.Z.getD k default).2.length) bt y hi
  have hkn : pickN a.pk x.les.length = k := by rw [hkk]; unfold kOf; rw [if_pos (by omega)]
  rw [hkn] at hpk
  rw [← hz] at hpa
  rw [← hb] at hst
  have hkZ : k < x.Z.length := by omega
  (focus
    refine Xg.spec_of Go.Proofs.Try.func25 rfl Go.Proofs.Try.ntmps25 fun g F => ?_)
  refine Xg.at_off 3 rfl hl1 fun hoff => ?_
  (focus
    refine Xg.at_seq ?_
    refine Xg.at_region ?_
    refine Xg.ops_op (by kernel_rfl) (Xg.opx_box (v := (Value.agg #[iv (↑x.id : Int), Value.slice x.la x.les.length x.lc, Value.slice x.ba x.Z.length x.bc])) [iv (↑x.id : Int), Value.slice x.la x.les.length x.lc, Value.slice x.ba x.Z.length x.bc] (by kernel_rfl) (by kernel_rfl) fun xb1 => ?_)
    refine Xg.ops_op (by kernel_rfl) (Xg.opx_box (v := (Value.agg #[iv a.kd, iv a.wh, iv a.sz, iv a.pk, iv a.ap, iv a.bt])) [iv a.kd, iv a.wh, iv a.sz, iv a.pk, iv a.ap, iv a.bt] (by kernel_rfl) (by kernel_rfl) fun xb2 => ?_)
    refine Xg.ops_op (by kernel_rfl) (Xg.opx_new 3 [iv 0, Value.slice none (0 : Nat) (0 : Nat), Value.slice none (0 : Nat) (0 : Nat)] (by kernel_rfl) (by kernel_rfl) fun xb3 => ?_)
    refine Xg.ops_op (by kernel_rfl) (Xg.opx_pure ((Value.bool false)) rfl (fun _ => by kernel_rfl) ?_)
    refine Xg.ops_nil ?_
    refine Xg.at_seq ?_
    refine Xg.at_region ?_
    refine Xg.ops_op (by kernel_rfl) (Xg.opx_pure ((iv 0)) rfl (fun _ => by kernel_rfl) ?_)
    refine Xg.ops_nil ?_
    refine Xg.at_seq ?_
    refine Xg.at_seq ?_
    refine Xg.at_region ?_
    refine Xg.ops_op (by kernel_rfl) (Xg.opx_pure ((pv xb1 1)) rfl (fun _ => by kernel_rfl) ?_)
    refine Xg.ops_op (by kernel_rfl) (Xg.opx_load (b := xb1) (off := ((1 : Nat))) 2 (Value.slice x.la x.les.length x.lc) rfl (by kernel_rfl) (by kernel_rfl) (by kernel_rfl) ?_)
    refine Xg.ops_op (by kernel_rfl) (Xg.opx_pure ((iv (↑x.les.length : Int))) rfl (fun _ => by kernel_rfl) ?_)
    refine Xg.ops_op (by kernel_rfl) (Xg.opx_pure (.bool (decide ((((↑x.les.length : Int)) : Int) > ((0 : Int))))) rfl (fun _ => by kernel_rfl) ?_)
    refine Xg.ops_nil ?_
    refine Xg.at_true (t := decide (((↑x.les.length : Int) > (0 : Int)))) (by kernel_rfl) (decide_eq_true (by omega)) ?_
    refine Xg.at_region ?_
    refine Xg.ops_op (by kernel_rfl) (Xg.opx_pure ((pv xb2 3)) rfl (fun _ => by kernel_rfl) ?_)
    refine Xg.ops_op (by kernel_rfl) (Xg.opx_load (b := xb2) (off := ((3 : Nat))) 1 (iv a.pk) rfl (by kernel_rfl) (by kernel_rfl) (by kernel_rfl) ?_)
    refine Xg.ops_op (by kernel_rfl) (Xg.opx_pure ((pv xb1 1)) rfl (fun _ => by kernel_rfl) ?_)
    refine Xg.ops_op (by kernel_rfl) (Xg.opx_load (b := xb1) (off := ((1 : Nat))) 2 (Value.slice x.la x.les.length x.lc) rfl (by kernel_rfl) (by kernel_rfl) (by kernel_rfl) ?_)
    refine Xg.ops_op (by kernel_rfl) (Xg.opx_pure ((iv (↑x.les.length : Int))) rfl (fun _ => by kernel_rfl) ?_)
    refine Xg.ops_op (by kernel_rfl) (Xg.opx_call1' [] [row xb3 (62 : Nat) [iv 0, Value.slice none (0 : Nat) (0 : Nat), Value.slice none (0 : Nat) (0 : Nat)], row xb2 (59 : Nat) [iv a.kd, iv a.wh, iv a.sz, iv a.pk, iv a.ap, iv a.bt], row xb1 (62 : Nat) [iv (↑x.id : Int), Value.slice x.la x.les.length x.lc, Value.slice x.ba x.Z.length x.bc], PoolS p σ, LeP x, BhP x, Y2 (x.Z.getD k default).fst (x.Z.getD k default).snd.length (x.Z.getD k default).snd] (fun _ => by kernel_rfl) (@hpk ) (by kernel_rfl) (by kernel_rfl) (by kernel_rfl) ?_)
    refine Xg.ops_op (by kernel_rfl) (Xg.opx_pure ((iv (↑k : Int))) rfl (fun _ => by kernel_rfl) ?_)
    refine Xg.ops_nil ?_
    refine Xg.at_seq ?_
    refine Xg.at_seq ?_
    refine Xg.at_region ?_
    refine Xg.ops_op (by kernel_rfl) (Xg.opx_pure ((pv xb2 0)) rfl (fun _ => by kernel_rfl) ?_)
    refine Xg.ops_op (by kernel_rfl) (Xg.opx_load (b := xb2) (off := ((0 : Nat))) 1 (iv a.kd) rfl (by kernel_rfl) (by kernel_rfl) (by kernel_rfl) ?_)
    refine Xg.ops_op (by kernel_rfl) (Xg.opx_call1' [] [row xb3 (62 : Nat) [iv 0, Value.slice none (0 : Nat) (0 : Nat), Value.slice none (0 : Nat) (0 : Nat)], row xb2 (59 : Nat) [iv a.kd, iv a.wh, iv a.sz, iv a.pk, iv a.ap, iv a.bt], row xb1 (62 : Nat) [iv (↑x.id : Int), Value.slice x.la x.les.length x.lc, Value.slice x.ba x.Z.length x.bc], PoolS p σ, LeP x, BhP x, Y2 (x.Z.getD k default).fst (x.Z.getD k default).snd.length (x.Z.getD k default).snd] (fun _ => by kernel_rfl) (@hp8 ) (by kernel_rfl) (by kernel_rfl) (by kernel_rfl) ?_)
    refine Xg.ops_nil ?_
    refine Xg.at_block ?_
    refine Xg.at_seq ?_
    refine Xg.at_seq ?_
    refine Xg.at_region ?_
    refine Xg.ops_op (by kernel_rfl) (Xg.opx_pure (.bool (decide ((((↑(pickN a.kd (8 : Nat)) : Int)) : Int) = ((0 : Int))))) rfl (fun _ => by kernel_rfl) ?_)
    refine Xg.ops_op (by kernel_rfl) (Xg.opx_pure ((Value.bool (decide ((↑(pickN a.kd (8 : Nat)) : Int) = (0 : Int))))) rfl (fun _ => by kernel_rfl) ?_)
    refine Xg.ops_nil ?_)
  (focus
    refine Xg.at_false (t := decide (((↑(pickN a.kd (8 : Nat)) : Int) = (0 : Int)))) (by kernel_rfl) (decide_eq_false (by omega)) ?_
    refine Xg.at_region ?_
    refine Xg.ops_op (by kernel_rfl) (Xg.opx_pure (.bool (decide ((((↑(pickN a.kd (8 : Nat)) : Int)) : Int) = ((1 : Int))))) rfl (fun _ => by kernel_rfl) ?_)
    refine Xg.ops_op (by kernel_rfl) (Xg.opx_pure ((Value.bool (decide ((↑(pickN a.kd (8 : Nat)) : Int) = (1 : Int))))) rfl (fun _ => by kernel_rfl) ?_)
    refine Xg.ops_nil ?_
    refine Xg.at_false (t := decide (((↑(pickN a.kd (8 : Nat)) : Int) = (1 : Int)))) (by kernel_rfl) (decide_eq_false (by omega)) ?_
    refine Xg.at_seq ?_
    refine Xg.at_seq ?_
    refine Xg.at_region ?_
    refine Xg.ops_op (by kernel_rfl) (Xg.opx_pure (.bool (decide ((((↑(pickN a.kd (8 : Nat)) : Int)) : Int) = ((2 : Int))))) rfl (fun _ => by kernel_rfl) ?_)
    refine Xg.ops_op (by kernel_rfl) (Xg.opx_pure ((Value.bool (decide ((↑(pickN a.kd (8 : Nat)) : Int) = (2 : Int))))) rfl (fun _ => by kernel_rfl) ?_)
    refine Xg.ops_nil ?_
    refine Xg.at_dec (p := ((↑(pickN a.kd (8 : Nat)) : Int) = (2 : Int))) (by kernel_rfl) (fun xh1 => ?_) (fun xh1 => ?_)
    refine Xg.at_skip ?_
    refine Xg.at_true (t := decide (((↑(pickN a.kd (8 : Nat)) : Int) = (2 : Int)))) (by kernel_rfl) (decide_eq_true (by omega)) ?_
    refine Xg.at_seq ?_
    refine Xg.at_seq ?_
    refine Xg.at_region ?_
    refine Xg.ops_op (by kernel_rfl) (Xg.opx_pure ((pv xb1 1)) rfl (fun _ => by kernel_rfl) ?_)
    refine Xg.ops_op (by kernel_rfl) (Xg.opx_load (b := xb1) (off := ((1 : Nat))) 2 (Value.slice x.la x.les.length x.lc) rfl (by kernel_rfl) (by kernel_rfl) (by kernel_rfl) ?_)
    refine Xg.ops_op (by kernel_rfl) (Xg.opx_pure ((iv (↑x.les.length : Int))) rfl (fun _ => by kernel_rfl) ?_)
    refine Xg.ops_op (by kernel_rfl) (Xg.opx_pure (.bool (decide ((((↑x.les.length : Int)) : Int) = ((0 : Int))))) rfl (fun _ => by kernel_rfl) ?_)
    refine Xg.ops_nil ?_
    refine Xg.at_false (t := decide (((↑x.les.length : Int) = (0 : Int)))) (by kernel_rfl) (decide_eq_false (by omega)) ?_
    refine Xg.at_skip ?_
    refine Xg.at_seq ?_
    refine Xg.at_draw [8] [(1, [0, 1, 2, 3, 4, 5, 6, 7], Xg.CellIs (xb2) (((4 : Nat))) ((iv a.ap))), (3, [0, 1, 2, 3, 4], Xg.CellIs (xb1) (((1 : Nat))) ((Value.slice x.la x.les.length x.lc))), (5, [0, 1, 2, 3, 4, 5], (RdIs (3 : Nat) (Value.slice x.la x.les.length x.lc) x.les.length (recs leK x.les))), (7, [0, 1, 2, 3, 4, 5, 6, 7], (RdIs (3 : Nat) (Value.slice x.la x.les.length x.lc) x.les.length (recs leK x.les)))] (by kernel_rfl) ?_
    refine Xg.any_pure ((pv xb2 4)) 0 (by kernel_rfl) rfl (by kernel_rfl) (by kernel_rfl) (by kernel_rfl) (by kernel_rfl) rfl (fun _ => by kernel_rfl) ?_
    refine Xg.any_reads (iv a.ap) 1 0 (by kernel_rfl) rfl (by kernel_rfl) (by kernel_rfl) (by kernel_rfl) (by kernel_rfl) rfl rfl (by kernel_rfl) (Xg.cell_now (b := xb2) (off := ((4 : Nat))) 1 rfl (by kernel_rfl)) (fun _ h => Xg.run_load (by kernel_rfl) (by kernel_rfl) h) ?_
    refine Xg.any_pure ((pv xb1 1)) 2 (by kernel_rfl) rfl (by kernel_rfl) (by kernel_rfl) (by kernel_rfl) (by kernel_rfl) rfl (fun _ => by kernel_rfl) ?_
    refine Xg.any_reads (Value.slice x.la x.les.length x.lc) 3 1 (by kernel_rfl) rfl (by kernel_rfl) (by kernel_rfl) (by kernel_rfl) (by kernel_rfl) rfl rfl (by kernel_rfl) (Xg.cell_now (b := xb1) (off := ((1 : Nat))) 2 rfl (by kernel_rfl)) (fun _ h => Xg.run_load (by kernel_rfl) (by kernel_rfl) h) ?_
    refine Xg.any_pure ((iv (↑k : Int))) 4 (by kernel_rfl) rfl (by kernel_rfl) (by kernel_rfl) (by kernel_rfl) (by kernel_rfl) rfl (fun _ => by kernel_rfl) ?_
    refine Xg.any_reads (.pointer (some (Addr.mk (Xg.blk x.la) (offA x.la + k * (3 : Nat)) none))) 5 2 (by kernel_rfl) rfl (by kernel_rfl) (by kernel_rfl) (by kernel_rfl) (by kernel_rfl) rfl rfl (by kernel_rfl) (Xg.rd_now 4 (Xg.reads_own (E := ((42 : Nat))) (sz := ((3 : Nat))) (n := x.les.length) (c := x.lc) (a := x.la) (vs := (recs leK x.les))) (by kernel_rfl)) (Xg.run_ix_rd (elem := 42) (kd := .i64) (e := ((↑k : Int))) 3 k (offA x.la + k * (3 : Nat)) (by kernel_rfl) (by kernel_rfl) (by kernel_rfl) (by kernel_rfl) rfl (by omega) (by rw [Xg.recs_len (wd := 3) (fun _ => rfl)]; omega) (by omega)) ?_
    refine Xg.any_pure ((Value.pointer (some (Addr.mk (blk x.la) (offA x.la + k * (3 : Nat) + (2 : Nat)) none)))) 6 (by kernel_rfl) rfl (by kernel_rfl) (by kernel_rfl) (by kernel_rfl) (by kernel_rfl) rfl (fun _ => by kernel_rfl) ?_
    refine Xg.any_reads (iv (x.les.getD k default).snd.snd) 7 3 (by kernel_rfl) rfl (by kernel_rfl) (by kernel_rfl) (by kernel_rfl) (by kernel_rfl) rfl rfl (by kernel_rfl) (Xg.rd_now 4 (Xg.reads_own (E := ((42 : Nat))) (sz := ((3 : Nat))) (n := x.les.length) (c := x.lc) (a := x.la) (vs := (recs leK x.les))) (by kernel_rfl)) (Xg.run_load_rd (off0 := (offA x.la + k * (3 : Nat) + (2 : Nat))) (k * (3 : Nat) + (2 : Nat)) (by kernel_rfl) (by omega) (Xg.get_recs' (wd := 3) (fun _ => rfl) default k 2 (by omega) (by decide) (by omega) (by kernel_rfl)) (by kernel_rfl)) ?_
    refine Xg.any_each [8] (by kernel_rfl) rfl ⟨?_, trivial⟩
    refine Xg.comes_act rfl (by kernel_rfl) (by kernel_rfl) (Xg.opx_call1' [] [row xb3 (62 : Nat) [iv 0, Value.slice none (0 : Nat) (0 : Nat), Value.slice none (0 : Nat) (0 : Nat)], row xb2 (59 : Nat) [iv a.kd, iv a.wh, iv a.sz, iv a.pk, iv a.ap, iv a.bt], row xb1 (62 : Nat) [iv (↑x.id : Int), Value.slice x.la x.les.length x.lc, Value.slice x.ba x.Z.length x.bc], PoolS p σ, LeP x, BhP x, Y2 (x.Z.getD k default).fst (x.Z.getD k default).snd.length (x.Z.getD k default).snd] (fun _ => by kernel_rfl) (@hpa ) (by kernel_rfl) (by kernel_rfl) (by kernel_rfl) ?_)
    refine Xg.acts (Xg.owes_skip (by kernel_rfl) (Xg.owes_skip (by kernel_rfl) (Xg.owes_skip (by kernel_rfl) (Xg.owes_skip (by kernel_rfl) Xg.owes_nil)))) ?_
    refine Xg.any_pure ((iv (↑(pickN a.ap (x.Z.getD k default).snd.length) : Int))) 9 (by kernel_rfl) rfl (by kernel_rfl) (by kernel_rfl) (by kernel_rfl) (by kernel_rfl) rfl (fun _ => by kernel_rfl) ?_
    refine Xg.any_nil (by kernel_rfl) ?_
    refine Xg.at_seq ?_
    refine Xg.at_draw [13, 14] [(2, [0, 1, 2, 3, 4, 5, 6, 7, 8, 9, 10, 11, 12, 13], Xg.CellIs (xb1) (((0 : Nat))) ((iv (↑x.id : Int)))), (4, [0, 1, 2, 3, 4, 5, 9, 10, 11, 12, 13], Xg.CellIs (xb1) (((1 : Nat))) ((Value.slice x.la x.les.length x.lc))), (6, [0, 1, 2, 3, 4, 5, 6, 9, 10, 11, 12, 13], (RdIs (3 : Nat) (Value.slice x.la x.les.length x.lc) x.les.length (recs leK x.les))), (8, [0, 1, 2, 3, 4, 5, 6, 7, 8, 9, 10, 11, 12, 13], (RdIs (3 : Nat) (Value.slice x.la x.les.length x.lc) x.les.length (recs leK x.les))), (11, [0, 1, 2, 3, 4, 5, 6, 7, 8, 9, 10, 11], Xg.CellIs (xb2) (((5 : Nat))) ((iv a.bt)))] (by kernel_rfl) ?_
    refine Xg.any_pure ((pv p 0)) 0 (by kernel_rfl) rfl (by kernel_rfl) (by kernel_rfl) (by kernel_rfl) (by kernel_rfl) rfl (fun _ => by kernel_rfl) ?_
    refine Xg.any_pure ((pv xb1 0)) 1 (by kernel_rfl) rfl (by kernel_rfl) (by kernel_rfl) (by kernel_rfl) (by kernel_rfl) rfl (fun _ => by kernel_rfl) ?_
    refine Xg.any_reads (iv (↑x.id : Int)) 2 0 (by kernel_rfl) rfl (by kernel_rfl) (by kernel_rfl) (by kernel_rfl) (by kernel_rfl) rfl rfl (by kernel_rfl) (Xg.cell_now (b := xb1) (off := ((0 : Nat))) 2 rfl (by kernel_rfl)) (fun _ h => Xg.run_load (by kernel_rfl) (by kernel_rfl) h) ?_
    refine Xg.any_pure ((pv xb1 1)) 3 (by kernel_rfl) rfl (by kernel_rfl) (by kernel_rfl) (by kernel_rfl) (by kernel_rfl) rfl (fun _ => by kernel_rfl) ?_
    refine Xg.any_reads (Value.slice x.la x.les.length x.lc) 4 1 (by kernel_rfl) rfl (by kernel_rfl) (by kernel_rfl) (by kernel_rfl) (by kernel_rfl) rfl rfl (by kernel_rfl) (Xg.cell_now (b := xb1) (off := ((1 : Nat))) 2 rfl (by kernel_rfl)) (fun _ h => Xg.run_load (by kernel_rfl) (by kernel_rfl) h) ?_
    refine Xg.any_pure ((iv (↑k : Int))) 5 (by kernel_rfl) rfl (by kernel_rfl) (by kernel_rfl) (by kernel_rfl) (by kernel_rfl) rfl (fun _ => by kernel_rfl) ?_
    refine Xg.any_reads (.pointer (some (Addr.mk (Xg.blk x.la) (offA x.la + k * (3 : Nat)) none))) 6 2 (by kernel_rfl) rfl (by kernel_rfl) (by kernel_rfl) (by kernel_rfl) (by kernel_rfl) rfl rfl (by kernel_rfl) (Xg.rd_now 4 (Xg.reads_own (E := ((42 : Nat))) (sz := ((3 : Nat))) (n := x.les.length) (c := x.lc) (a := x.la) (vs := (recs leK x.les))) (by kernel_rfl)) (Xg.run_ix_rd (elem := 42) (kd := .i64) (e := ((↑k : Int))) 3 k (offA x.la + k * (3 : Nat)) (by kernel_rfl) (by kernel_rfl) (by kernel_rfl) (by kernel_rfl) rfl (by omega) (by rw [Xg.recs_len (wd := 3) (fun _ => rfl)]; omega) (by omega)) ?_
    refine Xg.any_pure ((Value.pointer (some (Addr.mk (blk x.la) (offA x.la + k * (3 : Nat)) none)))) 7 (by kernel_rfl) rfl (by kernel_rfl) (by kernel_rfl) (by kernel_rfl) (by kernel_rfl) rfl (fun _ => by kernel_rfl) ?_
    refine Xg.any_reads (iv (x.les.getD k default).fst) 8 3 (by kernel_rfl) rfl (by kernel_rfl) (by kernel_rfl) (by kernel_rfl) (by kernel_rfl) rfl rfl (by kernel_rfl) (Xg.rd_now 4 (Xg.reads_own (E := ((42 : Nat))) (sz := ((3 : Nat))) (n := x.les.length) (c := x.lc) (a := x.la) (vs := (recs leK x.les))) (by kernel_rfl)) (Xg.run_load_rd (off0 := (offA x.la + k * (3 : Nat))) (k * (3 : Nat)) (by kernel_rfl) (by omega) (Xg.get_recs' (wd := 3) (fun _ => rfl) default k 0 (by omega) (by decide) (by omega) (by kernel_rfl)) (by kernel_rfl)) ?_
    refine Xg.any_pure ((iv (↑(pickN a.ap (x.Z.getD k default).snd.length) : Int))) 9 (by kernel_rfl) rfl (by kernel_rfl) (by kernel_rfl) (by kernel_rfl) (by kernel_rfl) rfl (fun _ => by kernel_rfl) ?_
    refine Xg.any_pure ((pv xb2 5)) 10 (by kernel_rfl) rfl (by kernel_rfl) (by kernel_rfl) (by kernel_rfl) (by kernel_rfl) rfl (fun _ => by kernel_rfl) ?_
    refine Xg.any_reads (iv a.bt) 11 4 (by kernel_rfl) rfl (by kernel_rfl) (by kernel_rfl) (by kernel_rfl) (by kernel_rfl) rfl rfl (by kernel_rfl) (Xg.cell_now (b := xb2) (off := ((5 : Nat))) 1 rfl (by kernel_rfl)) (fun _ h => Xg.run_load (by kernel_rfl) (by kernel_rfl) h) ?_
    refine Xg.any_int .u8 (IntKind.wrap .u8 (a.bt)) 12 (by kernel_rfl) rfl (by kernel_rfl) (by kernel_rfl) (by kernel_rfl) (by kernel_rfl) rfl (fun _ => by kernel_rfl) (Xg.wrap_u8_mod _) ?_
    refine Xg.any_each [13] (by kernel_rfl) rfl ⟨?_, trivial⟩
    refine Xg.comes_act rfl (by kernel_rfl) (by kernel_rfl) (Xg.opx_bs (elem := 5) 1 [uv (a.bt % (256 : Int))] [uv (a.bt % (256 : Int))] (by kernel_rfl) (by kernel_rfl) (by decide) rfl (by kernel_rfl) (by kernel_rfl) (by kernel_rfl) (by kernel_rfl) fun xb4 => ?_)
    refine Xg.acts (Xg.owes_cell 3 rfl (by kernel_rfl) (Xg.owes_cell 3 rfl (by kernel_rfl) (Xg.owes_rd 5 (Xg.reads_own (E := ((42 : Nat))) (sz := ((3 : Nat))) (n := x.les.length) (c := x.lc) (a := x.la) (vs := (recs leK x.les))) (by kernel_rfl) (Xg.owes_rd 5 (Xg.reads_own (E := ((42 : Nat))) (sz := ((3 : Nat))) (n := x.les.length) (c := x.lc) (a := x.la) (vs := (recs leK x.les))) (by kernel_rfl) (Xg.owes_skip (by kernel_rfl) Xg.owes_nil))))) ?_
    refine Xg.any_each [14] (by kernel_rfl) rfl ⟨?_, trivial⟩
    refine Xg.comes_act rfl (by kernel_rfl) (by kernel_rfl) (Xg.opx_call1' [4, 0] [PoolS p (storeσ σ b ((x.Z.getD k default).snd.set (pickN a.ap (x.Z.getD k default).snd.length) (a.bt % (256 : Int)))), row xb4 (5 : TypeId) [uv (a.bt % (256 : Int))], row xb3 (62 : Nat) [iv 0, Value.slice none (0 : Nat) (0 : Nat), Value.slice none (0 : Nat) (0 : Nat)], row xb2 (59 : Nat) [iv a.kd, iv a.wh, iv a.sz, iv a.pk, iv a.ap, iv a.bt], row xb1 (62 : Nat) [iv (↑x.id : Int), Value.slice x.la x.les.length x.lc, Value.slice x.ba x.Z.length x.bc], LeP x, BhP x, Y2 (x.Z.getD k default).fst (x.Z.getD k default).snd.length (x.Z.getD k default).snd] (fun _ => by kernel_rfl) (@hst ((a.bt % (256 : Int))) (xb4)) (by kernel_rfl) (by kernel_rfl) (by kernel_rfl) ?_)
    refine Xg.acts (Xg.owes_skip (by kernel_rfl) (Xg.owes_skip (by kernel_rfl) (Xg.owes_skip (by kernel_rfl) (Xg.owes_skip (by kernel_rfl) (Xg.owes_skip (by kernel_rfl) Xg.owes_nil))))) ?_
    refine Xg.any_pure ((iv 0)) 15 (by kernel_rfl) rfl (by kernel_rfl) (by kernel_rfl) (by kernel_rfl) (by kernel_rfl) rfl (fun _ => by kernel_rfl) ?_
    refine Xg.any_nil (by kernel_rfl) ?_
    refine Xg.at_seq ?_
    refine Xg.at_draw [10] [(1, [0, 1, 2, 5, 6, 7, 8], Xg.CellIs (xb1) (((2 : Nat))) ((Value.slice x.ba x.Z.length x.bc))), (3, [0, 1, 2, 3, 5, 6, 7, 8], (RdIs (1 : Nat) (Value.slice x.ba x.Z.length x.bc) x.Z.length (recs bhK x.Z))), (4, [0, 1, 2, 3, 4, 5, 6, 7, 8], (RdIs (1 : Nat) (Value.slice x.ba x.Z.length x.bc) x.Z.length (recs bhK x.Z))), (7, [0, 1, 2, 3, 4, 5, 6, 7], Xg.CellIs (xb2) (((5 : Nat))) ((iv a.bt))), (9, [0, 1, 2, 3, 4, 5, 6, 7, 8, 9], (RdIs (1 : Nat) (Value.slice (x.Z.getD k default).fst (x.Z.getD k default).snd.length (x.Z.getD k default).snd.length) (x.Z.getD k default).snd.length (List.map (Value.int IntKind.u8) (x.Z.getD k default).snd)))] (by kernel_rfl) ?_
    refine Xg.any_pure ((pv xb1 2)) 0 (by kernel_rfl) rfl (by kernel_rfl) (by kernel_rfl) (by kernel_rfl) (by kernel_rfl) rfl (fun _ => by kernel_rfl) ?_
    refine Xg.any_reads (Value.slice x.ba x.Z.length x.bc) 1 0 (by kernel_rfl) rfl (by kernel_rfl) (by kernel_rfl) (by kernel_rfl) (by kernel_rfl) rfl rfl (by kernel_rfl) (Xg.cell_now (b := xb1) (off := ((2 : Nat))) 4 rfl (by kernel_rfl)) (fun _ h => Xg.run_load (by kernel_rfl) (by kernel_rfl) h) ?_
    refine Xg.any_pure ((iv (↑k : Int))) 2 (by kernel_rfl) rfl (by kernel_rfl) (by kernel_rfl) (by kernel_rfl) (by kernel_rfl) rfl (fun _ => by kernel_rfl) ?_
    refine Xg.any_reads (.pointer (some (Addr.mk (Xg.blk x.ba) (offA x.ba + k) none))) 3 1 (by kernel_rfl) rfl (by kernel_rfl) (by kernel_rfl) (by kernel_rfl) (by kernel_rfl) rfl rfl (by kernel_rfl) (Xg.rd_now 6 (Xg.reads_own (E := ((40 : Nat))) (sz := ((1 : Nat))) (n := x.Z.length) (c := x.bc) (a := x.ba) (vs := (recs bhK x.Z))) (by kernel_rfl)) (Xg.run_ix_rd (elem := 40) (kd := .i64) (e := ((↑k : Int))) 1 k (offA x.ba + k) (by kernel_rfl) (by kernel_rfl) (by kernel_rfl) (by kernel_rfl) rfl (by omega) (by rw [Xg.recs_len (wd := 1) (fun _ => rfl)]; omega) (by omega)) ?_
    refine Xg.any_reads (Value.slice (x.Z.getD k default).fst (x.Z.getD k default).snd.length (x.Z.getD k default).snd.length) 4 2 (by kernel_rfl) rfl (by kernel_rfl) (by kernel_rfl) (by kernel_rfl) (by kernel_rfl) rfl rfl (by kernel_rfl) (Xg.rd_now 6 (Xg.reads_own (E := ((40 : Nat))) (sz := ((1 : Nat))) (n := x.Z.length) (c := x.bc) (a := x.ba) (vs := (recs bhK x.Z))) (by kernel_rfl)) (Xg.run_load_rd (off0 := (offA x.ba + k)) k (by kernel_rfl) (by omega) (Xg.get_recs' (wd := 1) (fun _ => rfl) default k 0 (by omega) (by decide) (by omega) (by kernel_rfl)) (by kernel_rfl)) ?_
    refine Xg.any_pure ((iv (↑(pickN a.ap (x.Z.getD k default).snd.length) : Int))) 5 (by kernel_rfl) rfl (by kernel_rfl) (by kernel_rfl) (by kernel_rfl) (by kernel_rfl) rfl (fun _ => by kernel_rfl) ?_
    refine Xg.any_pure ((pv xb2 5)) 6 (by kernel_rfl) rfl (by kernel_rfl) (by kernel_rfl) (by kernel_rfl) (by kernel_rfl) rfl (fun _ => by kernel_rfl) ?_
    refine Xg.any_reads (iv a.bt) 7 3 (by kernel_rfl) rfl (by kernel_rfl) (by kernel_rfl) (by kernel_rfl) (by kernel_rfl) rfl rfl (by kernel_rfl) (Xg.cell_now (b := xb2) (off := ((5 : Nat))) 3 rfl (by kernel_rfl)) (fun _ h => Xg.run_load (by kernel_rfl) (by kernel_rfl) h) ?_
    refine Xg.any_int .u8 (IntKind.wrap .u8 (a.bt)) 8 (by kernel_rfl) rfl (by kernel_rfl) (by kernel_rfl) (by kernel_rfl) (by kernel_rfl) rfl (fun _ => by kernel_rfl) (Xg.wrap_u8_mod _) ?_
    refine Xg.any_reads (.pointer (some (Addr.mk (Xg.blk ((x.Z.getD k default).fst)) (offA (x.Z.getD k default).fst + pickN a.ap (x.Z.getD k default).snd.length) none))) 9 4 (by kernel_rfl) rfl (by kernel_rfl) (by kernel_rfl) (by kernel_rfl) (by kernel_rfl) rfl rfl (by kernel_rfl) (Xg.rd_now 7 (Xg.reads_own (E := ((5 : TypeId))) (sz := ((1 : Nat))) (n := ((x.Z.getD k default).snd.length)) (c := ((x.Z.getD k default).snd.length)) (a := ((x.Z.getD k default).fst)) (vs := (List.map (Value.int IntKind.u8) (x.Z.getD k default).snd))) (by kernel_rfl)) (Xg.run_ix_rd (elem := 5) (kd := .i64) (e := ((↑(pickN a.ap (x.Z.getD k default).snd.length) : Int))) 1 (pickN a.ap (x.Z.getD k default).snd.length) (offA (x.Z.getD k default).fst + pickN a.ap (x.Z.getD k default).snd.length) (by kernel_rfl) (by kernel_rfl) (by kernel_rfl) (by kernel_rfl) rfl (by omega) (by simp only [List.length_map]; omega) (by omega)) ?_
    refine Xg.any_each [10] (by kernel_rfl) rfl ⟨?_, trivial⟩
    refine Xg.comes_act rfl (by kernel_rfl) (by kernel_rfl) (Xg.opx_store_own_i (a := ((x.Z.getD k default).fst)) (off := (offA (x.Z.getD k default).fst + pickN a.ap (x.Z.getD k default).snd.length)) (kd := .u8) (xs := ((x.Z.getD k default).snd)) (e := (a.bt % (256 : Int))) 7 (by kernel_rfl) rfl (by kernel_rfl) (by kernel_rfl) (by first | omega | (simp only [List.length_set]; omega)) ?_)
    refine Xg.acts (Xg.owes_skip (by kernel_rfl) (Xg.owes_skip (by kernel_rfl) (Xg.owes_skip (by kernel_rfl) (Xg.owes_skip (by kernel_rfl) (Xg.owes_skip (by kernel_rfl) Xg.owes_nil))))) ?_
    refine Xg.any_nil (by kernel_rfl) ?_
    refine Xg.at_seq ?_
    refine Xg.at_region ?_
    refine Xg.ops_op (by kernel_rfl) (Xg.opx_loadn (off := 0) 3 4 [iv (↑x.id : Int), Value.slice x.la x.les.length x.lc, Value.slice x.ba x.Z.length x.bc] (by kernel_rfl) rfl (by kernel_rfl) rfl (Xg.cells_at (by kernel_rfl)) (by kernel_rfl) ?_)
    refine Xg.ops_op (by kernel_rfl) (Xg.opx_pure ((iv 0)) rfl (fun _ => by kernel_rfl) ?_)
    refine Xg.ops_op (by kernel_rfl) (Xg.opx_pure ((Value.bool true)) rfl (fun _ => by kernel_rfl) ?_)
    refine Xg.ops_op (by kernel_rfl) (Xg.opx_storen 3 (off := 0) 2 [iv (↑x.id : Int), Value.slice x.la x.les.length x.lc, Value.slice x.ba x.Z.length x.bc] (by kernel_rfl) rfl (by kernel_rfl) (by kernel_rfl) rfl (by kernel_rfl) (Nat.le_of_ble_eq_true (by kernel_rfl)) ?_)
    refine Xg.ops_op (by kernel_rfl) (Xg.opx_pure ((Value.bool true)) rfl (fun _ => by kernel_rfl) ?_)
    refine Xg.ops_nil ?_
    refine Xg.at_ret_feed (v := (Value.tuple #[Value.agg #[iv (↑x.id : Int), Value.slice x.la x.les.length x.lc, Value.slice x.ba x.Z.length x.bc], Value.bool true])) [(Addr.mk xb3 (0 : Nat) none), (Addr.mk xb3 (1 : Nat) none), (Addr.mk xb3 (2 : Nat) none)] [iv (↑x.id : Int), Value.slice x.la x.les.length x.lc, Value.slice x.ba x.Z.length x.bc] [0, 5, 6, 7] [PoolS p (storeσ σ b ((x.Z.getD k default).snd.set (pickN a.ap (x.Z.getD k default).snd.length) (a.bt % (256 : Int)))), LeP x, BhP x, ownS (5 : TypeId) (1 : Nat) (Value.slice (x.Z.getD k default).fst (x.Z.getD k default).snd.length (x.Z.getD k default).snd.length) (x.Z.getD k default).snd.length (List.map (Value.int IntKind.u8) ((x.Z.getD k default).snd.set (offA (x.Z.getD k default).fst + pickN a.ap (x.Z.getD k default).snd.length) (a.bt % (256 : Int))))] Go.Proofs.Try.func25 (by kernel_rfl) (Xg.cells_cons (b := xb3) (off := 0) 2 rfl (by kernel_rfl) (Xg.cells_cons (b := xb3) (off := 1) 2 rfl (by kernel_rfl) (Xg.cells_cons (b := xb3) (off := 2) 2 rfl (by kernel_rfl) Xg.cells_nil))) (by kernel_rfl) (by kernel_rfl) ?_
    rotate_left
    refine Xg.at_region ?_
    refine Xg.ops_op (by kernel_rfl) (Xg.opx_pure (.bool (decide ((((↑(pickN a.kd (8 : Nat)) : Int)) : Int) = ((3 : Int))))) rfl (fun _ => by kernel_rfl) ?_)
    refine Xg.ops_op (by kernel_rfl) (Xg.opx_pure ((Value.bool (decide ((↑(pickN a.kd (8 : Nat)) : Int) = (3 : Int))))) rfl (fun _ => by kernel_rfl) ?_)
    refine Xg.ops_nil ?_
    refine Xg.at_true (t := decide (((↑(pickN a.kd (8 : Nat)) : Int) = (3 : Int)))) (by kernel_rfl) (decide_eq_true (by omega)) ?_
    refine Xg.at_seq ?_
    refine Xg.at_seq ?_
    refine Xg.at_region ?_
    refine Xg.ops_op (by kernel_rfl) (Xg.opx_pure ((pv xb1 1)) rfl (fun _ => by kernel_rfl) ?_)
    refine Xg.ops_op (by kernel_rfl) (Xg.opx_load (b := xb1) (off := ((1 : Nat))) 2 (Value.slice x.la x.les.length x.lc) rfl (by kernel_rfl) (by kernel_rfl) (by kernel_rfl) ?_)
    refine Xg.ops_op (by kernel_rfl) (Xg.opx_pure ((iv (↑x.les.length : Int))) rfl (fun _ => by kernel_rfl) ?_)
    refine Xg.ops_op (by kernel_rfl) (Xg.opx_pure (.bool (decide ((((↑x.les.length : Int)) : Int) = ((0 : Int))))) rfl (fun _ => by kernel_rfl) ?_)
    refine Xg.ops_nil ?_
    refine Xg.at_false (t := decide (((↑x.les.length : Int) = (0 : Int)))) (by kernel_rfl) (decide_eq_false (by omega)) ?_
    refine Xg.at_skip ?_
    refine Xg.at_seq ?_
    refine Xg.at_draw [8] [(1, [0, 1, 2, 3, 4, 5, 6, 7], Xg.CellIs (xb2) (((4 : Nat))) ((iv a.ap))), (3, [0, 1, 2, 3, 4], Xg.CellIs (xb1) (((1 : Nat))) ((Value.slice x.la x.les.length x.lc))), (5, [0, 1, 2, 3, 4, 5], (RdIs (3 : Nat) (Value.slice x.la x.les.length x.lc) x.les.length (recs leK x.les))), (7, [0, 1, 2, 3, 4, 5, 6, 7], (RdIs (3 : Nat) (Value.slice x.la x.les.length x.lc) x.les.length (recs leK x.les)))] (by kernel_rfl) ?_
    refine Xg.any_pure ((pv xb2 4)) 0 (by kernel_rfl) rfl (by kernel_rfl) (by kernel_rfl) (by kernel_rfl) (by kernel_rfl) rfl (fun _ => by kernel_rfl) ?_
    refine Xg.any_reads (iv a.ap) 1 0 (by kernel_rfl) rfl (by kernel_rfl) (by kernel_rfl) (by kernel_rfl) (by kernel_rfl) rfl rfl (by kernel_rfl) (Xg.cell_now (b := xb2) (off := ((4 : Nat))) 1 rfl (by kernel_rfl)) (fun _ h => Xg.run_load (by kernel_rfl) (by kernel_rfl) h) ?_
    refine Xg.any_pure ((pv xb1 1)) 2 (by kernel_rfl) rfl (by kernel_rfl) (by kernel_rfl) (by kernel_rfl) (by kernel_rfl) rfl (fun _ => by kernel_rfl) ?_
    refine Xg.any_reads (Value.slice x.la x.les.length x.lc) 3 1 (by kernel_rfl) rfl (by kernel_rfl) (by kernel_rfl) (by kernel_rfl) (by kernel_rfl) rfl rfl (by kernel_rfl) (Xg.cell_now (b := xb1) (off := ((1 : Nat))) 2 rfl (by kernel_rfl)) (fun _ h => Xg.run_load (by kernel_rfl) (by kernel_rfl) h) ?_
    refine Xg.any_pure ((iv (↑k : Int))) 4 (by kernel_rfl) rfl (by kernel_rfl) (by kernel_rfl) (by kernel_rfl) (by kernel_rfl) rfl (fun _ => by kernel_rfl) ?_
    refine Xg.any_reads (.pointer (some (Addr.mk (Xg.blk x.la) (offA x.la + k * (3 : Nat)) none))) 5 2 (by kernel_rfl) rfl (by kernel_rfl) (by kernel_rfl) (by kernel_rfl) (by kernel_rfl) rfl rfl (by kernel_rfl) (Xg.rd_now 4 (Xg.reads_own (E := ((42 : Nat))) (sz := ((3 : Nat))) (n := x.les.length) (c := x.lc) (a := x.la) (vs := (recs leK x.les))) (by kernel_rfl)) (Xg.run_ix_rd (elem := 42) (kd := .i64) (e := ((↑k : Int))) 3 k (offA x.la + k * (3 : Nat)) (by kernel_rfl) (by kernel_rfl) (by kernel_rfl) (by kernel_rfl) rfl (by omega) (by rw [Xg.recs_len (wd := 3) (fun _ => rfl)]; omega) (by omega)) ?_
    refine Xg.any_pure ((Value.pointer (some (Addr.mk (blk x.la) (offA x.la + k * (3 : Nat) + (2 : Nat)) none)))) 6 (by kernel_rfl) rfl (by kernel_rfl) (by kernel_rfl) (by kernel_rfl) (by kernel_rfl) rfl (fun _ => by kernel_rfl) ?_
    refine Xg.any_reads (iv (x.les.getD k default).snd.snd) 7 3 (by kernel_rfl) rfl (by kernel_rfl) (by kernel_rfl) (by kernel_rfl) (by kernel_rfl) rfl rfl (by kernel_rfl) (Xg.rd_now 4 (Xg.reads_own (E := ((42 : Nat))) (sz := ((3 : Nat))) (n := x.les.length) (c := x.lc) (a := x.la) (vs := (recs leK x.les))) (by kernel_rfl)) (Xg.run_load_rd (off0 := (offA x.la + k * (3 : Nat) + (2 : Nat))) (k * (3 : Nat) + (2 : Nat)) (by kernel_rfl) (by omega) (Xg.get_recs' (wd := 3) (fun _ => rfl) default k 2 (by omega) (by decide) (by omega) (by kernel_rfl)) (by kernel_rfl)) ?_
    refine Xg.any_each [8] (by kernel_rfl) rfl ⟨?_, trivial⟩
    refine Xg.comes_act rfl (by kernel_rfl) (by kernel_rfl) (Xg.opx_call1' [] [row xb3 (62 : Nat) [iv 0, Value.slice none (0 : Nat) (0 : Nat), Value.slice none (0 : Nat) (0 : Nat)], row xb2 (59 : Nat) [iv a.kd, iv a.wh, iv a.sz, iv a.pk, iv a.ap, iv a.bt], row xb1 (62 : Nat) [iv (↑x.id : Int), Value.slice x.la x.les.length x.lc, Value.slice x.ba x.Z.length x.bc], PoolS p σ, LeP x, BhP x, Y2 (x.Z.getD k default).fst (x.Z.getD k default).snd.length (x.Z.getD k default).snd] (fun _ => by kernel_rfl) (@hpa ) (by kernel_rfl) (by kernel_rfl) (by kernel_rfl) ?_)
    refine Xg.acts (Xg.owes_skip (by kernel_rfl) (Xg.owes_skip (by kernel_rfl) (Xg.owes_skip (by kernel_rfl) (Xg.owes_skip (by kernel_rfl) Xg.owes_nil)))) ?_
    refine Xg.any_pure ((iv (↑(pickN a.ap (x.Z.getD k default).snd.length) : Int))) 9 (by kernel_rfl) rfl (by kernel_rfl) (by kernel_rfl) (by kernel_rfl) (by kernel_rfl) rfl (fun _ => by kernel_rfl) ?_
    refine Xg.any_nil (by kernel_rfl) ?_
    refine Xg.at_seq ?_
    refine Xg.at_draw [13, 14] [(2, [0, 1, 2, 3, 4, 5, 6, 7, 8, 9, 10, 11, 12, 13], Xg.CellIs (xb1) (((0 : Nat))) ((iv (↑x.id : Int)))), (4, [0, 1, 2, 3, 4, 5, 9, 10, 11, 12, 13], Xg.CellIs (xb1) (((1 : Nat))) ((Value.slice x.la x.les.length x.lc))), (6, [0, 1, 2, 3, 4, 5, 6, 9, 10, 11, 12, 13], (RdIs (3 : Nat) (Value.slice x.la x.les.length x.lc) x.les.length (recs leK x.les))), (8, [0, 1, 2, 3, 4, 5, 6, 7, 8, 9, 10, 11, 12, 13], (RdIs (3 : Nat) (Value.slice x.la x.les.length x.lc) x.les.length (recs leK x.les))), (11, [0, 1, 2, 3, 4, 5, 6, 7, 8, 9, 10, 11], Xg.CellIs (xb2) (((5 : Nat))) ((iv a.bt)))] (by kernel_rfl) ?_
    refine Xg.any_pure ((pv p 0)) 0 (by kernel_rfl) rfl (by kernel_rfl) (by kernel_rfl) (by kernel_rfl) (by kernel_rfl) rfl (fun _ => by kernel_rfl) ?_
    refine Xg.any_pure ((pv xb1 0)) 1 (by kernel_rfl) rfl (by kernel_rfl) (by kernel_rfl) (by kernel_rfl) (by kernel_rfl) rfl (fun _ => by kernel_rfl) ?_
    refine Xg.any_reads (iv (↑x.id : Int)) 2 0 (by kernel_rfl) rfl (by kernel_rfl) (by kernel_rfl) (by kernel_rfl) (by kernel_rfl) rfl rfl (by kernel_rfl) (Xg.cell_now (b := xb1) (off := ((0 : Nat))) 2 rfl (by kernel_rfl)) (fun _ h => Xg.run_load (by kernel_rfl) (by kernel_rfl) h) ?_
    refine Xg.any_pure ((pv xb1 1)) 3 (by kernel_rfl) rfl (by kernel_rfl) (by kernel_rfl) (by kernel_rfl) (by kernel_rfl) rfl (fun _ => by kernel_rfl) ?_
    refine Xg.any_reads (Value.slice x.la x.les.length x.lc) 4 1 (by kernel_rfl) rfl (by kernel_rfl) (by kernel_rfl) (by kernel_rfl) (by kernel_rfl) rfl rfl (by kernel_rfl) (Xg.cell_now (b := xb1) (off := ((1 : Nat))) 2 rfl (by kernel_rfl)) (fun _ h => Xg.run_load (by kernel_rfl) (by kernel_rfl) h) ?_
    refine Xg.any_pure ((iv (↑k : Int))) 5 (by kernel_rfl) rfl (by kernel_rfl) (by kernel_rfl) (by kernel_rfl) (by kernel_rfl) rfl (fun _ => by kernel_rfl) ?_
    refine Xg.any_reads (.pointer (some (Addr.mk (Xg.blk x.la) (offA x.la + k * (3 : Nat)) none))) 6 2 (by kernel_rfl) rfl (by kernel_rfl) (by kernel_rfl) (by kernel_rfl) (by kernel_rfl) rfl rfl (by kernel_rfl) (Xg.rd_now 4 (Xg.reads_own (E := ((42 : Nat))) (sz := ((3 : Nat))) (n := x.les.length) (c := x.lc) (a := x.la) (vs := (recs leK x.les))) (by kernel_rfl)) (Xg.run_ix_rd (elem := 42) (kd := .i64) (e := ((↑k : Int))) 3 k (offA x.la + k * (3 : Nat)) (by kernel_rfl) (by kernel_rfl) (by kernel_rfl) (by kernel_rfl) rfl (by omega) (by rw [Xg.recs_len (wd := 3) (fun _ => rfl)]; omega) (by omega)) ?_
    refine Xg.any_pure ((Value.pointer (some (Addr.mk (blk x.la) (offA x.la + k * (3 : Nat)) none)))) 7 (by kernel_rfl) rfl (by kernel_rfl) (by kernel_rfl) (by kernel_rfl) (by kernel_rfl) rfl (fun _ => by kernel_rfl) ?_
    refine Xg.any_reads (iv (x.les.getD k default).fst) 8 3 (by kernel_rfl) rfl (by kernel_rfl) (by kernel_rfl) (by kernel_rfl) (by kernel_rfl) rfl rfl (by kernel_rfl) (Xg.rd_now 4 (Xg.reads_own (E := ((42 : Nat))) (sz := ((3 : Nat))) (n := x.les.length) (c := x.lc) (a := x.la) (vs := (recs leK x.les))) (by kernel_rfl)) (Xg.run_load_rd (off0 := (offA x.la + k * (3 : Nat))) (k * (3 : Nat)) (by kernel_rfl) (by omega) (Xg.get_recs' (wd := 3) (fun _ => rfl) default k 0 (by omega) (by decide) (by omega) (by kernel_rfl)) (by kernel_rfl)) ?_
    refine Xg.any_pure ((iv (↑(pickN a.ap (x.Z.getD k default).snd.length) : Int))) 9 (by kernel_rfl) rfl (by kernel_rfl) (by kernel_rfl) (by kernel_rfl) (by kernel_rfl) rfl (fun _ => by kernel_rfl) ?_
    refine Xg.any_pure ((pv xb2 5)) 10 (by kernel_rfl) rfl (by kernel_rfl) (by kernel_rfl) (by kernel_rfl) (by kernel_rfl) rfl (fun _ => by kernel_rfl) ?_
    refine Xg.any_reads (iv a.bt) 11 4 (by kernel_rfl) rfl (by kernel_rfl) (by kernel_rfl) (by kernel_rfl) (by kernel_rfl) rfl rfl (by kernel_rfl) (Xg.cell_now (b := xb2) (off := ((5 : Nat))) 1 rfl (by kernel_rfl)) (fun _ h => Xg.run_load (by kernel_rfl) (by kernel_rfl) h) ?_
    refine Xg.any_int .u8 (IntKind.wrap .u8 (a.bt)) 12 (by kernel_rfl) rfl (by kernel_rfl) (by kernel_rfl) (by kernel_rfl) (by kernel_rfl) rfl (fun _ => by kernel_rfl) (Xg.wrap_u8_mod _) ?_
    refine Xg.any_each [13] (by kernel_rfl) rfl ⟨?_, trivial⟩
    refine Xg.comes_act rfl (by kernel_rfl) (by kernel_rfl) (Xg.opx_bs (elem := 5) 1 [uv (a.bt % (256 : Int))] [uv (a.bt % (256 : Int))] (by kernel_rfl) (by kernel_rfl) (by decide) rfl (by kernel_rfl) (by kernel_rfl) (by kernel_rfl) (by kernel_rfl) fun xb4 => ?_)
    refine Xg.acts (Xg.owes_cell 3 rfl (by kernel_rfl) (Xg.owes_cell 3 rfl (by kernel_rfl) (Xg.owes_rd 5 (Xg.reads_own (E := ((42 : Nat))) (sz := ((3 : Nat))) (n := x.les.length) (c := x.lc) (a := x.la) (vs := (recs leK x.les))) (by kernel_rfl) (Xg.owes_rd 5 (Xg.reads_own (E := ((42 : Nat))) (sz := ((3 : Nat))) (n := x.les.length) (c := x.lc) (a := x.la) (vs := (recs leK x.les))) (by kernel_rfl) (Xg.owes_skip (by kernel_rfl) Xg.owes_nil))))) ?_
    refine Xg.any_each [14] (by kernel_rfl) rfl ⟨?_, trivial⟩
    refine Xg.comes_act rfl (by kernel_rfl) (by kernel_rfl) (Xg.opx_call1' [4, 0] [PoolS p (storeσ σ b ((x.Z.getD k default).snd.set (pickN a.ap (x.Z.getD k default).snd.length) (a.bt % (256 : Int)))), row xb4 (5 : TypeId) [uv (a.bt % (256 : Int))], row xb3 (62 : Nat) [iv 0, Value.slice none (0 : Nat) (0 : Nat), Value.slice none (0 : Nat) (0 : Nat)], row xb2 (59 : Nat) [iv a.kd, iv a.wh, iv a.sz, iv a.pk, iv a.ap, iv a.bt], row xb1 (62 : Nat) [iv (↑x.id : Int), Value.slice x.la x.les.length x.lc, Value.slice x.ba x.Z.length x.bc], LeP x, BhP x, Y2 (x.Z.getD k default).fst (x.Z.getD k default).snd.length (x.Z.getD k default).snd] (fun _ => by kernel_rfl) (@hst ((a.bt % (256 : Int))) (xb4)) (by kernel_rfl) (by kernel_rfl) (by kernel_rfl) ?_)
    refine Xg.acts (Xg.owes_skip (by kernel_rfl) (Xg.owes_skip (by kernel_rfl) (Xg.owes_skip (by kernel_rfl) (Xg.owes_skip (by kernel_rfl) (Xg.owes_skip (by kernel_rfl) Xg.owes_nil))))) ?_
    refine Xg.any_pure ((iv 0)) 15 (by kernel_rfl) rfl (by kernel_rfl) (by kernel_rfl) (by kernel_rfl) (by kernel_rfl) rfl (fun _ => by kernel_rfl) ?_
    refine Xg.any_nil (by kernel_rfl) ?_
    refine Xg.at_seq ?_
    refine Xg.at_draw [10] [(1, [0, 1, 2, 5, 6, 7, 8], Xg.CellIs (xb1) (((2 : Nat))) ((Value.slice x.ba x.Z.length x.bc))), (3, [0, 1, 2, 3, 5, 6, 7, 8], (RdIs (1 : Nat) (Value.slice x.ba x.Z.length x.bc) x.Z.length (recs bhK x.Z))), (4, [0, 1, 2, 3, 4, 5, 6, 7, 8], (RdIs (1 : Nat) (Value.slice x.ba x.Z.length x.bc) x.Z.length (recs bhK x.Z))), (7, [0, 1, 2, 3, 4, 5, 6, 7], Xg.CellIs (xb2) (((5 : Nat))) ((iv a.bt))), (9, [0, 1, 2, 3, 4, 5, 6, 7, 8, 9], (RdIs (1 : Nat) (Value.slice (x.Z.getD k default).fst (x.Z.getD k default).snd.length (x.Z.getD k default).snd.length) (x.Z.getD k default).snd.length (List.map (Value.int IntKind.u8) (x.Z.getD k default).snd)))] (by kernel_rfl) ?_
    refine Xg.any_pure ((pv xb1 2)) 0 (by kernel_rfl) rfl (by kernel_rfl) (by kernel_rfl) (by kernel_rfl) (by kernel_rfl) rfl (fun _ => by kernel_rfl) ?_
    refine Xg.any_reads (Value.slice x.ba x.Z.length x.bc) 1 0 (by kernel_rfl) rfl (by kernel_rfl) (by kernel_rfl) (by kernel_rfl) (by kernel_rfl) rfl rfl (by kernel_rfl) (Xg.cell_now (b := xb1) (off := ((2 : Nat))) 4 rfl (by kernel_rfl)) (fun _ h => Xg.run_load (by kernel_rfl) (by kernel_rfl) h) ?_
    refine Xg.any_pure ((iv (↑k : Int))) 2 (by kernel_rfl) rfl (by kernel_rfl) (by kernel_rfl) (by kernel_rfl) (by kernel_rfl) rfl (fun _ => by kernel_rfl) ?_
    refine Xg.any_reads (.pointer (some (Addr.mk (Xg.blk x.ba) (offA x.ba + k) none))) 3 1 (by kernel_rfl) rfl (by kernel_rfl) (by kernel_rfl) (by kernel_rfl) (by kernel_rfl) rfl rfl (by kernel_rfl) (Xg.rd_now 6 (Xg.reads_own (E := ((40 : Nat))) (sz := ((1 : Nat))) (n := x.Z.length) (c := x.bc) (a := x.ba) (vs := (recs bhK x.Z))) (by kernel_rfl)) (Xg.run_ix_rd (elem := 40) (kd := .i64) (e := ((↑k : Int))) 1 k (offA x.ba + k) (by kernel_rfl) (by kernel_rfl) (by kernel_rfl) (by kernel_rfl) rfl (by omega) (by rw [Xg.recs_len (wd := 1) (fun _ => rfl)]; omega) (by omega)) ?_
    refine Xg.any_reads (Value.slice (x.Z.getD k default).fst (x.Z.getD k default).snd.length (x.Z.getD k default).snd.length) 4 2 (by kernel_rfl) rfl (by kernel_rfl) (by kernel_rfl) (by kernel_rfl) (by kernel_rfl) rfl rfl (by kernel_rfl) (Xg.rd_now 6 (Xg.reads_own (E := ((40 : Nat))) (sz := ((1 : Nat))) (n := x.Z.length) (c := x.bc) (a := x.ba) (vs := (recs bhK x.Z))) (by kernel_rfl)) (Xg.run_load_rd (off0 := (offA x.ba + k)) k (by kernel_rfl) (by omega) (Xg.get_recs' (wd := 1) (fun _ => rfl) default k 0 (by omega) (by decide) (by omega) (by kernel_rfl)) (by kernel_rfl)) ?_
    refine Xg.any_pure ((iv (↑(pickN a.ap (x.Z.getD k default).snd.length) : Int))) 5 (by kernel_rfl) rfl (by kernel_rfl) (by kernel_rfl) (by kernel_rfl) (by kernel_rfl) rfl (fun _ => by kernel_rfl) ?_
    refine Xg.any_pure ((pv xb2 5)) 6 (by kernel_rfl) rfl (by kernel_rfl) (by kernel_rfl) (by kernel_rfl) (by kernel_rfl) rfl (fun _ => by kernel_rfl) ?_
    refine Xg.any_reads (iv a.bt) 7 3 (by kernel_rfl) rfl (by kernel_rfl) (by kernel_rfl) (by kernel_rfl) (by kernel_rfl) rfl rfl (by kernel_rfl) (Xg.cell_now (b := xb2) (off := ((5 : Nat))) 3 rfl (by kernel_rfl)) (fun _ h => Xg.run_load (by kernel_rfl) (by kernel_rfl) h) ?_
    refine Xg.any_int .u8 (IntKind.wrap .u8 (a.bt)) 8 (by kernel_rfl) rfl (by kernel_rfl) (by kernel_rfl) (by kernel_rfl) (by kernel_rfl) rfl (fun _ => by kernel_rfl) (Xg.wrap_u8_mod _) ?_
    refine Xg.any_reads (.pointer (some (Addr.mk (Xg.blk ((x.Z.getD k default).fst)) (offA (x.Z.getD k default).fst + pickN a.ap (x.Z.getD k default).snd.length) none))) 9 4 (by kernel_rfl) rfl (by kernel_rfl) (by kernel_rfl) (by kernel_rfl) (by kernel_rfl) rfl rfl (by kernel_rfl) (Xg.rd_now 7 (Xg.reads_own (E := ((5 : TypeId))) (sz := ((1 : Nat))) (n := ((x.Z.getD k default).snd.length)) (c := ((x.Z.getD k default).snd.length)) (a := ((x.Z.getD k default).fst)) (vs := (List.map (Value.int IntKind.u8) (x.Z.getD k default).snd))) (by kernel_rfl)) (Xg.run_ix_rd (elem := 5) (kd := .i64) (e := ((↑(pickN a.ap (x.Z.getD k default).snd.length) : Int))) 1 (pickN a.ap (x.Z.getD k default).snd.length) (offA (x.Z.getD k default).fst + pickN a.ap (x.Z.getD k default).snd.length) (by kernel_rfl) (by kernel_rfl) (by kernel_rfl) (by kernel_rfl) rfl (by omega) (by simp only [List.length_map]; omega) (by omega)) ?_
    refine Xg.any_each [10] (by kernel_rfl) rfl ⟨?_, trivial⟩
    refine Xg.comes_act rfl (by kernel_rfl) (by kernel_rfl) (Xg.opx_store_own_i (a := ((x.Z.getD k default).fst)) (off := (offA (x.Z.getD k default).fst + pickN a.ap (x.Z.getD k default).snd.length)) (kd := .u8) (xs := ((x.Z.getD k default).snd)) (e := (a.bt % (256 : Int))) 7 (by kernel_rfl) rfl (by kernel_rfl) (by kernel_rfl) (by first | omega | (simp only [List.length_set]; omega)) ?_)
    refine Xg.acts (Xg.owes_skip (by kernel_rfl) (Xg.owes_skip (by kernel_rfl) (Xg.owes_skip (by kernel_rfl) (Xg.owes_skip (by kernel_rfl) (Xg.owes_skip (by kernel_rfl) Xg.owes_nil))))) ?_
    refine Xg.any_nil (by kernel_rfl) ?_
    refine Xg.at_seq ?_
    refine Xg.at_region ?_
    refine Xg.ops_op (by kernel_rfl) (Xg.opx_loadn (off := 0) 3 4 [iv (↑x.id : Int), Value.slice x.la x.les.length x.lc, Value.slice x.ba x.Z.length x.bc] (by kernel_rfl) rfl (by kernel_rfl) rfl (Xg.cells_at (by kernel_rfl)) (by kernel_rfl) ?_)
    refine Xg.ops_op (by kernel_rfl) (Xg.opx_pure ((iv 0)) rfl (fun _ => by kernel_rfl) ?_)
    refine Xg.ops_op (by kernel_rfl) (Xg.opx_pure ((Value.bool true)) rfl (fun _ => by kernel_rfl) ?_)
    refine Xg.ops_op (by kernel_rfl) (Xg.opx_storen 3 (off := 0) 2 [iv (↑x.id : Int), Value.slice x.la x.les.length x.lc, Value.slice x.ba x.Z.length x.bc] (by kernel_rfl) rfl (by kernel_rfl) (by kernel_rfl) rfl (by kernel_rfl) (Nat.le_of_ble_eq_true (by kernel_rfl)) ?_)
    refine Xg.ops_op (by kernel_rfl) (Xg.opx_pure ((Value.bool true)) rfl (fun _ => by kernel_rfl) ?_)
    refine Xg.ops_nil ?_
    refine Xg.at_ret_feed (v := (Value.tuple #[Value.agg #[iv (↑x.id : Int), Value.slice x.la x.les.length x.lc, Value.slice x.ba x.Z.length x.bc], Value.bool true])) [(Addr.mk xb3 (0 : Nat) none), (Addr.mk xb3 (1 : Nat) none), (Addr.mk xb3 (2 : Nat) none)] [iv (↑x.id : Int), Value.slice x.la x.les.length x.lc, Value.slice x.ba x.Z.length x.bc] [0, 5, 6, 7] [PoolS p (storeσ σ b ((x.Z.getD k default).snd.set (pickN a.ap (x.Z.getD k default).snd.length) (a.bt % (256 : Int)))), LeP x, BhP x, ownS (5 : TypeId) (1 : Nat) (Value.slice (x.Z.getD k default).fst (x.Z.getD k default).snd.length (x.Z.getD k default).snd.length) (x.Z.getD k default).snd.length (List.map (Value.int IntKind.u8) ((x.Z.getD k default).snd.set (offA (x.Z.getD k default).fst + pickN a.ap (x.Z.getD k default).snd.length) (a.bt % (256 : Int))))] Go.Proofs.Try.func25 (by kernel_rfl) (Xg.cells_cons (b := xb3) (off := 0) 2 rfl (by kernel_rfl) (Xg.cells_cons (b := xb3) (off := 1) 2 rfl (by kernel_rfl) (Xg.cells_cons (b := xb3) (off := 2) 2 rfl (by kernel_rfl) Xg.cells_nil))) (by kernel_rfl) (by kernel_rfl) ?_)
  all_goals (refine ⟨rfl, ?_⟩; rw [hoff, Nat.zero_add]; show _ = [_, _, _, ownS 5 1 (.slice _ (List.set _ _ _).length _) (List.set _ _ _).length _]; rw [List.length_set])
end Go.Proofs.Ytmplimmcjdkhlaa

/- The arena laws: acts: a buffer is taken. -/
namespace Go.Proofs.Ytmplimmcjdkhlaa
open Go.Sl Go.Xg
set_option linter.unusedVariables false
set_option linter.unusedSimpArgs false
set_option linter.unnecessarySimpa false
set_option maxHeartbeats 4000000
set_option maxRecDepth 100000

def clsA (a : Ac) : Nat := if 1 + pickN a.sz 16 > 4 then 1 else 0
def hasA (a : Ac) : Nat := if 1 + pickN a.sz 16 > 4 then 16 else 4
section
variable (p : Nat) (σ τ : Po) (x : HdV) (a : Ac) (ha : Acok a) (q : Int) (hl5 : Lok5 x.les) (hZ5 : x.Z.length ≤ 5000) (hk : pickN a.kd 8 ≤ 1) (fr : List Int)
 (hfree : Does Try.prog 27 [.pointer (some ⟨p, 0, none⟩), .int .i64 (clsA a : Nat)] [PoolS p σ] (RetE (fun z : Option Addr × Nat => True) (fun z => .slice z.1 fr.length z.2) (fun z => [PoolS p σ, I2 z.1 z.2 fr])))
 (hq2 : -1000000 ≤ q ∧ q ≤ 1000000) (hf5 : fr.length ≤ 5000)
include ha hl5 hZ5 hk hfree hq2 hf5
theorem acts_take (v : Nat) (htake : Does Try.prog 17 [.pointer (some ⟨p, 0, none⟩), .int .i64 (x.id : Nat), .int .i64 (1 + (pickN a.sz 16 : Nat)), .int .i64 a.pk] [PoolS p σ] (Ret (.tuple #[.agg #[.int .i64 (v : Nat), .int .i64 (clsA a : Nat), .int .i64 (hasA a : Nat)], .int .i64 0]) [PoolS p τ]))
    (hq : sizeL x.les + hasA a ≤ q) (hf : 0 < fr.length) (hv : fr.getD (pickN a.pk fr.length) 0 = (v : Nat)) : Does Try.prog 25 [.pointer (some ⟨p, 0, none⟩), hdV x, acV a, .int .i64 q] [PoolS p σ, LeP x, BhP x]
    (RetE (fun y : (Option Addr × Nat) × (Option Addr × Nat) × Option Addr => y.2.2.isNone = false) (fun y => .tuple #[.agg #[.int .i64 (x.id : Nat), .slice y.1.1 (x.les ++ [((v : Int), (clsA a : Int), (hasA a : Int))]).length y.1.2, .slice y.2.1.1 (x.Z ++ [(y.2.2, List.replicate (hasA a) 0)]).length y.2.1.2], .bool true]) (fun y => [PoolS p τ, recsO 42 3 leK y.1.1 y.1.2 (x.les ++ [((v : Int), (clsA a : Int), (hasA a : Int))]), recsO 40 1 bhK y.2.1.1 y.2.1.2 (x.Z ++ [(y.2.2, List.replicate (hasA a) 0)]), Y2 y.2.2 (hasA a) (List.replicate (hasA a) 0)])) := by
  obtain ⟨a1, a2, a3, a4, a5, a6⟩ := id ha
  have hl50 := hl5.1
  have hp8 := pick_r a.kd 8 a1 (by decide)
  have hp16 := pick_r a.sz 16 a3 (by decide)
  have h16 := pickN_lt a.sz 16 (by decide)
  have hsd := fun id aa c bv => size_d id aa c bv x.les hl5
  have hsb := sizeL_bd hl5 x.les.length (Nat.le_refl _)
  rw [List.take_length] at hsb
  (focus
    refine Xg.spec_of Go.Proofs.Try.func25 rfl Go.Proofs.Try.ntmps25 fun g F => ?_)
  (focus
    refine Xg.at_seq ?_
    refine Xg.at_region ?_
    refine Xg.ops_op (by kernel_rfl) (Xg.opx_box (v := (Value.agg #[iv (↑x.id : Int), Value.slice x.la x.les.length x.lc, Value.slice x.ba x.Z.length x.bc])) [iv (↑x.id : Int), Value.slice x.la x.les.length x.lc, Value.slice x.ba x.Z.length x.bc] (by kernel_rfl) (by kernel_rfl) fun xb1 => ?_)
    refine Xg.ops_op (by kernel_rfl) (Xg.opx_box (v := (Value.agg #[iv a.kd, iv a.wh, iv a.sz, iv a.pk, iv a.ap, iv a.bt])) [iv a.kd, iv a.wh, iv a.sz, iv a.pk, iv a.ap, iv a.bt] (by kernel_rfl) (by kernel_rfl) fun xb2 => ?_)
    refine Xg.ops_op (by kernel_rfl) (Xg.opx_new 3 [iv 0, Value.slice none (0 : Nat) (0 : Nat), Value.slice none (0 : Nat) (0 : Nat)] (by kernel_rfl) (by kernel_rfl) fun xb3 => ?_)
    refine Xg.ops_op (by kernel_rfl) (Xg.opx_pure ((Value.bool false)) rfl (fun _ => by kernel_rfl) ?_)
    refine Xg.ops_nil ?_
    refine Xg.at_seq ?_
    refine Xg.at_region ?_
    refine Xg.ops_op (by kernel_rfl) (Xg.opx_pure ((iv 0)) rfl (fun _ => by kernel_rfl) ?_)
    refine Xg.ops_nil ?_
    refine Xg.at_seq ?_
    refine Xg.at_seq ?_
    refine Xg.at_region ?_
    refine Xg.ops_op (by kernel_rfl) (Xg.opx_pure ((pv xb1 1)) rfl (fun _ => by kernel_rfl) ?_)
    refine Xg.ops_op (by kernel_rfl) (Xg.opx_load (b := xb1) (off := ((1 : Nat))) 2 (Value.slice x.la x.les.length x.lc) rfl (by kernel_rfl) (by kernel_rfl) (by kernel_rfl) ?_)
    refine Xg.ops_op (by kernel_rfl) (Xg.opx_pure ((iv (↑x.les.length : Int))) rfl (fun _ => by kernel_rfl) ?_)
    refine Xg.ops_op (by kernel_rfl) (Xg.opx_pure (.bool (decide ((((↑x.les.length : Int)) : Int) > ((0 : Int))))) rfl (fun _ => by kernel_rfl) ?_)
    refine Xg.ops_nil ?_)
  (focus
    refine Xg.at_cut (α := (Nat) × (Nat → Value)) (fun x9 => ((fun k => k = kOf a x.les.length) : (Nat) → Prop) x9.1) (fun x9 => Xg.headT [pv p 0, Value.agg #[iv (↑x.id : Int), Value.slice x.la x.les.length x.lc, Value.slice x.ba x.Z.length x.bc], Value.agg #[iv a.kd, iv a.wh, iv a.sz, iv a.pk, iv a.ap, iv a.bt], iv q, tu, pv xb1 0, pv xb2 0, tu, pv xb3 0, Value.bool false, iv 0, tu, tu, tu, tu, tu, tu, tu, tu, tu, tu, tu, tu, tu, tu, tu, tu, tu, pv xb1 1, Value.slice x.la x.les.length x.lc, iv (↑x.les.length : Int), Value.bool (decide ((↑x.les.length : Int) > (0 : Int))), tu, tu, tu, tu, tu, tu, tu, tu, tu, tu, tu, tu, tu, tu, tu, tu, tu, tu, tu, tu, tu, tu, tu, tu, tu, tu, tu, tu, tu, tu, tu, tu, tu, tu, tu, tu, tu, tu, tu, tu, tu, tu, tu, tu, tu, tu, tu, tu, tu, tu, tu, tu, tu, tu, tu, tu, tu, tu, tu, tu, tu, tu, tu, tu, tu, tu, tu, tu, tu, tu, tu, tu, tu, tu, tu, tu, tu, tu, tu, tu, tu, tu, tu, tu, tu, tu, tu, tu, tu, tu, tu, tu, tu, tu, tu, tu, tu, tu, tu, tu, tu, tu, tu, tu, tu, tu, tu, tu, tu, tu, tu, tu, tu, tu, tu, tu, tu, tu, tu, tu, tu, tu, tu, tu, tu, tu, tu, tu, tu, tu, tu, tu, tu, tu, tu, tu, tu, tu, tu, tu, tu, tu, tu, tu, tu, tu, tu, tu, tu, tu, tu, tu, tu, tu, tu, tu, tu, tu, tu, tu, tu, tu, tu, tu, tu, tu, tu, tu, tu, tu, tu, tu, tu, tu, tu, tu, tu, tu, tu, tu, tu, tu, tu, tu, tu, tu, tu, tu, tu, tu, tu, tu, tu, tu, tu, tu, tu, tu, tu, tu, tu, tu, tu, tu, tu, tu, tu, tu, tu, tu, tu, tu, tu, tu, tu] [32, 33, 34, 35, 36, 37] (((fun k => [(10, .int .i64 (k : Nat))]) : (Nat) → List (Nat × Go.Value)) x9.1) x9.2) (fun x9 => ((fun k => [PoolS p σ, LeP x, BhP x, row xb1 62 (hdK x), row xb2 59 (acC a), row xb3 62 [.int .i64 0, .slice none 0 0, .slice none 0 0]]) : (Nat) → List Go.Sl.HP) x9.1) (fun kk hk => ?_) ?_)
  · by_cases h0 : 0 < x.les.length
    · have hpk := pick_r a.pk x.les.length a4 h0
      (focus
        refine Xg.at_true (t := decide (((↑x.les.length : Int) > (0 : Int)))) (by kernel_rfl) (decide_eq_true (by omega)) ?_
        refine Xg.at_region ?_
        refine Xg.ops_op (by kernel_rfl) (Xg.opx_pure ((pv xb2 3)) rfl (fun _ => by kernel_rfl) ?_)
        refine Xg.ops_op (by kernel_rfl) (Xg.opx_load (b := xb2) (off := ((3 : Nat))) 1 (iv a.pk) rfl (by kernel_rfl) (by kernel_rfl) (by kernel_rfl) ?_)
        refine Xg.ops_op (by kernel_rfl) (Xg.opx_pure ((pv xb1 1)) rfl (fun _ => by kernel_rfl) ?_)
        refine Xg.ops_op (by kernel_rfl) (Xg.opx_load (b := xb1) (off := ((1 : Nat))) 2 (Value.slice x.la x.les.length x.lc) rfl (by kernel_rfl) (by kernel_rfl) (by kernel_rfl) ?_)
        refine Xg.ops_op (by kernel_rfl) (Xg.opx_pure ((iv (↑x.les.length : Int))) rfl (fun _ => by kernel_rfl) ?_)
        refine Xg.ops_op (by kernel_rfl) (Xg.opx_call1' [] [row xb3 (62 : Nat) [iv 0, Value.slice none (0 : Nat) (0 : Nat), Value.slice none (0 : Nat) (0 : Nat)], row xb2 (59 : Nat) [iv a.kd, iv a.wh, iv a.sz, iv a.pk, iv a.ap, iv a.bt], row xb1 (62 : Nat) [iv (↑x.id : Int), Value.slice x.la x.les.length x.lc, Value.slice x.ba x.Z.length x.bc], PoolS p σ, LeP x, BhP x] (fun _ => by kernel_rfl) (@hpk ) (by kernel_rfl) (by kernel_rfl) (by kernel_rfl) ?_)
        refine Xg.ops_op (by kernel_rfl) (Xg.opx_pure ((iv (↑(pickN a.pk x.les.length) : Int))) rfl (fun _ => by kernel_rfl) ?_)
        refine Xg.ops_nil ?_)
      (focus
        refine Xg.at_keep [3, 4, 5, 2, 1, 0] (by kernel_rfl) ?_
        refine Xg.At.same (by kernel_rfl) ?_ (hk ((pickN a.pk x.les.length), fun j9 => ([pv p 0, Value.agg #[iv (↑x.id : Int), Value.slice x.la x.les.length x.lc, Value.slice x.ba x.Z.length x.bc], Value.agg #[iv a.kd, iv a.wh, iv a.sz, iv a.pk, iv a.ap, iv a.bt], iv q, tu, pv xb1 0, pv xb2 0, tu, pv xb3 0, Value.bool false, iv (↑(pickN a.pk x.les.length) : Int), tu, tu, tu, tu, tu, tu, tu, tu, tu, tu, tu, tu, tu, tu, tu, tu, tu, pv xb1 1, Value.slice x.la x.les.length x.lc, iv (↑x.les.length : Int), Value.bool (decide ((↑x.les.length : Int) > (0 : Int))), pv xb2 3, iv a.pk, pv xb1 1, Value.slice x.la x.les.length x.lc, iv (↑x.les.length : Int), iv (↑(pickN a.pk x.les.length) : Int), tu, tu, tu, tu, tu, tu, tu, tu, tu, tu, tu, tu, tu, tu, tu, tu, tu, tu, tu, tu, tu, tu, tu, tu, tu, tu, tu, tu, tu, tu, tu, tu, tu, tu, tu, tu, tu, tu, tu, tu, tu, tu, tu, tu, tu, tu, tu, tu, tu, tu, tu, tu, tu, tu, tu, tu, tu, tu, tu, tu, tu, tu, tu, tu, tu, tu, tu, tu, tu, tu, tu, tu, tu, tu, tu, tu, tu, tu, tu, tu, tu, tu, tu, tu, tu, tu, tu, tu, tu, tu, tu, tu, tu, tu, tu, tu, tu, tu, tu, tu, tu, tu, tu, tu, tu, tu, tu, tu, tu, tu, tu, tu, tu, tu, tu, tu, tu, tu, tu, tu, tu, tu, tu, tu, tu, tu, tu, tu, tu, tu, tu, tu, tu, tu, tu, tu, tu, tu, tu, tu, tu, tu, tu, tu, tu, tu, tu, tu, tu, tu, tu, tu, tu, tu, tu, tu, tu, tu, tu, tu, tu, tu, tu, tu, tu, tu, tu, tu, tu, tu, tu, tu, tu, tu, tu, tu, tu, tu, tu, tu, tu, tu, tu, tu, tu, tu, tu, tu, tu, tu, tu, tu, tu, tu, tu, tu, tu, tu, tu, tu, tu, tu, tu, tu, tu, tu, tu, tu, tu] : List Value).getD j9 undef) ?_))
      · rfl
      · dsimp only; unfold kOf; rw [if_pos h0]
    · (focus
        refine Xg.at_false (t := decide (((↑x.les.length : Int) > (0 : Int)))) (by kernel_rfl) (decide_eq_false (by omega)) ?_
        refine Xg.at_skip ?_)
      (focus
        refine Xg.at_keep [3, 4, 5, 2, 1, 0] (by kernel_rfl) ?_
        refine Xg.At.same (by kernel_rfl) ?_ (hk ((0), fun j9 => ([pv p 0, Value.agg #[iv (↑x.id : Int), Value.slice x.la x.les.length x.lc, Value.slice x.ba x.Z.length x.bc], Value.agg #[iv a.kd, iv a.wh, iv a.sz, iv a.pk, iv a.ap, iv a.bt], iv q, tu, pv xb1 0, pv xb2 0, tu, pv xb3 0, Value.bool false, iv 0, tu, tu, tu, tu, tu, tu, tu, tu, tu, tu, tu, tu, tu, tu, tu, tu, tu, pv xb1 1, Value.slice x.la x.les.length x.lc, iv (↑x.les.length : Int), Value.bool (decide ((↑x.les.length : Int) > (0 : Int))), tu, tu, tu, tu, tu, tu, tu, tu, tu, tu, tu, tu, tu, tu, tu, tu, tu, tu, tu, tu, tu, tu, tu, tu, tu, tu, tu, tu, tu, tu, tu, tu, tu, tu, tu, tu, tu, tu, tu, tu, tu, tu, tu, tu, tu, tu, tu, tu, tu, tu, tu, tu, tu, tu, tu, tu, tu, tu, tu, tu, tu, tu, tu, tu, tu, tu, tu, tu, tu, tu, tu, tu, tu, tu, tu, tu, tu, tu, tu, tu, tu, tu, tu, tu, tu, tu, tu, tu, tu, tu, tu, tu, tu, tu, tu, tu, tu, tu, tu, tu, tu, tu, tu, tu, tu, tu, tu, tu, tu, tu, tu, tu, tu, tu, tu, tu, tu, tu, tu, tu, tu, tu, tu, tu, tu, tu, tu, tu, tu, tu, tu, tu, tu, tu, tu, tu, tu, tu, tu, tu, tu, tu, tu, tu, tu, tu, tu, tu, tu, tu, tu, tu, tu, tu, tu, tu, tu, tu, tu, tu, tu, tu, tu, tu, tu, tu, tu, tu, tu, tu, tu, tu, tu, tu, tu, tu, tu, tu, tu, tu, tu, tu, tu, tu, tu, tu, tu, tu, tu, tu, tu, tu, tu, tu, tu, tu, tu, tu, tu, tu, tu, tu, tu, tu, tu, tu, tu, tu, tu, tu, tu, tu, tu, tu, tu] : List Value).getD j9 undef) ?_))
      · rfl
      · dsimp only; unfold kOf; rw [if_neg h0]
  rintro ⟨k, J⟩ hkk
  dsimp only at hkk
  (focus
    refine Xg.At.same (T' := [pv p 0, Value.agg #[iv (↑x.id : Int), Value.slice x.la x.les.length x.lc, Value.slice x.ba x.Z.length x.bc], Value.agg #[iv a.kd, iv a.wh, iv a.sz, iv a.pk, iv a.ap, iv a.bt], iv q, tu, pv xb1 0, pv xb2 0, tu, pv xb3 0, Value.bool false, iv (↑k : Int), tu, tu, tu, tu, tu, tu, tu, tu, tu, tu, tu, tu, tu, tu, tu, tu, tu, pv xb1 1, Value.slice x.la x.les.length x.lc, iv (↑x.les.length : Int), Value.bool (decide ((↑x.les.length : Int) > (0 : Int))), J 32, J 33, J 34, J 35, J 36, J 37, tu, tu, tu, tu, tu, tu, tu, tu, tu, tu, tu, tu, tu, tu, tu, tu, tu, tu, tu, tu, tu, tu, tu, tu, tu, tu, tu, tu, tu, tu, tu, tu, tu, tu, tu, tu, tu, tu, tu, tu, tu, tu, tu, tu, tu, tu, tu, tu, tu, tu, tu, tu, tu, tu, tu, tu, tu, tu, tu, tu, tu, tu, tu, tu, tu, tu, tu, tu, tu, tu, tu, tu, tu, tu, tu, tu, tu, tu, tu, tu, tu, tu, tu, tu, tu, tu, tu, tu, tu, tu, tu, tu, tu, tu, tu, tu, tu, tu, tu, tu, tu, tu, tu, tu, tu, tu, tu, tu, tu, tu, tu, tu, tu, tu, tu, tu, tu, tu, tu, tu, tu, tu, tu, tu, tu, tu, tu, tu, tu, tu, tu, tu, tu, tu, tu, tu, tu, tu, tu, tu, tu, tu, tu, tu, tu, tu, tu, tu, tu, tu, tu, tu, tu, tu, tu, tu, tu, tu, tu, tu, tu, tu, tu, tu, tu, tu, tu, tu, tu, tu, tu, tu, tu, tu, tu, tu, tu, tu, tu, tu, tu, tu, tu, tu, tu, tu, tu, tu, tu, tu, tu, tu, tu, tu, tu, tu, tu, tu, tu, tu, tu, tu, tu, tu, tu, tu, tu, tu, tu]) (L' := [PoolS p σ, LeP x, BhP x, row xb1 (62 : TypeId) (hdK x), row xb2 (59 : TypeId) (acC a), row xb3 (62 : TypeId) [iv 0, Value.slice none (0 : Nat) (0 : Nat), Value.slice none (0 : Nat) (0 : Nat)]]) (by kernel_rfl) rfl ?_)
  (focus
    refine Xg.at_seq ?_
    refine Xg.at_seq ?_
    refine Xg.at_region ?_
    refine Xg.ops_op (by kernel_rfl) (Xg.opx_pure ((pv xb2 0)) rfl (fun _ => by kernel_rfl) ?_)
    refine Xg.ops_op (by kernel_rfl) (Xg.opx_load (b := xb2) (off := ((0 : Nat))) 4 (iv a.kd) rfl (by kernel_rfl) (by kernel_rfl) (by kernel_rfl) ?_)
    refine Xg.ops_op (by kernel_rfl) (Xg.opx_call1' [] [PoolS p σ, LeP x, BhP x, row xb1 (62 : TypeId) [iv (↑x.id : Int), Value.slice x.la x.les.length x.lc, Value.slice x.ba x.Z.length x.bc], row xb2 (59 : TypeId) [iv a.kd, iv a.wh, iv a.sz, iv a.pk, iv a.ap, iv a.bt], row xb3 (62 : TypeId) [iv 0, Value.slice none (0 : Nat) (0 : Nat), Value.slice none (0 : Nat) (0 : Nat)]] (fun _ => by kernel_rfl) (@hp8 ) (by kernel_rfl) (by kernel_rfl) (by kernel_rfl) ?_)
    refine Xg.ops_nil ?_
    refine Xg.at_block ?_
    refine Xg.at_seq ?_
    refine Xg.at_seq ?_)
  (focus
    refine Xg.at_cut2 (α := (Bool) × (Nat → Value)) (fun x9 => ((fun b => b = true) : (Bool) → Prop) x9.1) (fun x9 => Xg.headT [pv p 0, Value.agg #[iv (↑x.id : Int), Value.slice x.la x.les.length x.lc, Value.slice x.ba x.Z.length x.bc], Value.agg #[iv a.kd, iv a.wh, iv a.sz, iv a.pk, iv a.ap, iv a.bt], iv q, tu, pv xb1 0, pv xb2 0, tu, pv xb3 0, Value.bool false, iv (↑k : Int), tu, tu, tu, tu, tu, tu, tu, tu, tu, tu, tu, tu, tu, tu, tu, tu, tu, pv xb1 1, Value.slice x.la x.les.length x.lc, iv (↑x.les.length : Int), Value.bool (decide ((↑x.les.length : Int) > (0 : Int))), J 32, J 33, J 34, J 35, J 36, J 37, pv xb2 0, iv a.kd, iv (↑(pickN a.kd (8 : Nat)) : Int), tu, tu, tu, tu, tu, tu, tu, tu, tu, tu, tu, tu, tu, tu, tu, tu, tu, tu, tu, tu, tu, tu, tu, tu, tu, tu, tu, tu, tu, tu, tu, tu, tu, tu, tu, tu, tu, tu, tu, tu, tu, tu, tu, tu, tu, tu, tu, tu, tu, tu, tu, tu, tu, tu, tu, tu, tu, tu, tu, tu, tu, tu, tu, tu, tu, tu, tu, tu, tu, tu, tu, tu, tu, tu, tu, tu, tu, tu, tu, tu, tu, tu, tu, tu, tu, tu, tu, tu, tu, tu, tu, tu, tu, tu, tu, tu, tu, tu, tu, tu, tu, tu, tu, tu, tu, tu, tu, tu, tu, tu, tu, tu, tu, tu, tu, tu, tu, tu, tu, tu, tu, tu, tu, tu, tu, tu, tu, tu, tu, tu, tu, tu, tu, tu, tu, tu, tu, tu, tu, tu, tu, tu, tu, tu, tu, tu, tu, tu, tu, tu, tu, tu, tu, tu, tu, tu, tu, tu, tu, tu, tu, tu, tu, tu, tu, tu, tu, tu, tu, tu, tu, tu, tu, tu, tu, tu, tu, tu, tu, tu, tu, tu, tu, tu, tu, tu, tu, tu, tu, tu, tu, tu, tu, tu, tu, tu, tu, tu, tu, tu, tu, tu, tu, tu, tu, tu] [42, 43] (((fun b => [(41, .bool b)]) : (Bool) → List (Nat × Go.Value)) x9.1) x9.2) (fun x9 => ((fun _ => [PoolS p σ, LeP x, BhP x, row xb1 62 (hdK x), row xb2 59 (acC a), row xb3 62 [.int .i64 0, .slice none 0 0, .slice none 0 0]]) : (Bool) → List Go.Sl.HP) x9.1) (fun kk hk => ?_) ?_)
  · by_cases h01 : pickN a.kd 8 = 0
    · (focus
        refine Xg.at_region ?_
        refine Xg.ops_op (by kernel_rfl) (Xg.opx_pure (.bool (decide ((((↑(pickN a.kd (8 : Nat)) : Int)) : Int) = ((0 : Int))))) rfl (fun _ => by kernel_rfl) ?_)
        refine Xg.ops_op (by kernel_rfl) (Xg.opx_pure ((Value.bool (decide ((↑(pickN a.kd (8 : Nat)) : Int) = (0 : Int))))) rfl (fun _ => by kernel_rfl) ?_)
        refine Xg.ops_nil ?_
        refine Xg.at_true (t := decide (((↑(pickN a.kd (8 : Nat)) : Int) = (0 : Int)))) (by kernel_rfl) (decide_eq_true (by omega)) ?_
        refine Xg.at_skip ?_)
      (focus
        refine Xg.at_keep [0, 1, 2, 3, 4, 5] (by kernel_rfl) ?_
        refine Xg.At.same (by kernel_rfl) ?_ (hk ((decide (((pickN a.kd 8 : Nat) : Int) = 0)), fun j9 => ([pv p 0, Value.agg #[iv (↑x.id : Int), Value.slice x.la x.les.length x.lc, Value.slice x.ba x.Z.length x.bc], Value.agg #[iv a.kd, iv a.wh, iv a.sz, iv a.pk, iv a.ap, iv a.bt], iv q, tu, pv xb1 0, pv xb2 0, tu, pv xb3 0, Value.bool false, iv (↑k : Int), tu, tu, tu, tu, tu, tu, tu, tu, tu, tu, tu, tu, tu, tu, tu, tu, tu, pv xb1 1, Value.slice x.la x.les.length x.lc, iv (↑x.les.length : Int), Value.bool (decide ((↑x.les.length : Int) > (0 : Int))), J 32, J 33, J 34, J 35, J 36, J 37, pv xb2 0, iv a.kd, iv (↑(pickN a.kd (8 : Nat)) : Int), Value.bool (decide ((↑(pickN a.kd (8 : Nat)) : Int) = (0 : Int))), Value.bool (decide ((↑(pickN a.kd (8 : Nat)) : Int) = (0 : Int))), tu, tu, tu, tu, tu, tu, tu, tu, tu, tu, tu, tu, tu, tu, tu, tu, tu, tu, tu, tu, tu, tu, tu, tu, tu, tu, tu, tu, tu, tu, tu, tu, tu, tu, tu, tu, tu, tu, tu, tu, tu, tu, tu, tu, tu, tu, tu, tu, tu, tu, tu, tu, tu, tu, tu, tu, tu, tu, tu, tu, tu, tu, tu, tu, tu, tu, tu, tu, tu, tu, tu, tu, tu, tu, tu, tu, tu, tu, tu, tu, tu, tu, tu, tu, tu, tu, tu, tu, tu, tu, tu, tu, tu, tu, tu, tu, tu, tu, tu, tu, tu, tu, tu, tu, tu, tu, tu, tu, tu, tu, tu, tu, tu, tu, tu, tu, tu, tu, tu, tu, tu, tu, tu, tu, tu, tu, tu, tu, tu, tu, tu, tu, tu, tu, tu, tu, tu, tu, tu, tu, tu, tu, tu, tu, tu, tu, tu, tu, tu, tu, tu, tu, tu, tu, tu, tu, tu, tu, tu, tu, tu, tu, tu, tu, tu, tu, tu, tu, tu, tu, tu, tu, tu, tu, tu, tu, tu, tu, tu, tu, tu, tu, tu, tu, tu, tu, tu, tu, tu, tu, tu, tu, tu, tu, tu, tu, tu, tu, tu, tu, tu, tu, tu, tu] : List Value).getD j9 undef) ?_))
      · rfl
      · exact decide_eq_true (by omega)
    · have h02 : pickN a.kd 8 = 1 := by omega
      (focus
        refine Xg.at_region ?_
        refine Xg.ops_op (by kernel_rfl) (Xg.opx_pure (.bool (decide ((((↑(pickN a.kd (8 : Nat)) : Int)) : Int) = ((0 : Int))))) rfl (fun _ => by kernel_rfl) ?_)
        refine Xg.ops_op (by kernel_rfl) (Xg.opx_pure ((Value.bool (decide ((↑(pickN a.kd (8 : Nat)) : Int) = (0 : Int))))) rfl (fun _ => by kernel_rfl) ?_)
        refine Xg.ops_nil ?_
        refine Xg.at_false (t := decide (((↑(pickN a.kd (8 : Nat)) : Int) = (0 : Int)))) (by kernel_rfl) (decide_eq_false (by omega)) ?_
        refine Xg.at_region ?_
        refine Xg.ops_op (by kernel_rfl) (Xg.opx_pure (.bool (decide ((((↑(pickN a.kd (8 : Nat)) : Int)) : Int) = ((1 : Int))))) rfl (fun _ => by kernel_rfl) ?_)
        refine Xg.ops_op (by kernel_rfl) (Xg.opx_pure ((Value.bool (decide ((↑(pickN a.kd (8 : Nat)) : Int) = (1 : Int))))) rfl (fun _ => by kernel_rfl) ?_)
        refine Xg.ops_nil ?_)
      (focus
        refine Xg.at_keep [0, 1, 2, 3, 4, 5] (by kernel_rfl) ?_
        refine Xg.At.same (by kernel_rfl) ?_ (hk ((decide (((pickN a.kd 8 : Nat) : Int) = 1)), fun j9 => ([pv p 0, Value.agg #[iv (↑x.id : Int), Value.slice x.la x.les.length x.lc, Value.slice x.ba x.Z.length x.bc], Value.agg #[iv a.kd, iv a.wh, iv a.sz, iv a.pk, iv a.ap, iv a.bt], iv q, tu, pv xb1 0, pv xb2 0, tu, pv xb3 0, Value.bool false, iv (↑k : Int), tu, tu, tu, tu, tu, tu, tu, tu, tu, tu, tu, tu, tu, tu, tu, tu, tu, pv xb1 1, Value.slice x.la x.les.length x.lc, iv (↑x.les.length : Int), Value.bool (decide ((↑x.les.length : Int) > (0 : Int))), J 32, J 33, J 34, J 35, J 36, J 37, pv xb2 0, iv a.kd, iv (↑(pickN a.kd (8 : Nat)) : Int), Value.bool (decide ((↑(pickN a.kd (8 : Nat)) : Int) = (1 : Int))), Value.bool (decide ((↑(pickN a.kd (8 : Nat)) : Int) = (0 : Int))), Value.bool (decide ((↑(pickN a.kd (8 : Nat)) : Int) = (1 : Int))), tu, tu, tu, tu, tu, tu, tu, tu, tu, tu, tu, tu, tu, tu, tu, tu, tu, tu, tu, tu, tu, tu, tu, tu, tu, tu, tu, tu, tu, tu, tu, tu, tu, tu, tu, tu, tu, tu, tu, tu, tu, tu, tu, tu, tu, tu, tu, tu, tu, tu, tu, tu, tu, tu, tu, tu, tu, tu, tu, tu, tu, tu, tu, tu, tu, tu, tu, tu, tu, tu, tu, tu, tu, tu, tu, tu, tu, tu, tu, tu, tu, tu, tu, tu, tu, tu, tu, tu, tu, tu, tu, tu, tu, tu, tu, tu, tu, tu, tu, tu, tu, tu, tu, tu, tu, tu, tu, tu, tu, tu, tu, tu, tu, tu, tu, tu, tu, tu, tu, tu, tu, tu, tu, tu, tu, tu, tu, tu, tu, tu, tu, tu, tu, tu, tu, tu, tu, tu, tu, tu, tu, tu, tu, tu, tu, tu, tu, tu, tu, tu, tu, tu, tu, tu, tu, tu, tu, tu, tu, tu, tu, tu, tu, tu, tu, tu, tu, tu, tu, tu, tu, tu, tu, tu, tu, tu, tu, tu, tu, tu, tu, tu, tu, tu, tu, tu, tu, tu, tu, tu, tu, tu, tu, tu, tu, tu, tu, tu, tu, tu, tu, tu, tu] : List Value).getD j9 undef) ?_))
      · rfl
      · exact decide_eq_true (by omega)
  rintro ⟨b0, J0⟩ hu0
  dsimp only at hu0
  subst hu0
  (focus
    refine Xg.At.same (T' := [pv p 0, Value.agg #[iv (↑x.id : Int), Value.slice x.la x.les.length x.lc, Value.slice x.ba x.Z.length x.bc], Value.agg #[iv a.kd, iv a.wh, iv a.sz, iv a.pk, iv a.ap, iv a.bt], iv q, tu, pv xb1 0, pv xb2 0, tu, pv xb3 0, Value.bool false, iv (↑k : Int), tu, tu, tu, tu, tu, tu, tu, tu, tu, tu, tu, tu, tu, tu, tu, tu, tu, pv xb1 1, Value.slice x.la x.les.length x.lc, iv (↑x.les.length : Int), Value.bool (decide ((↑x.les.length : Int) > (0 : Int))), J 32, J 33, J 34, J 35, J 36, J 37, pv xb2 0, iv a.kd, iv (↑(pickN a.kd (8 : Nat)) : Int), Value.bool true, J0 42, J0 43, tu, tu, tu, tu, tu, tu, tu, tu, tu, tu, tu, tu, tu, tu, tu, tu, tu, tu, tu, tu, tu, tu, tu, tu, tu, tu, tu, tu, tu, tu, tu, tu, tu, tu, tu, tu, tu, tu, tu, tu, tu, tu, tu, tu, tu, tu, tu, tu, tu, tu, tu, tu, tu, tu, tu, tu, tu, tu, tu, tu, tu, tu, tu, tu, tu, tu, tu, tu, tu, tu, tu, tu, tu, tu, tu, tu, tu, tu, tu, tu, tu, tu, tu, tu, tu, tu, tu, tu, tu, tu, tu, tu, tu, tu, tu, tu, tu, tu, tu, tu, tu, tu, tu, tu, tu, tu, tu, tu, tu, tu, tu, tu, tu, tu, tu, tu, tu, tu, tu, tu, tu, tu, tu, tu, tu, tu, tu, tu, tu, tu, tu, tu, tu, tu, tu, tu, tu, tu, tu, tu, tu, tu, tu, tu, tu, tu, tu, tu, tu, tu, tu, tu, tu, tu, tu, tu, tu, tu, tu, tu, tu, tu, tu, tu, tu, tu, tu, tu, tu, tu, tu, tu, tu, tu, tu, tu, tu, tu, tu, tu, tu, tu, tu, tu, tu, tu, tu, tu, tu, tu, tu, tu, tu, tu, tu, tu, tu, tu, tu, tu, tu, tu, tu]) (L' := [PoolS p σ, LeP x, BhP x, row xb1 (62 : TypeId) (hdK x), row xb2 (59 : TypeId) (acC a), row xb3 (62 : TypeId) [iv 0, Value.slice none (0 : Nat) (0 : Nat), Value.slice none (0 : Nat) (0 : Nat)]]) (by kernel_rfl) rfl ?_)
  (focus
    refine Xg.at_true (t := true) (by kernel_rfl) rfl ?_
    refine Xg.at_seq ?_
    refine Xg.at_region ?_
    refine Xg.ops_op (by kernel_rfl) (Xg.opx_pure ((pv xb2 2)) rfl (fun _ => by kernel_rfl) ?_)
    refine Xg.ops_op (by kernel_rfl) (Xg.opx_load (b := xb2) (off := ((2 : Nat))) 4 (iv a.sz) rfl (by kernel_rfl) (by kernel_rfl) (by kernel_rfl) ?_)
    refine Xg.ops_op (by kernel_rfl) (Xg.opx_call1' [] [PoolS p σ, LeP x, BhP x, row xb1 (62 : TypeId) [iv (↑x.id : Int), Value.slice x.la x.les.length x.lc, Value.slice x.ba x.Z.length x.bc], row xb2 (59 : TypeId) [iv a.kd, iv a.wh, iv a.sz, iv a.pk, iv a.ap, iv a.bt], row xb3 (62 : TypeId) [iv 0, Value.slice none (0 : Nat) (0 : Nat), Value.slice none (0 : Nat) (0 : Nat)]] (fun _ => by kernel_rfl) (@hp16 ) (by kernel_rfl) (by kernel_rfl) (by kernel_rfl) ?_)
    refine Xg.ops_op (by kernel_rfl) (Xg.opx_int .i64 (IntKind.wrap .i64 (((1 : Int) + (↑(pickN a.sz (16 : Nat)) : Int)))) rfl (fun _ => by kernel_rfl) (Xg.wrap_i64_in (by omega)) ?_)
    refine Xg.ops_op (by kernel_rfl) (Xg.opx_pure ((iv ((1 : Int) + (↑(pickN a.sz (16 : Nat)) : Int)))) rfl (fun _ => by kernel_rfl) ?_)
    refine Xg.ops_nil ?_
    refine Xg.at_seq ?_
    refine Xg.at_region ?_
    refine Xg.ops_op (by kernel_rfl) (Xg.opx_pure ((iv 0)) rfl (fun _ => by kernel_rfl) ?_)
    refine Xg.ops_nil ?_
    refine Xg.at_seq ?_
    refine Xg.at_region ?_
    refine Xg.ops_op (by kernel_rfl) (Xg.opx_pure ((iv 4)) rfl (fun _ => by kernel_rfl) ?_)
    refine Xg.ops_nil ?_
    refine Xg.at_seq ?_
    refine Xg.at_seq ?_
    refine Xg.at_region ?_
    refine Xg.ops_op (by kernel_rfl) (Xg.opx_pure ((iv ((1 : Int) + (↑(pickN a.sz (16 : Nat)) : Int)))) rfl (fun _ => by kernel_rfl) ?_)
    refine Xg.ops_op (by kernel_rfl) (Xg.opx_pure (.bool (decide ((((1 : Int) + (↑(pickN a.sz (16 : Nat)) : Int)) : Int) > ((4 : Int))))) rfl (fun _ => by kernel_rfl) ?_)
    refine Xg.ops_nil ?_)
  (focus
    refine Xg.at_cut (α := (Nat × Nat) × (Nat → Value)) (fun x9 => ((fun y => y.1 = clsA a ∧ y.2 = hasA a) : (Nat × Nat) → Prop) x9.1) (fun x9 => Xg.headT [pv p 0, Value.agg #[iv (↑x.id : Int), Value.slice x.la x.les.length x.lc, Value.slice x.ba x.Z.length x.bc], Value.agg #[iv a.kd, iv a.wh, iv a.sz, iv a.pk, iv a.ap, iv a.bt], iv q, tu, pv xb1 0, pv xb2 0, tu, pv xb3 0, Value.bool false, iv (↑k : Int), iv ((1 : Int) + (↑(pickN a.sz (16 : Nat)) : Int)), iv 0, iv 4, tu, tu, tu, tu, tu, tu, tu, tu, tu, tu, tu, tu, tu, tu, pv xb1 1, Value.slice x.la x.les.length x.lc, iv (↑x.les.length : Int), Value.bool (decide ((↑x.les.length : Int) > (0 : Int))), J 32, J 33, J 34, J 35, J 36, J 37, pv xb2 0, iv a.kd, iv (↑(pickN a.kd (8 : Nat)) : Int), Value.bool true, J0 42, J0 43, pv xb2 2, iv a.sz, iv (↑(pickN a.sz (16 : Nat)) : Int), iv ((1 : Int) + (↑(pickN a.sz (16 : Nat)) : Int)), iv ((1 : Int) + (↑(pickN a.sz (16 : Nat)) : Int)), Value.bool (decide ((1 : Int) + (↑(pickN a.sz (16 : Nat)) : Int) > (4 : Int))), tu, tu, tu, tu, tu, tu, tu, tu, tu, tu, tu, tu, tu, tu, tu, tu, tu, tu, tu, tu, tu, tu, tu, tu, tu, tu, tu, tu, tu, tu, tu, tu, tu, tu, tu, tu, tu, tu, tu, tu, tu, tu, tu, tu, tu, tu, tu, tu, tu, tu, tu, tu, tu, tu, tu, tu, tu, tu, tu, tu, tu, tu, tu, tu, tu, tu, tu, tu, tu, tu, tu, tu, tu, tu, tu, tu, tu, tu, tu, tu, tu, tu, tu, tu, tu, tu, tu, tu, tu, tu, tu, tu, tu, tu, tu, tu, tu, tu, tu, tu, tu, tu, tu, tu, tu, tu, tu, tu, tu, tu, tu, tu, tu, tu, tu, tu, tu, tu, tu, tu, tu, tu, tu, tu, tu, tu, tu, tu, tu, tu, tu, tu, tu, tu, tu, tu, tu, tu, tu, tu, tu, tu, tu, tu, tu, tu, tu, tu, tu, tu, tu, tu, tu, tu, tu, tu, tu, tu, tu, tu, tu, tu, tu, tu, tu, tu, tu, tu, tu, tu, tu, tu, tu, tu, tu, tu, tu, tu, tu, tu, tu, tu, tu, tu, tu, tu, tu, tu, tu, tu, tu, tu, tu, tu, tu, tu, tu] [] (((fun y => [(12, .int .i64 (y.1 : Nat)), (13, .int .i64 (y.2 : Nat))]) : (Nat × Nat) → List (Nat × Go.Value)) x9.1) x9.2) (fun x9 => ((fun y => [PoolS p σ, LeP x, BhP x, row xb1 62 (hdK x), row xb2 59 (acC a), row xb3 62 [.int .i64 0, .slice none 0 0, .slice none 0 0]]) : (Nat × Nat) → List Go.Sl.HP) x9.1) (fun kk hk => ?_) ?_)
  · by_cases h4 : 1 + pickN a.sz 16 > 4
    · (focus
        refine Xg.at_true (t := decide (((1 : Int) + (↑(pickN a.sz (16 : Nat)) : Int) > (4 : Int)))) (by kernel_rfl) (decide_eq_true (by omega)) ?_
        refine Xg.at_seq ?_
        refine Xg.at_region ?_
        refine Xg.ops_op (by kernel_rfl) (Xg.opx_pure ((iv 1)) rfl (fun _ => by kernel_rfl) ?_)
        refine Xg.ops_nil ?_
        refine Xg.at_region ?_
        refine Xg.ops_op (by kernel_rfl) (Xg.opx_pure ((iv 16)) rfl (fun _ => by kernel_rfl) ?_)
        refine Xg.ops_nil ?_)
      (focus
        refine Xg.at_keep [0, 1, 2, 3, 4, 5] (by kernel_rfl) ?_
        refine Xg.At.same (by kernel_rfl) ?_ (hk (((1, 16)), fun j9 => ([pv p 0, Value.agg #[iv (↑x.id : Int), Value.slice x.la x.les.length x.lc, Value.slice x.ba x.Z.length x.bc], Value.agg #[iv a.kd, iv a.wh, iv a.sz, iv a.pk, iv a.ap, iv a.bt], iv q, tu, pv xb1 0, pv xb2 0, tu, pv xb3 0, Value.bool false, iv (↑k : Int), iv ((1 : Int) + (↑(pickN a.sz (16 : Nat)) : Int)), iv 1, iv 16, tu, tu, tu, tu, tu, tu, tu, tu, tu, tu, tu, tu, tu, tu, pv xb1 1, Value.slice x.la x.les.length x.lc, iv (↑x.les.length : Int), Value.bool (decide ((↑x.les.length : Int) > (0 : Int))), J 32, J 33, J 34, J 35, J 36, J 37, pv xb2 0, iv a.kd, iv (↑(pickN a.kd (8 : Nat)) : Int), Value.bool true, J0 42, J0 43, pv xb2 2, iv a.sz, iv (↑(pickN a.sz (16 : Nat)) : Int), iv ((1 : Int) + (↑(pickN a.sz (16 : Nat)) : Int)), iv ((1 : Int) + (↑(pickN a.sz (16 : Nat)) : Int)), Value.bool (decide ((1 : Int) + (↑(pickN a.sz (16 : Nat)) : Int) > (4 : Int))), tu, tu, tu, tu, tu, tu, tu, tu, tu, tu, tu, tu, tu, tu, tu, tu, tu, tu, tu, tu, tu, tu, tu, tu, tu, tu, tu, tu, tu, tu, tu, tu, tu, tu, tu, tu, tu, tu, tu, tu, tu, tu, tu, tu, tu, tu, tu, tu, tu, tu, tu, tu, tu, tu, tu, tu, tu, tu, tu, tu, tu, tu, tu, tu, tu, tu, tu, tu, tu, tu, tu, tu, tu, tu, tu, tu, tu, tu, tu, tu, tu, tu, tu, tu, tu, tu, tu, tu, tu, tu, tu, tu, tu, tu, tu, tu, tu, tu, tu, tu, tu, tu, tu, tu, tu, tu, tu, tu, tu, tu, tu, tu, tu, tu, tu, tu, tu, tu, tu, tu, tu, tu, tu, tu, tu, tu, tu, tu, tu, tu, tu, tu, tu, tu, tu, tu, tu, tu, tu, tu, tu, tu, tu, tu, tu, tu, tu, tu, tu, tu, tu, tu, tu, tu, tu, tu, tu, tu, tu, tu, tu, tu, tu, tu, tu, tu, tu, tu, tu, tu, tu, tu, tu, tu, tu, tu, tu, tu, tu, tu, tu, tu, tu, tu, tu, tu, tu, tu, tu, tu, tu, tu, tu, tu, tu, tu, tu] : List Value).getD j9 undef) ?_))
      · rfl
      · dsimp only; unfold clsA hasA; rw [if_pos h4, if_pos h4]; exact ⟨rfl, rfl⟩
    · (focus
        refine Xg.at_false (t := decide (((1 : Int) + (↑(pickN a.sz (16 : Nat)) : Int) > (4 : Int)))) (by kernel_rfl) (decide_eq_false (by omega)) ?_
        refine Xg.at_skip ?_)
      (focus
        refine Xg.at_keep [0, 1, 2, 3, 4, 5] (by kernel_rfl) ?_
        refine Xg.At.same (by kernel_rfl) ?_ (hk (((0, 4)), fun j9 => ([pv p 0, Value.agg #[iv (↑x.id : Int), Value.slice x.la x.les.length x.lc, Value.slice x.ba x.Z.length x.bc], Value.agg #[iv a.kd, iv a.wh, iv a.sz, iv a.pk, iv a.ap, iv a.bt], iv q, tu, pv xb1 0, pv xb2 0, tu, pv xb3 0, Value.bool false, iv (↑k : Int), iv ((1 : Int) + (↑(pickN a.sz (16 : Nat)) : Int)), iv 0, iv 4, tu, tu, tu, tu, tu, tu, tu, tu, tu, tu, tu, tu, tu, tu, pv xb1 1, Value.slice x.la x.les.length x.lc, iv (↑x.les.length : Int), Value.bool (decide ((↑x.les.length : Int) > (0 : Int))), J 32, J 33, J 34, J 35, J 36, J 37, pv xb2 0, iv a.kd, iv (↑(pickN a.kd (8 : Nat)) : Int), Value.bool true, J0 42, J0 43, pv xb2 2, iv a.sz, iv (↑(pickN a.sz (16 : Nat)) : Int), iv ((1 : Int) + (↑(pickN a.sz (16 : Nat)) : Int)), iv ((1 : Int) + (↑(pickN a.sz (16 : Nat)) : Int)), Value.bool (decide ((1 : Int) + (↑(pickN a.sz (16 : Nat)) : Int) > (4 : Int))), tu, tu, tu, tu, tu, tu, tu, tu, tu, tu, tu, tu, tu, tu, tu, tu, tu, tu, tu, tu, tu, tu, tu, tu, tu, tu, tu, tu, tu, tu, tu, tu, tu, tu, tu, tu, tu, tu, tu, tu, tu, tu, tu, tu, tu, tu, tu, tu, tu, tu, tu, tu, tu, tu, tu, tu, tu, tu, tu, tu, tu, tu, tu, tu, tu, tu, tu, tu, tu, tu, tu, tu, tu, tu, tu, tu, tu, tu, tu, tu, tu, tu, tu, tu, tu, tu, tu, tu, tu, tu, tu, tu, tu, tu, tu, tu, tu, tu, tu, tu, tu, tu, tu, tu, tu, tu, tu, tu, tu, tu, tu, tu, tu, tu, tu, tu, tu, tu, tu, tu, tu, tu, tu, tu, tu, tu, tu, tu, tu, tu, tu, tu, tu, tu, tu, tu, tu, tu, tu, tu, tu, tu, tu, tu, tu, tu, tu, tu, tu, tu, tu, tu, tu, tu, tu, tu, tu, tu, tu, tu, tu, tu, tu, tu, tu, tu, tu, tu, tu, tu, tu, tu, tu, tu, tu, tu, tu, tu, tu, tu, tu, tu, tu, tu, tu, tu, tu, tu, tu, tu, tu, tu, tu, tu, tu, tu, tu] : List Value).getD j9 undef) ?_))
      · rfl
      · dsimp only; unfold clsA hasA; rw [if_neg h4, if_neg h4]; exact ⟨rfl, rfl⟩
  rintro ⟨⟨c, h⟩, J2⟩ hch
  obtain ⟨hc, hh⟩ := hch
  dsimp only at hc hh
  have hh2 : hasA a ≤ 16 := by unfold hasA; split <;> omega
  have hc2 : clsA a ≤ 1 := by unfold clsA; split <;> omega
  subst hc
  subst hh
  (focus
    refine Xg.At.same (T' := [pv p 0, Value.agg #[iv (↑x.id : Int), Value.slice x.la x.les.length x.lc, Value.slice x.ba x.Z.length x.bc], Value.agg #[iv a.kd, iv a.wh, iv a.sz, iv a.pk, iv a.ap, iv a.bt], iv q, tu, pv xb1 0, pv xb2 0, tu, pv xb3 0, Value.bool false, iv (↑k : Int), iv ((1 : Int) + (↑(pickN a.sz (16 : Nat)) : Int)), iv (↑(clsA a) : Int), iv (↑(hasA a) : Int), tu, tu, tu, tu, tu, tu, tu, tu, tu, tu, tu, tu, tu, tu, pv xb1 1, Value.slice x.la x.les.length x.lc, iv (↑x.les.length : Int), Value.bool (decide ((↑x.les.length : Int) > (0 : Int))), J 32, J 33, J 34, J 35, J 36, J 37, pv xb2 0, iv a.kd, iv (↑(pickN a.kd (8 : Nat)) : Int), Value.bool true, J0 42, J0 43, pv xb2 2, iv a.sz, iv (↑(pickN a.sz (16 : Nat)) : Int), iv ((1 : Int) + (↑(pickN a.sz (16 : Nat)) : Int)), iv ((1 : Int) + (↑(pickN a.sz (16 : Nat)) : Int)), Value.bool (decide ((1 : Int) + (↑(pickN a.sz (16 : Nat)) : Int) > (4 : Int))), tu, tu, tu, tu, tu, tu, tu, tu, tu, tu, tu, tu, tu, tu, tu, tu, tu, tu, tu, tu, tu, tu, tu, tu, tu, tu, tu, tu, tu, tu, tu, tu, tu, tu, tu, tu, tu, tu, tu, tu, tu, tu, tu, tu, tu, tu, tu, tu, tu, tu, tu, tu, tu, tu, tu, tu, tu, tu, tu, tu, tu, tu, tu, tu, tu, tu, tu, tu, tu, tu, tu, tu, tu, tu, tu, tu, tu, tu, tu, tu, tu, tu, tu, tu, tu, tu, tu, tu, tu, tu, tu, tu, tu, tu, tu, tu, tu, tu, tu, tu, tu, tu, tu, tu, tu, tu, tu, tu, tu, tu, tu, tu, tu, tu, tu, tu, tu, tu, tu, tu, tu, tu, tu, tu, tu, tu, tu, tu, tu, tu, tu, tu, tu, tu, tu, tu, tu, tu, tu, tu, tu, tu, tu, tu, tu, tu, tu, tu, tu, tu, tu, tu, tu, tu, tu, tu, tu, tu, tu, tu, tu, tu, tu, tu, tu, tu, tu, tu, tu, tu, tu, tu, tu, tu, tu, tu, tu, tu, tu, tu, tu, tu, tu, tu, tu, tu, tu, tu, tu, tu, tu, tu, tu, tu, tu, tu, tu]) (L' := [PoolS p σ, LeP x, BhP x, row xb1 (62 : TypeId) (hdK x), row xb2 (59 : TypeId) (acC a), row xb3 (62 : TypeId) [iv 0, Value.slice none (0 : Nat) (0 : Nat), Value.slice none (0 : Nat) (0 : Nat)]]) (by kernel_rfl) rfl ?_)
  have hzr : Does Try.prog 20 [.int .i64 (hasA a : Nat)] [] (RetE (fun z : Option Addr => z.isNone = false) (fun z => .slice z (List.replicate (hasA a) (0 : Int)).length (List.replicate (hasA a) (0 : Int)).length) (fun z => [Y2 z (hasA a) (List.replicate (hasA a) 0)])) := by
    rw [List.length_replicate]; exact zeros_d _ (by omega)
  have hpf := pick_r a.pk fr.length a4 hf
  have hpl := pickN_lt a.pk fr.length hf
  (focus
    refine Xg.at_seq ?_
    refine Xg.at_region ?_
    refine Xg.ops_op (by kernel_rfl) (Xg.opx_pure ((pv p 0)) rfl (fun _ => by kernel_rfl) ?_)
    refine Xg.ops_op (by kernel_rfl) (Xg.opx_pure ((iv (↑(clsA a) : Int))) rfl (fun _ => by kernel_rfl) ?_)
    refine Xg.ops_op (by kernel_rfl) (Xg.opx_callE' [0] (fun xx1 => [PoolS p σ, I2 xx1.fst xx1.snd fr, LeP x, BhP x, row xb1 (62 : TypeId) [iv (↑x.id : Int), Value.slice x.la x.les.length x.lc, Value.slice x.ba x.Z.length x.bc], row xb2 (59 : TypeId) [iv a.kd, iv a.wh, iv a.sz, iv a.pk, iv a.ap, iv a.bt], row xb3 (62 : TypeId) [iv 0, Value.slice none (0 : Nat) (0 : Nat), Value.slice none (0 : Nat) (0 : Nat)]]) (fun _ => by kernel_rfl) (@hfree ) (by kernel_rfl) (by kernel_rfl) (by kernel_rfl) fun xx1 xh1 => ?_)
    try dsimp only at xh1
    refine Xg.ops_op (by kernel_rfl) (Xg.opx_pure ((Value.slice xx1.fst fr.length xx1.snd)) rfl (fun _ => by kernel_rfl) ?_)
    refine Xg.ops_nil ?_
    refine Xg.at_seq ?_
    refine Xg.at_region ?_
    refine Xg.ops_op (by kernel_rfl) (Xg.opx_pure ((pv p 0)) rfl (fun _ => by kernel_rfl) ?_)
    refine Xg.ops_op (by kernel_rfl) (Xg.opx_pure ((pv xb1 0)) rfl (fun _ => by kernel_rfl) ?_)
    refine Xg.ops_op (by kernel_rfl) (Xg.opx_load (b := xb1) (off := ((0 : Nat))) 4 (iv (↑x.id : Int)) rfl (by kernel_rfl) (by kernel_rfl) (by kernel_rfl) ?_)
    refine Xg.ops_op (by kernel_rfl) (Xg.opx_pure ((iv ((1 : Int) + (↑(pickN a.sz (16 : Nat)) : Int)))) rfl (fun _ => by kernel_rfl) ?_)
    refine Xg.ops_op (by kernel_rfl) (Xg.opx_pure ((pv xb2 3)) rfl (fun _ => by kernel_rfl) ?_)
    refine Xg.ops_op (by kernel_rfl) (Xg.opx_load (b := xb2) (off := ((3 : Nat))) 5 (iv a.pk) rfl (by kernel_rfl) (by kernel_rfl) (by kernel_rfl) ?_)
    refine Xg.ops_op (by kernel_rfl) (Xg.opx_call1' [0] [PoolS p τ, I2 xx1.fst xx1.snd fr, LeP x, BhP x, row xb1 (62 : TypeId) [iv (↑x.id : Int), Value.slice x.la x.les.length x.lc, Value.slice x.ba x.Z.length x.bc], row xb2 (59 : TypeId) [iv a.kd, iv a.wh, iv a.sz, iv a.pk, iv a.ap, iv a.bt], row xb3 (62 : TypeId) [iv 0, Value.slice none (0 : Nat) (0 : Nat), Value.slice none (0 : Nat) (0 : Nat)]] (fun _ => by kernel_rfl) (@htake ) (by kernel_rfl) (by kernel_rfl) (by kernel_rfl) ?_)
    refine Xg.ops_op (by kernel_rfl) (Xg.opx_pure ((Value.tuple #[Value.agg #[iv (↑v : Int), iv (↑(clsA a) : Int), iv (↑(hasA a) : Int)], iv 0])) rfl (fun _ => by kernel_rfl) ?_)
    refine Xg.ops_op (by kernel_rfl) (Xg.opx_pure ((Value.agg #[iv (↑v : Int), iv (↑(clsA a) : Int), iv (↑(hasA a) : Int)])) rfl (fun _ => by kernel_rfl) ?_)
    refine Xg.ops_op (by kernel_rfl) (Xg.opx_pure ((iv 0)) rfl (fun _ => by kernel_rfl) ?_)
    refine Xg.ops_op (by kernel_rfl) (Xg.opx_new 3 [iv 0, iv 0, iv 0] (by kernel_rfl) (by kernel_rfl) fun xb4 => ?_)
    refine Xg.ops_op (by kernel_rfl) (Xg.opx_storen 3 (off := 0) 0 [iv (↑v : Int), iv (↑(clsA a) : Int), iv (↑(hasA a) : Int)] (by kernel_rfl) rfl (by kernel_rfl) (by kernel_rfl) rfl (by kernel_rfl) (Nat.le_of_ble_eq_true (by kernel_rfl)) ?_)
    refine Xg.ops_op (by kernel_rfl) (Xg.opx_pure ((iv 0)) rfl (fun _ => by kernel_rfl) ?_)
    refine Xg.ops_nil ?_
    refine Xg.at_seq ?_
    refine Xg.at_block ?_
    refine Xg.at_seq ?_
    refine Xg.at_region ?_
    refine Xg.ops_op (by kernel_rfl) (Xg.opx_loadn (off := 0) 3 5 [iv (↑x.id : Int), Value.slice x.la x.les.length x.lc, Value.slice x.ba x.Z.length x.bc] (by kernel_rfl) rfl (by kernel_rfl) rfl (Xg.cells_at (by kernel_rfl)) (by kernel_rfl) ?_)
    refine Xg.ops_op (by kernel_rfl) (Xg.opx_call1' [3] [recsO (42 : Nat) (3 : Nat) leK x.la x.lc x.les, row xb4 (42 : Nat) [iv (↑v : Int), iv (↑(clsA a) : Int), iv (↑(hasA a) : Int)], PoolS p τ, I2 xx1.fst xx1.snd fr, BhP x, row xb1 (62 : TypeId) [iv (↑x.id : Int), Value.slice x.la x.les.length x.lc, Value.slice x.ba x.Z.length x.bc], row xb2 (59 : TypeId) [iv a.kd, iv a.wh, iv a.sz, iv a.pk, iv a.ap, iv a.bt], row xb3 (62 : TypeId) [iv 0, Value.slice none (0 : Nat) (0 : Nat), Value.slice none (0 : Nat) (0 : Nat)]] (fun _ => by kernel_rfl) (@hsd (((↑x.id : Int))) (x.la) (x.lc) ((Value.slice x.ba x.Z.length x.bc))) (by kernel_rfl) (by kernel_rfl) (by kernel_rfl) ?_)
    refine Xg.ops_op (by kernel_rfl) (Xg.opx_pure ((iv (↑(hasA a) : Int))) rfl (fun _ => by kernel_rfl) ?_)
    refine Xg.ops_op (by kernel_rfl) (Xg.opx_int .i64 (IntKind.wrap .i64 ((sizeL x.les + (↑(hasA a) : Int)))) rfl (fun _ => by kernel_rfl) (Xg.wrap_i64_in (by omega)) ?_)
    refine Xg.ops_op (by kernel_rfl) (Xg.opx_pure ((iv q)) rfl (fun _ => by kernel_rfl) ?_)
    refine Xg.ops_op (by kernel_rfl) (Xg.opx_pure (.bool (decide (((sizeL x.les + (↑(hasA a) : Int)) : Int) > q))) rfl (fun _ => by kernel_rfl) ?_)
    refine Xg.ops_op (by kernel_rfl) (Xg.opx_pure ((Value.bool (decide (sizeL x.les + (↑(hasA a) : Int) > q)))) rfl (fun _ => by kernel_rfl) ?_)
    refine Xg.ops_nil ?_
    refine Xg.at_false (t := decide ((sizeL x.les + (↑(hasA a) : Int) > q))) (by kernel_rfl) (decide_eq_false (by omega)) ?_
    refine Xg.at_seq ?_
    refine Xg.at_region ?_
    refine Xg.ops_op (by kernel_rfl) (Xg.opx_pure ((Value.slice xx1.fst fr.length xx1.snd)) rfl (fun _ => by kernel_rfl) ?_)
    refine Xg.ops_op (by kernel_rfl) (Xg.opx_pure ((iv (↑fr.length : Int))) rfl (fun _ => by kernel_rfl) ?_)
    refine Xg.ops_op (by kernel_rfl) (Xg.opx_pure (.bool (decide ((((↑fr.length : Int)) : Int) = ((0 : Int))))) rfl (fun _ => by kernel_rfl) ?_)
    refine Xg.ops_op (by kernel_rfl) (Xg.opx_pure ((Value.bool (decide ((↑fr.length : Int) = (0 : Int))))) rfl (fun _ => by kernel_rfl) ?_)
    refine Xg.ops_nil ?_
    refine Xg.at_false (t := decide (((↑fr.length : Int) = (0 : Int)))) (by kernel_rfl) (decide_eq_false (by omega)) ?_
    refine Xg.at_skip ?_
    refine Xg.at_inBlock ?_
    refine Xg.at_seq ?_
    refine Xg.at_region ?_
    refine Xg.ops_op (by kernel_rfl) (Xg.opx_pure ((pv xb1 1)) rfl (fun _ => by kernel_rfl) ?_)
    refine Xg.ops_op (by kernel_rfl) (Xg.opx_load (b := xb1) (off := ((1 : Nat))) 5 (Value.slice x.la x.les.length x.lc) rfl (by kernel_rfl) (by kernel_rfl) (by kernel_rfl) ?_)
    refine Xg.ops_op (by kernel_rfl) (Xg.opx_loadn (off := 0) 3 1 [iv (↑v : Int), iv (↑(clsA a) : Int), iv (↑(hasA a) : Int)] (by kernel_rfl) rfl (by kernel_rfl) rfl (Xg.cells_at (by kernel_rfl)) (by kernel_rfl) ?_)
    refine Xg.ops_op (by kernel_rfl) (Xg.opx_bs (elem := 42) 3 [Value.agg #[iv (↑v : Int), iv (↑(clsA a) : Int), iv (↑(hasA a) : Int)]] [iv (↑v : Int), iv (↑(clsA a) : Int), iv (↑(hasA a) : Int)] (by kernel_rfl) (by kernel_rfl) (by decide) rfl (by kernel_rfl) (by kernel_rfl) (by kernel_rfl) (by kernel_rfl) fun xb5 => ?_)
    refine Xg.ops_op (by kernel_rfl) (Xg.opx_append_recs (elem := 42) (yv := (Value.slice (some (Addr.mk xb5 (0 : Nat) none)) (1 : Nat) (1 : Nat))) (l := x.les) 1 3 96 (((↑v : Int), (↑(clsA a) : Int), (↑(hasA a) : Int))) rfl (by kernel_rfl) (by kernel_rfl) (by kernel_rfl) (by kernel_rfl) (fun _ hS => Xg.row_rd hS 0 rfl (by kernel_rfl)) (by kernel_rfl) (by first | omega | (simp only [List.length_nil]; omega) | (simp; done) | (simp; omega)) (by first | omega | (simp only [List.length_nil]; omega) | (simp; done) | (simp; omega)) fun xa1 xc1 => ?_)
    have xl1 : ((x.les : (List (Int × Int × Int))) ++ ([(((↑v : Int), (↑(clsA a) : Int), (↑(hasA a) : Int)))] : (List (Int × Int × Int)))).length = (x.les : (List (Int × Int × Int))).length + 1 := by simp
    refine Xg.ops_op (by kernel_rfl) (Xg.opx_pure ((pv xb1 1)) rfl (fun _ => by kernel_rfl) ?_)
    refine Xg.ops_op (by kernel_rfl) (Xg.opx_store1 (off := 1) 6 (Value.slice xa1 (x.les ++ [((↑v : Int), (↑(clsA a) : Int), (↑(hasA a) : Int))]).length xc1) (by kernel_rfl) rfl (by kernel_rfl) (by kernel_rfl) (by kernel_rfl) (Nat.le_of_ble_eq_true (by kernel_rfl)) ?_)
    refine Xg.ops_nil ?_
    refine Xg.at_seq ?_
    refine Xg.at_draw [3, 4, 5, 7] [(1, [0, 1, 2, 3, 4], Xg.CellIs (xb1) (((2 : Nat))) ((Value.slice x.ba x.Z.length x.bc)))] (by kernel_rfl) ?_
    refine Xg.any_pure ((pv xb1 2)) 0 (by kernel_rfl) rfl (by kernel_rfl) (by kernel_rfl) (by kernel_rfl) (by kernel_rfl) rfl (fun _ => by kernel_rfl) ?_
    refine Xg.any_reads (Value.slice x.ba x.Z.length x.bc) 1 0 (by kernel_rfl) rfl (by kernel_rfl) (by kernel_rfl) (by kernel_rfl) (by kernel_rfl) rfl rfl (by kernel_rfl) (Xg.cell_now (b := xb1) (off := ((2 : Nat))) 6 rfl (by kernel_rfl)) (fun _ h => Xg.run_load (by kernel_rfl) (by kernel_rfl) h) ?_
    refine Xg.any_pure ((iv (↑(hasA a) : Int))) 2 (by kernel_rfl) rfl (by kernel_rfl) (by kernel_rfl) (by kernel_rfl) (by kernel_rfl) rfl (fun _ => by kernel_rfl) ?_
    refine Xg.any_each [3] (by kernel_rfl) rfl ⟨?_, trivial⟩
    refine Xg.comes_act rfl (by kernel_rfl) (by kernel_rfl) (Xg.opx_callE' [] (fun xx2 => [Y2 xx2 (hasA a) (List.replicate (hasA a) (0 : Int)), row xb5 (42 : TypeId) [iv (↑v : Int), iv (↑(clsA a) : Int), iv (↑(hasA a) : Int)], recsO (42 : TypeId) (3 : Nat) leK xa1 xc1 (x.les ++ [((↑v : Int), (↑(clsA a) : Int), (↑(hasA a) : Int))]), row xb4 (42 : Nat) [iv (↑v : Int), iv (↑(clsA a) : Int), iv (↑(hasA a) : Int)], PoolS p τ, I2 xx1.fst xx1.snd fr, BhP x, row xb1 (62 : TypeId) [iv (↑x.id : Int), Value.slice xa1 (x.les ++ [((↑v : Int), (↑(clsA a) : Int), (↑(hasA a) : Int))]).length xc1, Value.slice x.ba x.Z.length x.bc], row xb2 (59 : TypeId) [iv a.kd, iv a.wh, iv a.sz, iv a.pk, iv a.ap, iv a.bt], row xb3 (62 : TypeId) [iv 0, Value.slice none (0 : Nat) (0 : Nat), Value.slice none (0 : Nat) (0 : Nat)]]) (fun _ => by kernel_rfl) (@hzr ) (by kernel_rfl) (by kernel_rfl) (by kernel_rfl) fun xx2 xh2 => ?_)
    try dsimp only at xh2
    refine Xg.acts (Xg.owes_cell 7 rfl (by kernel_rfl) Xg.owes_nil) ?_
    refine Xg.any_each [4] (by kernel_rfl) rfl ⟨?_, trivial⟩
    refine Xg.comes_act rfl (by kernel_rfl) (by kernel_rfl) (Xg.opx_bs (elem := 40) 1 [Value.slice xx2 (List.replicate (hasA a) (0 : Int)).length (List.replicate (hasA a) (0 : Int)).length] [Value.slice xx2 (List.replicate (hasA a) (0 : Int)).length (List.replicate (hasA a) (0 : Int)).length] (by kernel_rfl) (by kernel_rfl) (by decide) rfl (by kernel_rfl) (by kernel_rfl) (by kernel_rfl) (by kernel_rfl) fun xb6 => ?_)
    refine Xg.acts (Xg.owes_cell 8 rfl (by kernel_rfl) Xg.owes_nil) ?_
    refine Xg.any_each [5] (by kernel_rfl) rfl ⟨?_, trivial⟩
    refine Xg.comes_act rfl (by kernel_rfl) (by kernel_rfl) (Xg.opx_append_recs (elem := 40) (yv := (Value.slice (some (Addr.mk xb6 (0 : Nat) none)) (1 : Nat) (1 : Nat))) (l := x.Z) 7 1 32 ((xx2, List.replicate (hasA a) (0 : Int))) rfl (by kernel_rfl) (by kernel_rfl) (by kernel_rfl) (by kernel_rfl) (fun _ hS => Xg.row_rd hS 0 rfl (by kernel_rfl)) (by kernel_rfl) (by first | omega | (simp only [List.length_nil]; omega) | (simp; done) | (simp; omega)) (by first | omega | (simp only [List.length_nil]; omega) | (simp; done) | (simp; omega)) fun xa2 xc2 => ?_)
    have xl2 : ((x.Z : (List (Option Addr × List Int))) ++ ([((xx2, List.replicate (hasA a) (0 : Int)))] : (List (Option Addr × List Int)))).length = (x.Z : (List (Option Addr × List Int))).length + 1 := by simp
    refine Xg.acts (Xg.owes_skip (by kernel_rfl) Xg.owes_nil) ?_
    refine Xg.any_pure ((pv xb1 2)) 6 (by kernel_rfl) rfl (by kernel_rfl) (by kernel_rfl) (by kernel_rfl) (by kernel_rfl) rfl (fun _ => by kernel_rfl) ?_
    refine Xg.any_each [7] (by kernel_rfl) rfl ⟨?_, trivial⟩
    refine Xg.comes_act rfl (by kernel_rfl) (by kernel_rfl) (Xg.opx_store1 (off := 2) 8 (Value.slice xa2 (x.Z ++ [(xx2, List.replicate (hasA a) (0 : Int))]).length xc2) (by kernel_rfl) rfl (by kernel_rfl) (by kernel_rfl) (by kernel_rfl) (Nat.le_of_ble_eq_true (by kernel_rfl)) ?_)
    refine Xg.acts (Xg.owes_skip (by kernel_rfl) Xg.owes_nil) ?_
    refine Xg.any_nil (by kernel_rfl) ?_
    refine Xg.at_seq ?_)
  (focus
    refine Xg.at_draw [0, 23, 28] [(5, [0, 1, 2, 3, 4, 5, 6], Xg.CellIs (xb4) (((1 : Nat))) ((iv (↑(clsA a) : Int)))), (11, [0, 1, 2, 3, 4, 5, 6, 7, 8, 9, 10, 11, 12], Xg.CellIs (xb4) (((2 : Nat))) ((iv (↑(hasA a) : Int)))), (17, [0, 1, 2, 3, 4, 5, 6, 7, 8, 9, 10, 11, 12, 13, 14, 15, 16, 17, 18, 19, 20, 21, 22, 23, 24, 25, 28], Xg.CellIs (xb4) (((0 : Nat))) ((iv (↑v : Int)))), (20, [0, 1, 2, 3, 4, 5, 6, 7, 8, 9, 10, 11, 12, 13, 14, 15, 16, 17, 18, 19, 20, 21, 22], Xg.CellIs (xb2) (((3 : Nat))) ((iv a.pk))), (24, [0, 1, 2, 3, 4, 5, 6, 7, 8, 9, 10, 11, 12, 13, 14, 15, 16, 17, 18, 19, 20, 21, 22, 23, 24, 28], (RdIs (1 : Nat) (Value.slice xx1.fst fr.length xx1.snd) fr.length (List.map (Value.int IntKind.i64) fr))), (25, [0, 1, 2, 3, 4, 5, 6, 7, 8, 9, 10, 11, 12, 13, 14, 15, 16, 17, 18, 19, 20, 21, 22, 23, 24, 25, 28], (RdIs (1 : Nat) (Value.slice xx1.fst fr.length xx1.snd) fr.length (List.map (Value.int IntKind.i64) fr)))] (by kernel_rfl) ?_
    refine Xg.any_pure ((iv 0)) 1 (by kernel_rfl) rfl (by kernel_rfl) (by kernel_rfl) (by kernel_rfl) (by kernel_rfl) rfl (fun _ => by kernel_rfl) ?_
    refine Xg.any_pure ((Value.bool true)) 2 (by kernel_rfl) rfl (by kernel_rfl) (by kernel_rfl) (by kernel_rfl) (by kernel_rfl) rfl (fun _ => by kernel_rfl) ?_
    refine Xg.any_pure ((Value.bool true)) 3 (by kernel_rfl) rfl (by kernel_rfl) (by kernel_rfl) (by kernel_rfl) (by kernel_rfl) rfl (fun _ => by kernel_rfl) ?_
    refine Xg.any_pure ((pv xb4 1)) 4 (by kernel_rfl) rfl (by kernel_rfl) (by kernel_rfl) (by kernel_rfl) (by kernel_rfl) rfl (fun _ => by kernel_rfl) ?_
    refine Xg.any_reads (iv (↑(clsA a) : Int)) 5 0 (by kernel_rfl) rfl (by kernel_rfl) (by kernel_rfl) (by kernel_rfl) (by kernel_rfl) rfl rfl (by kernel_rfl) (Xg.cell_now (b := xb4) (off := ((1 : Nat))) 4 rfl (by kernel_rfl)) (fun _ h => Xg.run_load (by kernel_rfl) (by kernel_rfl) h) ?_
    refine Xg.any_pure ((iv (↑(clsA a) : Int))) 6 (by kernel_rfl) rfl (by kernel_rfl) (by kernel_rfl) (by kernel_rfl) (by kernel_rfl) rfl (fun _ => by kernel_rfl) ?_
    refine Xg.any_pure (.bool (decide ((((↑(clsA a) : Int)) : Int) = ((↑(clsA a) : Int))))) 7 (by kernel_rfl) rfl (by kernel_rfl) (by kernel_rfl) (by kernel_rfl) (by kernel_rfl) rfl (fun _ => by kernel_rfl) ?_
    refine Xg.any_flag (j := 100) (c := (decide ((↑(clsA a) : Int) = (↑(clsA a) : Int)))) (by kernel_rfl) (fun _ => ?_) (fun xh3 => absurd (of_decide_eq_false xh3) (by omega))
    refine Xg.any_pure ((Value.bool true)) 8 (by kernel_rfl) rfl (by kernel_rfl) (by kernel_rfl) (by kernel_rfl) (by kernel_rfl) rfl (fun _ => by kernel_rfl) ?_
    refine Xg.any_pure ((Value.bool true)) 9 (by kernel_rfl) rfl (by kernel_rfl) (by kernel_rfl) (by kernel_rfl) (by kernel_rfl) rfl (fun _ => by kernel_rfl) ?_
    refine Xg.any_pure ((pv xb4 2)) 10 (by kernel_rfl) rfl (by kernel_rfl) (by kernel_rfl) (by kernel_rfl) (by kernel_rfl) rfl (fun _ => by kernel_rfl) ?_
    refine Xg.any_reads (iv (↑(hasA a) : Int)) 11 1 (by kernel_rfl) rfl (by kernel_rfl) (by kernel_rfl) (by kernel_rfl) (by kernel_rfl) rfl rfl (by kernel_rfl) (Xg.cell_now (b := xb4) (off := ((2 : Nat))) 4 rfl (by kernel_rfl)) (fun _ h => Xg.run_load (by kernel_rfl) (by kernel_rfl) h) ?_
    refine Xg.any_pure ((iv (↑(hasA a) : Int))) 12 (by kernel_rfl) rfl (by kernel_rfl) (by kernel_rfl) (by kernel_rfl) (by kernel_rfl) rfl (fun _ => by kernel_rfl) ?_
    refine Xg.any_pure (.bool (decide ((((↑(hasA a) : Int)) : Int) = ((↑(hasA a) : Int))))) 13 (by kernel_rfl) rfl (by kernel_rfl) (by kernel_rfl) (by kernel_rfl) (by kernel_rfl) rfl (fun _ => by kernel_rfl) ?_
    refine Xg.any_flag (j := 106) (c := (decide ((↑(hasA a) : Int) = (↑(hasA a) : Int)))) (by kernel_rfl) (fun _ => ?_) (fun xh3 => absurd (of_decide_eq_false xh3) (by omega))
    refine Xg.any_pure ((Value.bool true)) 14 (by kernel_rfl) rfl (by kernel_rfl) (by kernel_rfl) (by kernel_rfl) (by kernel_rfl) rfl (fun _ => by kernel_rfl) ?_
    refine Xg.any_pure ((Value.bool true)) 15 (by kernel_rfl) rfl (by kernel_rfl) (by kernel_rfl) (by kernel_rfl) (by kernel_rfl) rfl (fun _ => by kernel_rfl) ?_
    refine Xg.any_pure ((pv xb4 0)) 16 (by kernel_rfl) rfl (by kernel_rfl) (by kernel_rfl) (by kernel_rfl) (by kernel_rfl) rfl (fun _ => by kernel_rfl) ?_
    refine Xg.any_reads (iv (↑v : Int)) 17 2 (by kernel_rfl) rfl (by kernel_rfl) (by kernel_rfl) (by kernel_rfl) (by kernel_rfl) rfl rfl (by kernel_rfl) (Xg.cell_now (b := xb4) (off := ((0 : Nat))) 4 rfl (by kernel_rfl)) (fun _ h => Xg.run_load (by kernel_rfl) (by kernel_rfl) h) ?_
    refine Xg.any_pure ((Value.slice xx1.fst fr.length xx1.snd)) 18 (by kernel_rfl) rfl (by kernel_rfl) (by kernel_rfl) (by kernel_rfl) (by kernel_rfl) rfl (fun _ => by kernel_rfl) ?_
    refine Xg.any_pure ((pv xb2 3)) 19 (by kernel_rfl) rfl (by kernel_rfl) (by kernel_rfl) (by kernel_rfl) (by kernel_rfl) rfl (fun _ => by kernel_rfl) ?_
    refine Xg.any_reads (iv a.pk) 20 3 (by kernel_rfl) rfl (by kernel_rfl) (by kernel_rfl) (by kernel_rfl) (by kernel_rfl) rfl rfl (by kernel_rfl) (Xg.cell_now (b := xb2) (off := ((3 : Nat))) 9 rfl (by kernel_rfl)) (fun _ h => Xg.run_load (by kernel_rfl) (by kernel_rfl) h) ?_
    refine Xg.any_pure ((Value.slice xx1.fst fr.length xx1.snd)) 21 (by kernel_rfl) rfl (by kernel_rfl) (by kernel_rfl) (by kernel_rfl) (by kernel_rfl) rfl (fun _ => by kernel_rfl) ?_
    refine Xg.any_pure ((iv (↑fr.length : Int))) 22 (by kernel_rfl) rfl (by kernel_rfl) (by kernel_rfl) (by kernel_rfl) (by kernel_rfl) rfl (fun _ => by kernel_rfl) ?_
    refine Xg.any_each [0, 23] (by kernel_rfl) rfl ⟨?_, ?_, trivial⟩
    refine Xg.comes_act rfl (by kernel_rfl) (by kernel_rfl) (Xg.opx_loadn (off := 0) 3 8 [iv (↑x.id : Int), Value.slice xa1 (x.les ++ [((↑v : Int), (↑(clsA a) : Int), (↑(hasA a) : Int))]).length xc1, Value.slice xa2 (x.Z ++ [(xx2, List.replicate (hasA a) (0 : Int))]).length xc2] (by kernel_rfl) rfl (by kernel_rfl) rfl (Xg.cells_at (by kernel_rfl)) (by kernel_rfl) ?_)
    refine Xg.acts (Xg.owes_cell 4 rfl (by kernel_rfl) (Xg.owes_cell 4 rfl (by kernel_rfl) (Xg.owes_cell 4 rfl (by kernel_rfl) (Xg.owes_cell 9 rfl (by kernel_rfl) (Xg.owes_rd 6 (Xg.reads_own (E := ((3 : TypeId))) (sz := ((1 : Nat))) (n := fr.length) (c := xx1.snd) (a := xx1.fst) (vs := (List.map (Value.int IntKind.i64) fr))) (by kernel_rfl) (Xg.owes_rd 6 (Xg.reads_own (E := ((3 : TypeId))) (sz := ((1 : Nat))) (n := fr.length) (c := xx1.snd) (a := xx1.fst) (vs := (List.map (Value.int IntKind.i64) fr))) (by kernel_rfl) Xg.owes_nil)))))) ?_
    rotate_left
    refine Xg.comes_act rfl (by kernel_rfl) (by kernel_rfl) (Xg.opx_call1' [] [row xb6 (40 : TypeId) [Value.slice xx2 (List.replicate (hasA a) (0 : Int)).length (List.replicate (hasA a) (0 : Int)).length], Y2 xx2 (hasA a) (List.replicate (hasA a) (0 : Int)), row xb5 (42 : TypeId) [iv (↑v : Int), iv (↑(clsA a) : Int), iv (↑(hasA a) : Int)], recsO (42 : TypeId) (3 : Nat) leK xa1 xc1 (x.les ++ [((↑v : Int), (↑(clsA a) : Int), (↑(hasA a) : Int))]), row xb4 (42 : Nat) [iv (↑v : Int), iv (↑(clsA a) : Int), iv (↑(hasA a) : Int)], PoolS p τ, I2 xx1.fst xx1.snd fr, recsO (40 : TypeId) (1 : Nat) bhK xa2 xc2 (x.Z ++ [(xx2, List.replicate (hasA a) (0 : Int))]), row xb1 (62 : TypeId) [iv (↑x.id : Int), Value.slice xa1 (x.les ++ [((↑v : Int), (↑(clsA a) : Int), (↑(hasA a) : Int))]).length xc1, Value.slice xa2 (x.Z ++ [(xx2, List.replicate (hasA a) (0 : Int))]).length xc2], row xb2 (59 : TypeId) [iv a.kd, iv a.wh, iv a.sz, iv a.pk, iv a.ap, iv a.bt], row xb3 (62 : TypeId) [iv 0, Value.slice none (0 : Nat) (0 : Nat), Value.slice none (0 : Nat) (0 : Nat)]] (fun _ => by kernel_rfl) (@hpf ) (by kernel_rfl) (by kernel_rfl) (by kernel_rfl) ?_)
    refine Xg.acts (Xg.owes_skip (by kernel_rfl) (Xg.owes_skip (by kernel_rfl) (Xg.owes_cell 4 rfl (by kernel_rfl) (Xg.owes_skip (by kernel_rfl) (Xg.owes_rd 6 (Xg.reads_own (E := ((3 : TypeId))) (sz := ((1 : Nat))) (n := fr.length) (c := xx1.snd) (a := xx1.fst) (vs := (List.map (Value.int IntKind.i64) fr))) (by kernel_rfl) (Xg.owes_rd 6 (Xg.reads_own (E := ((3 : TypeId))) (sz := ((1 : Nat))) (n := fr.length) (c := xx1.snd) (a := xx1.fst) (vs := (List.map (Value.int IntKind.i64) fr))) (by kernel_rfl) Xg.owes_nil)))))) ?_
    rotate_left
    refine Xg.any_each [23] (by kernel_rfl) rfl ⟨?_, trivial⟩
    refine Xg.comes_act rfl (by kernel_rfl) (by kernel_rfl) (Xg.opx_call1' [] [row xb6 (40 : TypeId) [Value.slice xx2 (List.replicate (hasA a) (0 : Int)).length (List.replicate (hasA a) (0 : Int)).length], Y2 xx2 (hasA a) (List.replicate (hasA a) (0 : Int)), row xb5 (42 : TypeId) [iv (↑v : Int), iv (↑(clsA a) : Int), iv (↑(hasA a) : Int)], recsO (42 : TypeId) (3 : Nat) leK xa1 xc1 (x.les ++ [((↑v : Int), (↑(clsA a) : Int), (↑(hasA a) : Int))]), row xb4 (42 : Nat) [iv (↑v : Int), iv (↑(clsA a) : Int), iv (↑(hasA a) : Int)], PoolS p τ, I2 xx1.fst xx1.snd fr, recsO (40 : TypeId) (1 : Nat) bhK xa2 xc2 (x.Z ++ [(xx2, List.replicate (hasA a) (0 : Int))]), row xb1 (62 : TypeId) [iv (↑x.id : Int), Value.slice xa1 (x.les ++ [((↑v : Int), (↑(clsA a) : Int), (↑(hasA a) : Int))]).length xc1, Value.slice xa2 (x.Z ++ [(xx2, List.replicate (hasA a) (0 : Int))]).length xc2], row xb2 (59 : TypeId) [iv a.kd, iv a.wh, iv a.sz, iv a.pk, iv a.ap, iv a.bt], row xb3 (62 : TypeId) [iv 0, Value.slice none (0 : Nat) (0 : Nat), Value.slice none (0 : Nat) (0 : Nat)]] (fun _ => by kernel_rfl) (@hpf ) (by kernel_rfl) (by kernel_rfl) (by kernel_rfl) ?_)
    refine Xg.acts (Xg.owes_skip (by kernel_rfl) (Xg.owes_skip (by kernel_rfl) (Xg.owes_cell 4 rfl (by kernel_rfl) (Xg.owes_skip (by kernel_rfl) (Xg.owes_rd 6 (Xg.reads_own (E := ((3 : TypeId))) (sz := ((1 : Nat))) (n := fr.length) (c := xx1.snd) (a := xx1.fst) (vs := (List.map (Value.int IntKind.i64) fr))) (by kernel_rfl) (Xg.owes_rd 6 (Xg.reads_own (E := ((3 : TypeId))) (sz := ((1 : Nat))) (n := fr.length) (c := xx1.snd) (a := xx1.fst) (vs := (List.map (Value.int IntKind.i64) fr))) (by kernel_rfl) Xg.owes_nil)))))) ?_
    refine Xg.any_reads (.pointer (some (Addr.mk (Xg.blk xx1.fst) (offA xx1.fst + pickN a.pk fr.length) none))) 24 4 (by kernel_rfl) rfl (by kernel_rfl) (by kernel_rfl) (by kernel_rfl) (by kernel_rfl) rfl rfl (by kernel_rfl) (Xg.rd_now 6 (Xg.reads_own (E := ((3 : TypeId))) (sz := ((1 : Nat))) (n := fr.length) (c := xx1.snd) (a := xx1.fst) (vs := (List.map (Value.int IntKind.i64) fr))) (by kernel_rfl)) (Xg.run_ix_rd (elem := 3) (kd := .i64) (e := ((↑(pickN a.pk fr.length) : Int))) 1 (pickN a.pk fr.length) (offA xx1.fst + pickN a.pk fr.length) (by kernel_rfl) (by kernel_rfl) (by kernel_rfl) (by kernel_rfl) rfl (by omega) (by simp only [List.length_map]; omega) (by omega)) ?_
    refine Xg.any_reads (iv (fr.getD (pickN a.pk fr.length) (0 : Int))) 25 5 (by kernel_rfl) rfl (by kernel_rfl) (by kernel_rfl) (by kernel_rfl) (by kernel_rfl) rfl rfl (by kernel_rfl) (Xg.rd_now 6 (Xg.reads_own (E := ((3 : TypeId))) (sz := ((1 : Nat))) (n := fr.length) (c := xx1.snd) (a := xx1.fst) (vs := (List.map (Value.int IntKind.i64) fr))) (by kernel_rfl)) (Xg.run_load_rd (off0 := (offA xx1.fst + pickN a.pk fr.length)) (pickN a.pk fr.length) (by kernel_rfl) (by omega) (Xg.get_ints (by omega)) (by kernel_rfl)) ?_
    refine Xg.any_pure (.bool (decide ((((↑v : Int)) : Int) = (fr.getD (pickN a.pk fr.length) (0 : Int))))) 26 (by kernel_rfl) rfl (by kernel_rfl) (by kernel_rfl) (by kernel_rfl) (by kernel_rfl) rfl (fun _ => by kernel_rfl) ?_
    refine Xg.any_flag (j := 119) (c := (decide ((↑v : Int) = fr.getD (pickN a.pk fr.length) (0 : Int)))) (by kernel_rfl) (fun _ => ?_) (fun xh3 => absurd (of_decide_eq_false xh3) (by omega))
    refine Xg.any_pure ((Value.bool true)) 27 (by kernel_rfl) rfl (by kernel_rfl) (by kernel_rfl) (by kernel_rfl) (by kernel_rfl) rfl (fun _ => by kernel_rfl) ?_
    refine Xg.any_each [28] (by kernel_rfl) rfl ⟨?_, trivial⟩
    refine Xg.comes_act rfl (by kernel_rfl) (by kernel_rfl) (Xg.opx_storen 3 (off := 0) 10 [iv (↑x.id : Int), Value.slice xa1 (x.les ++ [((↑v : Int), (↑(clsA a) : Int), (↑(hasA a) : Int))]).length xc1, Value.slice xa2 (x.Z ++ [(xx2, List.replicate (hasA a) (0 : Int))]).length xc2] (by kernel_rfl) rfl (by kernel_rfl) (by kernel_rfl) rfl (by kernel_rfl) (Nat.le_of_ble_eq_true (by kernel_rfl)) ?_)
    refine Xg.acts (Xg.owes_skip (by kernel_rfl) (Xg.owes_skip (by kernel_rfl) (Xg.owes_cell 4 rfl (by kernel_rfl) (Xg.owes_skip (by kernel_rfl) (Xg.owes_rd 6 (Xg.reads_own (E := ((3 : TypeId))) (sz := ((1 : Nat))) (n := fr.length) (c := xx1.snd) (a := xx1.fst) (vs := (List.map (Value.int IntKind.i64) fr))) (by kernel_rfl) (Xg.owes_rd 6 (Xg.reads_own (E := ((3 : TypeId))) (sz := ((1 : Nat))) (n := fr.length) (c := xx1.snd) (a := xx1.fst) (vs := (List.map (Value.int IntKind.i64) fr))) (by kernel_rfl) Xg.owes_nil)))))) ?_
    refine Xg.any_pure ((Value.bool true)) 29 (by kernel_rfl) rfl (by kernel_rfl) (by kernel_rfl) (by kernel_rfl) (by kernel_rfl) rfl (fun _ => by kernel_rfl) ?_
    refine Xg.any_nil (by kernel_rfl) ?_
    refine Xg.at_ret_feed (v := (Value.tuple #[Value.agg #[iv (↑x.id : Int), Value.slice xa1 (x.les ++ [((↑v : Int), (↑(clsA a) : Int), (↑(hasA a) : Int))]).length xc1, Value.slice xa2 (x.Z ++ [(xx2, List.replicate (hasA a) (0 : Int))]).length xc2], Value.bool true])) [(Addr.mk xb3 (0 : Nat) none), (Addr.mk xb3 (1 : Nat) none), (Addr.mk xb3 (2 : Nat) none)] [iv (↑x.id : Int), Value.slice xa1 (x.les ++ [((↑v : Int), (↑(clsA a) : Int), (↑(hasA a) : Int))]).length xc1, Value.slice xa2 (x.Z ++ [(xx2, List.replicate (hasA a) (0 : Int))]).length xc2] [5, 3, 7, 1] [PoolS p τ, recsO (42 : TypeId) (3 : Nat) leK xa1 xc1 (x.les ++ [((↑v : Int), (↑(clsA a) : Int), (↑(hasA a) : Int))]), recsO (40 : TypeId) (1 : Nat) bhK xa2 xc2 (x.Z ++ [(xx2, List.replicate (hasA a) (0 : Int))]), Y2 xx2 (hasA a) (List.replicate (hasA a) (0 : Int))] Go.Proofs.Try.func25 (by kernel_rfl) (Xg.cells_cons (b := xb3) (off := 0) 10 rfl (by kernel_rfl) (Xg.cells_cons (b := xb3) (off := 1) 10 rfl (by kernel_rfl) (Xg.cells_cons (b := xb3) (off := 2) 10 rfl (by kernel_rfl) Xg.cells_nil))) (by kernel_rfl) (by kernel_rfl) ?_
    refine ⟨(((xa1, xc1), (xa2, xc2), xx2)), ?_, by kernel_rfl, by kernel_rfl⟩
    rotate_left
    refine Xg.any_reads (.pointer (some (Addr.mk (Xg.blk xx1.fst) (offA xx1.fst + pickN a.pk fr.length) none))) 24 4 (by kernel_rfl) rfl (by kernel_rfl) (by kernel_rfl) (by kernel_rfl) (by kernel_rfl) rfl rfl (by kernel_rfl) (Xg.rd_now 6 (Xg.reads_own (E := ((3 : TypeId))) (sz := ((1 : Nat))) (n := fr.length) (c := xx1.snd) (a := xx1.fst) (vs := (List.map (Value.int IntKind.i64) fr))) (by kernel_rfl)) (Xg.run_ix_rd (elem := 3) (kd := .i64) (e := ((↑(pickN a.pk fr.length) : Int))) 1 (pickN a.pk fr.length) (offA xx1.fst + pickN a.pk fr.length) (by kernel_rfl) (by kernel_rfl) (by kernel_rfl) (by kernel_rfl) rfl (by omega) (by simp only [List.length_map]; omega) (by omega)) ?_
    refine Xg.any_reads (iv (fr.getD (pickN a.pk fr.length) (0 : Int))) 25 5 (by kernel_rfl) rfl (by kernel_rfl) (by kernel_rfl) (by kernel_rfl) (by kernel_rfl) rfl rfl (by kernel_rfl) (Xg.rd_now 6 (Xg.reads_own (E := ((3 : TypeId))) (sz := ((1 : Nat))) (n := fr.length) (c := xx1.snd) (a := xx1.fst) (vs := (List.map (Value.int IntKind.i64) fr))) (by kernel_rfl)) (Xg.run_load_rd (off0 := (offA xx1.fst + pickN a.pk fr.length)) (pickN a.pk fr.length) (by kernel_rfl) (by omega) (Xg.get_ints (by omega)) (by kernel_rfl)) ?_
    refine Xg.any_pure (.bool (decide ((((↑v : Int)) : Int) = (fr.getD (pickN a.pk fr.length) (0 : Int))))) 26 (by kernel_rfl) rfl (by kernel_rfl) (by kernel_rfl) (by kernel_rfl) (by kernel_rfl) rfl (fun _ => by kernel_rfl) ?_
    refine Xg.any_flag (j := 119) (c := (decide ((↑v : Int) = fr.getD (pickN a.pk fr.length) (0 : Int)))) (by kernel_rfl) (fun _ => ?_) (fun xh3 => absurd (of_decide_eq_false xh3) (by omega))
    refine Xg.any_pure ((Value.bool true)) 27 (by kernel_rfl) rfl (by kernel_rfl) (by kernel_rfl) (by kernel_rfl) (by kernel_rfl) rfl (fun _ => by kernel_rfl) ?_
    refine Xg.any_each [0] (by kernel_rfl) rfl ⟨?_, trivial⟩
    refine Xg.comes_act rfl (by kernel_rfl) (by kernel_rfl) (Xg.opx_loadn (off := 0) 3 8 [iv (↑x.id : Int), Value.slice xa1 (x.les ++ [((↑v : Int), (↑(clsA a) : Int), (↑(hasA a) : Int))]).length xc1, Value.slice xa2 (x.Z ++ [(xx2, List.replicate (hasA a) (0 : Int))]).length xc2] (by kernel_rfl) rfl (by kernel_rfl) rfl (Xg.cells_at (by kernel_rfl)) (by kernel_rfl) ?_)
    refine Xg.acts (Xg.owes_cell 4 rfl (by kernel_rfl) (Xg.owes_cell 4 rfl (by kernel_rfl) (Xg.owes_cell 4 rfl (by kernel_rfl) (Xg.owes_cell 9 rfl (by kernel_rfl) (Xg.owes_rd 6 (Xg.reads_own (E := ((3 : TypeId))) (sz := ((1 : Nat))) (n := fr.length) (c := xx1.snd) (a := xx1.fst) (vs := (List.map (Value.int IntKind.i64) fr))) (by kernel_rfl) (Xg.owes_rd 6 (Xg.reads_own (E := ((3 : TypeId))) (sz := ((1 : Nat))) (n := fr.length) (c := xx1.snd) (a := xx1.fst) (vs := (List.map (Value.int IntKind.i64) fr))) (by kernel_rfl) Xg.owes_nil)))))) ?_
    refine Xg.any_each [28] (by kernel_rfl) rfl ⟨?_, trivial⟩
    refine Xg.comes_act rfl (by kernel_rfl) (by kernel_rfl) (Xg.opx_storen 3 (off := 0) 10 [iv (↑x.id : Int), Value.slice xa1 (x.les ++ [((↑v : Int), (↑(clsA a) : Int), (↑(hasA a) : Int))]).length xc1, Value.slice xa2 (x.Z ++ [(xx2, List.replicate (hasA a) (0 : Int))]).length xc2] (by kernel_rfl) rfl (by kernel_rfl) (by kernel_rfl) rfl (by kernel_rfl) (Nat.le_of_ble_eq_true (by kernel_rfl)) ?_)
    refine Xg.acts (Xg.owes_skip (by kernel_rfl) (Xg.owes_skip (by kernel_rfl) (Xg.owes_cell 4 rfl (by kernel_rfl) (Xg.owes_skip (by kernel_rfl) (Xg.owes_rd 6 (Xg.reads_own (E := ((3 : TypeId))) (sz := ((1 : Nat))) (n := fr.length) (c := xx1.snd) (a := xx1.fst) (vs := (List.map (Value.int IntKind.i64) fr))) (by kernel_rfl) (Xg.owes_rd 6 (Xg.reads_own (E := ((3 : TypeId))) (sz := ((1 : Nat))) (n := fr.length) (c := xx1.snd) (a := xx1.fst) (vs := (List.map (Value.int IntKind.i64) fr))) (by kernel_rfl) Xg.owes_nil)))))) ?_
    refine Xg.any_pure ((Value.bool true)) 29 (by kernel_rfl) rfl (by kernel_rfl) (by kernel_rfl) (by kernel_rfl) (by kernel_rfl) rfl (fun _ => by kernel_rfl) ?_
    refine Xg.any_nil (by kernel_rfl) ?_
    refine Xg.at_ret_feed (v := (Value.tuple #[Value.agg #[iv (↑x.id : Int), Value.slice xa1 (x.les ++ [((↑v : Int), (↑(clsA a) : Int), (↑(hasA a) : Int))]).length xc1, Value.slice xa2 (x.Z ++ [(xx2, List.replicate (hasA a) (0 : Int))]).length xc2], Value.bool true])) [(Addr.mk xb3 (0 : Nat) none), (Addr.mk xb3 (1 : Nat) none), (Addr.mk xb3 (2 : Nat) none)] [iv (↑x.id : Int), Value.slice xa1 (x.les ++ [((↑v : Int), (↑(clsA a) : Int), (↑(hasA a) : Int))]).length xc1, Value.slice xa2 (x.Z ++ [(xx2, List.replicate (hasA a) (0 : Int))]).length xc2] [5, 3, 7, 1] [PoolS p τ, recsO (42 : TypeId) (3 : Nat) leK xa1 xc1 (x.les ++ [((↑v : Int), (↑(clsA a) : Int), (↑(hasA a) : Int))]), recsO (40 : TypeId) (1 : Nat) bhK xa2 xc2 (x.Z ++ [(xx2, List.replicate (hasA a) (0 : Int))]), Y2 xx2 (hasA a) (List.replicate (hasA a) (0 : Int))] Go.Proofs.Try.func25 (by kernel_rfl) (Xg.cells_cons (b := xb3) (off := 0) 10 rfl (by kernel_rfl) (Xg.cells_cons (b := xb3) (off := 1) 10 rfl (by kernel_rfl) (Xg.cells_cons (b := xb3) (off := 2) 10 rfl (by kernel_rfl) Xg.cells_nil))) (by kernel_rfl) (by kernel_rfl) ?_
    refine ⟨(((xa1, xc1), (xa2, xc2), xx2)), ?_, by kernel_rfl, by kernel_rfl⟩)
  all_goals first | assumption | skip
end
end Go.Proofs.Ytmplimmcjdkhlaa
