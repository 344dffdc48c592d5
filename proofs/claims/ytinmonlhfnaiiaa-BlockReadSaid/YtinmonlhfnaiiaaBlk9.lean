/- The block package's functions (part 9): the library's Backward over a list of writes. -/
import Derived.Test.YtinmonlhfnaiiaaBlk8
import Derived.RangeFuncNested
import Derived.RangeFuncBound
import Derived.RangeFuncCalls
import Derived.RangeFuncLeaves
import Derived.Shelf.Abstract
import Derived.OwnWalkIn
import Derived.TacticsInMore
import Derived.LoopNIn
import Derived.LoopIn
namespace Go.Proofs.Ytinmonlhfnaiiaa
open Go.Sl Go.RowKit
set_option linter.unusedVariables false
set_option linter.unusedSimpArgs false
attribute [local go_sem] Oper.semAt_some

/-- An operation's step inside a fence, where it hands back a value. -/
theorem opIn_value {F : Fence} {n : Nat} {P : Program} {o : Oper} {a : Act} {w w' : World} {K : Act → World → Prop} {Q : Exit → Act → World → Prop} {v : Value} (hd : ∀ c, o.op ≠ .defer c) (ha : o.about P w a.eval = none)
    (h : (execOp a.eval o).run P w = .ok (.value v) w') (hk : K (a.put o.dst v) w') : o.wpIn F n P a w K Q := by
  refine ⟨fun f hf => (by rw [ha] at hf; cases hf), ?_⟩
  rw [Oper.semAt_plain F _ _ hd, h]; exact hk

theorem wIn_loada {F : Fence} {n : Nat} {P : Program} {w : World} {K : Act → World → Prop} {Q : Exit → Act → World → Prop} {l : List Value} {ds : List Deferred} {d : Nat} {t ty : TypeId} {x : Operand} {pos : String} {after : Array Edge} {gd : Option (Nat × Bool)} {ad : Addr} {vs : List Value} {l' : List Value} {z : Value} {sz by_ : Nat}
    (hE : El P t z sz by_) (hx : ev l x = .pointer (some ad)) (hl : vs.length = sz) (hc : ∀ j v, vs[j]? = some v → w.cell? (ad.add j) = some v) (ht : aggTy P t = true) (hp : l.set d (.agg vs.toArray) = l')
    (hk : K (Act.mk l'.toArray ds) w) : Oper.wpIn F n P ({ dst := some d, op := .load t x, type := ty, pos, after, guard := gd } : Oper) (Act.mk l.toArray ds) w K Q := by
  refine opIn_value (fun c h => by cases h) rfl (exec_load _ (by rw [ev_eq]; exact hx) (agg_load w t hE ht _ vs hl hc)) ?_
  rw [put_eq, hp]; exact hk

theorem opIn_skip {F : Fence} {n : Nat} {P : Program} {o : Oper} {a : Act} {w w' : World} {K : Act → World → Prop} {Q : Exit → Act → World → Prop} (hd : ∀ c, o.op ≠ .defer c) (ha : o.about P w a.eval = none)
    (h : (execOp a.eval o).run P w = .ok .skip w') (hk : K (a.put o.dst undef) w') : o.wpIn F n P a w K Q := by
  refine ⟨fun f hf => (by rw [ha] at hf; cases hf), ?_⟩
  rw [Oper.semAt_plain F _ _ hd, h]; exact hk

theorem wIn_storea {F : Fence} {n : Nat} {P : Program} {g w : World} {K : Act → World → Prop} {Q : Exit → Act → World → Prop} {L L' : List HP} {l : List Value} {ds : List Deferred} {t ty : TypeId} {x y : Operand} {pos : String} {after : Array Edge} {gd : Option (Nat × Bool)} {b o : Nat} {E : TypeId} {cs vs : List Value} {z : Value} {sz by_ : Nat}
    (hE : El P t z sz by_) (hS : SL g L w) (i : Nat) (hL : pull i L = row b E cs :: L') (hx : ev l x = .pointer (some ⟨b, o, none⟩)) (hy : ev l y = .agg vs.toArray) (hl : vs.length = sz) (hv : vs.all (·.oneCell') = true) (ho : o + sz ≤ cs.length)
    (hk : ∀ w', SL g (row b E (cs.take o ++ vs ++ cs.drop (o + sz)) :: L') w' → K (Act.mk l.toArray ds) w') : Oper.wpIn F n P ({ dst := none, op := .store t x y, type := ty, pos, after, guard := gd } : Oper) (Act.mk l.toArray ds) w K Q := by
  have h := hS.pull i
  rw [hL] at h
  obtain ⟨w', hr, h'⟩ := h.storeAgg t z sz by_ hE vs hl (fun v hv' => List.all_eq_true.1 hv v hv') ho
  exact opIn_skip (fun c h => by cases h) rfl (exec_store _ (by rw [ev_eq]; exact hx) (by rw [ev_eq]; exact hy) hr) (hk w' h')

theorem wIn_alloc {F : Fence} {n : Nat} {P : Program} {g w : World} {K : Act → World → Prop} {Q : Exit → Act → World → Prop} {L : List HP} {l : List Value} {ds : List Deferred} {d : Nat} {t ty : TypeId} {pos : String} {after : Array Edge} {gd : Option (Nat × Bool)} {z : Value} {sz by_ : Nat} {cs : List Value}
    (hE : El P t z sz by_) (hS : SL g L w) (hv : z.cells = cs.toArray)
    (hk : ∀ b w', SL g (row b t cs :: L) w' → ∀ l', l.set d (.pointer (some ⟨b, 0, none⟩)) = l' → K (Act.mk l'.toArray ds) w') : Oper.wpIn F n P ({ dst := some d, op := .alloc t, type := ty, pos, after, guard := gd } : Oper) (Act.mk l.toArray ds) w K Q := by
  refine opIn_value (fun c h => by cases h) rfl (exec_alloc _ hE) ?_
  rw [put_eq, hv]
  exact (hk _ _ (hS.alloc _) _ rfl)

/-- The indices that have come when those from k on are over. -/
def down (len k : Nat) : List Nat := (List.range' k (len - k)).reverse
theorem down_self (len : Nat) : down len len = [] := by simp [down]
theorem down_len (len k : Nat) : (down len k).length = len - k := by simp [down]
theorem down_succ (len k : Nat) (h : k < len) : down len k = down len (k + 1) ++ [k] := by
  unfold down
  rw [show len - k = (len - (k + 1)) + 1 from by omega, List.range'_succ, List.reverse_cons]
theorem down_mem (len k i : Nat) : i ∈ down len k ↔ k ≤ i ∧ i < len := by
  unfold down; rw [List.mem_reverse, List.mem_range']; constructor
  · rintro ⟨j, hj, rfl⟩; omega
  · intro h; exact ⟨i - k, by omega, by omega⟩

/-- slices.Backward's closure over a list of writes, whose i-th is (s i, d i). -/
theorem back1 (n : Nat) (hn : 1 ≤ n) (l Bs n₀ b len cap : Nat) (s : Nat → Int) (d : Nat → Value) (hreach : len ≤ 1000000000) (hb : b < n₀) (hB : Bs < n₀) (J Jx : List Nat → World → Prop)
    (hY : ∀ pre (x : Nat) W, J pre W → pre.length < len → YieldAt Fence.wide (n - 1) Try.prog l #[.int .i64 (x : Int), .agg #[.int .i64 (s x), d x]] W fun e W' =>
      (e = .returned (.bool true) ∧ J (pre ++ [x]) W' ∧ Below n₀ W W') ∨ (e = .returned (.bool false) ∧ Jx (pre ++ [x]) W'))
    (W : World) (hBs : W.cell? ⟨Bs, 0, none⟩ = some (.slice (some ⟨b, 0, none⟩) len cap))
    (hc : ∀ i, i < len → ∀ j v, [Value.int .i64 (s i), d i][j]? = some v → W.cell? (Addr.add ⟨b, i * 2, none⟩ j) = some v) (h0 : J [] W) :
    CallsIn Fence.wide n Try.prog 47 #[.func (.yield l) #[] #[], .pointer (some ⟨Bs, 0, none⟩)] W fun e W' => (∃ v, e = .returned v) ∧
      ((∃ ys, ys = down len 0 ∧ J ys W') ∨ (∃ pre, (∃ k, k < len ∧ pre = down len k) ∧ Jx pre W')) := by
  have HC := Lib.hid hc
  clear hc
  refine callsIn_of_wp Try.func47 rfl trivial ?_ rfl
  simp only [Try.ntmps47, List.size_toArray, List.length_cons, List.length_nil, Nat.reduceAdd, Nat.reduceSub, Array.replicate_succ, Array.replicate_zero, List.push_toArray, List.append_toArray, List.nil_append, List.cons_append]
  gi_wp2
  gi_loopw [3] (fun i wr => ∃ k : Nat, k ≤ len ∧ i = .int .i64 ((k : Int) - 1) ∧ J (down len k) wr ∧ Below n₀ W wr)
    (fun i _ => (intOf i + 1).toNat)
  case atStart => exact ⟨len, Nat.le_refl _, by go_num, by rw [down_self]; exact h0, Below.refl _ _⟩
  case round =>
    obtain ⟨k, hk, rfl, hJs, hnx⟩ := hrel
    have hBs2 : wr.cell? ⟨Bs, 0, none⟩ = some (.slice (some ⟨b, 0, none⟩) len cap) := (hnx.cell (p := ⟨Bs, 0, none⟩) hB).trans hBs
    clear hBs
    by_cases hk0 : 1 ≤ k
    · obtain ⟨j, hj⟩ : ∃ j : Nat, (k : Int) - 1 = (j : Int) := ⟨k - 1, by omega⟩
      have hjl : j < len := by omega
      have hcs : ∀ i v, [Value.int .i64 (s j), d j][i]? = some v → wr.cell? (Addr.add ⟨b, j * 2, none⟩ i) = some v := by
        intro i v hv
        rw [show wr.cell? (Addr.add ⟨b, j * 2, none⟩ i) = W.cell? (Addr.add ⟨b, j * 2, none⟩ i) from hnx.cell (p := Addr.add ⟨b, j * 2, none⟩ i) (by unfold Addr.add; split <;> exact hb)]
        exact HC.out j hjl i v hv
      have HCS := Lib.hid hcs
      clear hcs
      obtain ⟨fn, tmps, assign, body, hy, hR⟩ := hY _ j wr hJs (by rw [down_len]; omega)
      rw [hj]
      have hkj : k = j + 1 := by omega
      have HKJ := Lib.hid hkj
      have hj0 : (0 : Int) ≤ j := by omega
      clear hj hkj
      gi_wp2_with ((with_reducible show wpListIn _ _ _ _ _ (Oper.mk _ (Op.load 67 _) _ _ _ _ :: _) _ _); refine wpListIn_plain rfl (fun K hK => ?_); refine wIn_loada El67 (vs := [.int .i64 (s j), d j]) rfl rfl HCS.out (by kernel_rfl) rfl ?_; refine hK _ _ ?_; clear hK K)
      refine hR.mono ?_
      rintro e W3 (⟨rfl, hJ3, hk3⟩ | ⟨rfl, hJx3⟩)
      · gi_wp2
        go_roundw
        case rel => exact ⟨j, by omega, by go_num, by rw [down_succ _ _ hjl, ← HKJ.out]; exact hJ3, hnx.trans hk3⟩
        case measure => simp [intOf]
      · gi_wp2
        refine bodyPost_ret (results_none rfl _ _ _) rfl ?_
        exact ⟨⟨_, rfl⟩, .inr ⟨_, ⟨j, hjl, by rw [down_succ _ _ hjl, ← HKJ.out]⟩, hJx3⟩⟩
    · obtain rfl : k = 0 := by omega
      gi_wp2
      go_end0
      exact ⟨⟨_, rfl⟩, .inl ⟨_, rfl, hJs⟩⟩

theorem back1_nil (n : Nat) (l Bs : Nat) (J : List Nat → World → Prop) (W : World) (hBs : W.cell? ⟨Bs, 0, none⟩ = some (.slice none 0 0)) (h0 : J [] W) :
    CallsIn Fence.wide n Try.prog 47 #[.func (.yield l) #[] #[], .pointer (some ⟨Bs, 0, none⟩)] W fun e W' => (∃ v, e = .returned v) ∧ J [] W' := by
  refine callsIn_of_wp Try.func47 rfl trivial ?_ rfl
  simp only [Try.ntmps47, List.size_toArray, List.length_cons, List.length_nil, Nat.reduceAdd, Nat.reduceSub, Array.replicate_succ, Array.replicate_zero, List.push_toArray, List.append_toArray, List.nil_append, List.cons_append]
  gi_wp2
  gi_loopw [3] (fun i wr => i = .int .i64 (-1) ∧ J [] wr) (fun _ _ => 0)
  case atStart => exact ⟨rfl, h0⟩
  case round =>
    obtain ⟨rfl, hJs⟩ := hrel
    gi_wp2
    go_end0
    exact ⟨⟨_, rfl⟩, hJs⟩

theorem backward_c {g w : World} {L : List HP} (a : Option Addr) (len cap : Nat) (hS : SL g L w) :
    Calls Try.prog 32 #[.slice a len cap] w fun e w' => ∃ Bs, e = .returned (.func (.func 47) #[] #[.pointer (some ⟨Bs, 0, none⟩)]) ∧ SL g (row Bs 62 [.slice a len cap] :: L) w' := by
  go_enter Try.func32, Try.ntmps32
  go_wp2_with (((with_reducible show wpList _ _ _ (Oper.mk _ (Op.box _ _) _ _ _ _ :: _) _ _); refine wpList_plain rfl (fun K hK => ?_); refine w_box hS rfl rfl ?_; clear hS; intro bs w hS l' hl; simp only [List.set_cons_succ, List.set_cons_zero] at hl; subst hl; try simp only [ev, nth, Option.getD_some, Option.getD_none] at hS; refine hK _ _ ?_; clear hK K))
  go_ret
  exact ⟨bs, rfl, hS⟩

/-- Backward's closure, as the law of the range wants it. -/
theorem back_stops (n : Nat) (hn : 1 ≤ n) (Bs n₀ len : Nat) (pv : Value) (s : Nat → Int) (d : Nat → Value) (hreach : len ≤ 1000000000) (hB : Bs < n₀) (w : World) (hn₀ : n₀ = w.heap.size) (hc : w.cell? ⟨Bs, 0, none⟩ = some pv)
    (hp : (pv = .slice none 0 0 ∧ len = 0) ∨ ∃ b cap, pv = .slice (some ⟨b, 0, none⟩) len cap ∧ b < n₀ ∧ ∀ i, i < len → ∀ j v, [Value.int .i64 (s i), d i][j]? = some v → w.cell? (Addr.add ⟨b, i * 2, none⟩ j) = some v) :
    SeqStopsK Fence.wide n Try.prog 47 #[.pointer (some ⟨Bs, 0, none⟩)] (fun x : Nat => #[.int .i64 (x : Int), .agg #[.int .i64 (s x), d x]]) (Below n₀) (fun ys => ys = down len 0) (fun pre => ∃ k, k < len ∧ pre = down len k) len w := fun l J Jx W hW _ _ hY h0 => by
  subst hn₀
  have hc' := (hW.cell (p := ⟨Bs, 0, none⟩) hB).trans hc
  rcases hp with ⟨rfl, rfl⟩ | ⟨b, cap, rfl, hb, hcs⟩
  · exact (back1_nil n l Bs J W hc' h0).mono fun e W' ⟨he, hj⟩ => ⟨he, .inl ⟨_, rfl, hj⟩⟩
  · exact back1 n hn l Bs _ b len cap s d hreach hb hB J Jx hY W hc' (fun i hi j v hv => (hW.cell (p := Addr.add ⟨b, i * 2, none⟩ j) (by unfold Addr.add; split <;> exact hb)).trans (hcs i hi j v hv)) h0

/-- All but one block is as it was, and no block has gone. -/
structure But (f : Nat) (w W : World) : Prop where
  os : W.os = w.os
  tape : W.tape = w.tape
  output : W.output = w.output
  size : w.heap.size ≤ W.heap.size
  block : ∀ k, k < w.heap.size → k ≠ f → W.heap[k]? = w.heap[k]?

theorem But.below {f : Nat} {w W : World} (h : Below w.heap.size w W) : But f w W := ⟨h.os, h.tape, h.output, h.size, fun k hk _ => h.block k hk⟩
theorem But.own {β : Type} (f : Nat) (w : World) : OwnFrom w.heap.size (fun (_ : β) W => But f w W) := fun _ A B row hs hg hr =>
  ⟨hg.os.trans hs.os, hg.tape.trans hs.tape, hg.output.trans hs.output, Nat.le_trans hs.size hg.size, fun k hk hf => by
    rw [hg.block k (by have := (show But f w A from hs).size; omega) (fun e => by have := (hr k e.symm).1; omega)]; exact hs.block k hk hf⟩

/-- What is left of the list behind a loop that may have stored in one row of it, with a later object beside it. -/
theorem SL.after {g w W : World} {K : List HP} {f D : Nat} {E : TypeId} {cs : List Value} {o : Obj} (h : SL g (row f E cs :: K) w) (hb : But f w W) (hD : w.heap.size ≤ D) (ho : W.heap[D]? = some o) : SL g (pts D o :: K) W := by
  obtain ⟨h1, h2, h3, m, hm, x, y, hx, hy, d, rfl⟩ := h
  have hx2 : x f = some (.cells cs.toArray E) := by rw [show x = _ from hx]; simp
  have hyf : ∀ k o', y k = some o' → w.heap[k]? = some o' ∧ k ≠ f := by
    intro k o' hk
    have hxk : x k = none := by
      rcases d k with h | h
      · exact h
      · rw [h] at hk; cases hk
    refine ⟨hm k o' (by simp [join, hxk, hk]), ?_⟩
    rintro rfl
    rw [hxk] at hx2; cases hx2
  have hylt : ∀ k o', y k = some o' → k < w.heap.size := fun k o' hk => (Array.getElem?_eq_some_iff.1 (hyf k o' hk).1).1
  refine ⟨hb.os.trans h1, hb.tape.trans h2, hb.output.trans h3, join (fun k => if k = D then some o else none) y, ?_, _, y, rfl, hy, ?_, rfl⟩
  · intro k o' hk
    by_cases hkD : k = D
    · subst hkD
      simp [join] at hk
      rw [ho, hk]
    · simp [join, hkD] at hk
      obtain ⟨g1, g2⟩ := hyf k o' hk
      rw [hb.block k (hylt k o' hk) g2]; exact g1
  · intro k
    by_cases hkD : k = D
    · right
      cases hyk : y k with
      | none => rfl
      | some o' => have := hylt k o' hyk; omega
    · left; simp [hkD]

/-- One object turned. -/
theorem SL.put {g W : World} {K : List HP} {D : Nat} {o : Obj} (o' : Obj) (h : SL g (pts D o :: K) W) : SL g (pts D o' :: K) (W.putObj D o') := by
  have hD := h.get (.head _)
  obtain ⟨h1, h2, h3, m, hm, x, y, hx, hy, d, rfl⟩ := h
  have hxD : x D = some o := by rw [show x = _ from hx]; simp
  have hyD : y D = none := by
    rcases d D with h | h
    · rw [h] at hxD; cases hxD
    · exact h
  have hg := grownBy_putObj' W D o'
  have hlt := (Array.getElem?_eq_some_iff.1 hD).1
  refine ⟨hg.os.trans h1, hg.tape.trans h2, hg.output.trans h3, join (fun k => if k = D then some o' else none) y, ?_, _, y, rfl, hy, ?_, rfl⟩
  · intro k o2 hk
    by_cases hkD : k = D
    · subst hkD
      simp [join] at hk
      subst hk
      show (W.heap.setIfInBounds k o')[k]? = _
      simp [hlt]
    · simp [join, hkD] at hk
      have hxk : x k = none := by rw [show x = _ from hx]; simp [hkD]
      have hw := hm k o2 (by simp [join, hxk, hk])
      exact (hg.block k (Array.getElem?_eq_some_iff.1 hw).1 (fun e => hkD (by cases e; rfl))).trans hw
  · intro k
    by_cases hkD : k = D
    · right; rw [hkD]; exact hyD
    · left; simp [hkD]

end Go.Proofs.Ytinmonlhfnaiiaa
