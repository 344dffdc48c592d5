/- The picture's laws: tiles and scenes of one's own. -/
import Derived.Test.YtkfclamiendamaaKV35
import Derived.Test.YtkfclamiendamaaKS
import Derived.Test.YtkfclamiendamaaG13
namespace Go.Proofs.Ytkfclamiendamaa
open Go.Sl Go.Xg
set_option linter.unusedVariables false
set_option linter.unusedSimpArgs false
set_option maxHeartbeats 4000000
set_option maxRecDepth 100000

section
variable {P : Program} {g : World} {F : List HP} {T : List Value} {L : List HP} {K : List Value → List HP → Prop}
/-- copy into a slice of one's own. -/
theorem opx_copy {d : Nat} {dT sT ty elem : TypeId} {x y : Operand} {pos : String} {after : Array Edge} {gd : Option (Nat × Bool)} {a : Option Addr} {n c : Nat} {yv : Value} {k : Nat} {kd : IntKind} {vs news : List Value} (i by_ : Nat)
    (hL : nth L i = some (ownS elem 1 (.slice a n c) n vs)) (hu : slTy P dT elem = true) (hE : intTy P elem kd by_ = true) (hx : ev T x = .slice a n c) (hy : ev T y = yv) (ha : a.isNone = false) (hr : ∀ w, SL g (L ++ F) w → Rd w 1 yv k news) (h1 : ∀ u ∈ news, u.oneCell' = true)
    (h : K (T.set d (goInt (Nat.min k n : Nat))) (L.set i (ownS elem 1 (.slice a n c) n (news.take n ++ vs.drop (Nat.min k n))))) :
    OpX P g F { dst := some d, op := .call { callee := .builtin .copy, args := #[x, y], argTypes := #[dT, sT] }, type := ty, pos, after, guard := gd } T L K := by
  constructor
  intro w hS
  have hR := hr w hS
  have hnl : news.length = k := by obtain ⟨_, _, _, h, _⟩ := hR; omega
  obtain ⟨hl, ⟨e, _, _⟩ | ⟨b, cap, sp, e, hn, hm, hsp, hrw⟩⟩ := (sl_at i hL hS).own_cases
  · cases e; cases ha
  · have hl' : vs.length = n := by omega
    cases e
    have hmin : Nat.min k n ≤ n := Nat.min_le_right _ _
    obtain ⟨w', hr', h'⟩ := hrw.copy dT sT ty elem (.int kd 0) by_ (slTy_u hu) (intTy_el hE) (dLen := n) (dCap := c) (o := 0) hR h1 (by rw [List.length_append, Nat.zero_add]; omega)
    refine op_value (exec_copy _ (by rw [act_eval, act_eval, hx, hy]; exact hr')) ⟨_, _, by rw [act_put]; rfl, sl_back i hL ?_, h⟩
    have e1 : (vs ++ sp).take 0 ++ news.take n ++ (vs ++ sp).drop (0 + Nat.min k n) = (news.take n ++ vs.drop (Nat.min k n)) ++ sp := by
      rw [Nat.zero_add, List.drop_append_of_le_length (by omega)]
      simp
    rw [e1] at h'
    refine SL.own_some h' ?_ hn hm hsp
    have : Nat.min k n = min k n := rfl
    rw [List.length_append, List.length_take, List.length_drop, hnl, hl']
    omega
end

theorem own16 (m : Nat) (xs : List Int) (n : Nat) (hn : xs.length = n) : (xs.map (Value.int .u8)).take m ++ (List.replicate m (Value.int .u8 0)).drop (Nat.min n m) = ((List.range m).map fun i => if i < n then xs.getD i 0 else 0).map (Value.int .u8) := by
  have hm : Nat.min n m = min n m := rfl
  rw [hm]
  apply List.ext_getElem
  · simp; omega
  · intro i h1 h2
    simp at h2
    rw [List.getElem_append]
    split
    · rename_i h
      simp at h
      simp [List.getD, show i < n by omega, show i < xs.length by omega]
    · rename_i h
      simp at h
      simp [show ¬ i < n by omega]

/-- A tile's sixteen bytes. -/
def tl (xs : List Int) : List Int := (List.range 16).map fun i => if i < xs.length then xs.getD i 0 else 0
theorem tl_len (xs : List Int) : (tl xs).length = 16 := by unfold tl; simp
theorem tl_get (xs : List Int) (i : Nat) (hi : i < 16) : (tl xs).getD i 0 = if i < xs.length then xs.getD i 0 else 0 := by unfold tl; simp [List.getD, hi]

set_option maxHeartbeats 0 in
theorem blob_d (A : HP) (a : Option Addr) (n c : Nat) (xs : List Int) (hn : xs.length = n) (hmx : n ≤ maxLen) (hR : Reads A 1 (.slice a n c) n (xs.map (Value.int .u8))) : Does Try.prog 34 [.slice a n c] [A]
    (RetE (fun x : Option Addr × Nat => True) (fun x => .slice x.1 16 x.2) (fun x => [ownS 5 1 (.slice x.1 16 x.2) 16 ((tl xs).map (Value.int .u8)), A])) := by
  (focus
    refine Xg.spec_of Go.Proofs.Try.func34 rfl Go.Proofs.Try.ntmps34 fun g F => ?_)
  (focus
    refine Xg.at_seq ?_
    refine Xg.at_region ?_
    refine Xg.ops_op (by kernel_rfl) (Xg.opx_pure ((Value.slice none (0 : Nat) (0 : Nat))) rfl (fun _ => by kernel_rfl) ?_)
    refine Xg.ops_nil ?_
    refine Xg.at_seq ?_
    refine Xg.at_region ?_
    refine Xg.ops_op (by kernel_rfl) (Xg.opx_make_ints (elem := 5) (kd := .u8) (by_ := 1) (k1 := .i64) (k2 := .i64) (n := ((16 : Int))) (c := ((16 : Int))) ((16 : Nat)) ((16 : Nat)) [(0 : Int), (0 : Int), (0 : Int), (0 : Int), (0 : Int), (0 : Int), (0 : Int), (0 : Int), (0 : Int), (0 : Int), (0 : Int), (0 : Int), (0 : Int), (0 : Int), (0 : Int), (0 : Int)] (by kernel_rfl) (by kernel_rfl) (by kernel_rfl) (by kernel_rfl) rfl rfl (by omega) (by omega) (by first | rfl | (simp; done)) fun xa1 xh1 => ?_)
    have xl1 : ([(0 : Int), (0 : Int), (0 : Int), (0 : Int), (0 : Int), (0 : Int), (0 : Int), (0 : Int), (0 : Int), (0 : Int), (0 : Int), (0 : Int), (0 : Int), (0 : Int), (0 : Int), (0 : Int)] : List Int).length = ((16 : Nat)) := by first | rfl | (simp; done)
    refine Xg.ops_op (by kernel_rfl) (Xg.opx_pure ((Value.slice xa1 (16 : Nat) (16 : Nat))) rfl (fun _ => by kernel_rfl) ?_)
    refine Xg.ops_nil ?_
    refine Xg.at_seq ?_
    refine Xg.at_region ?_
    refine Xg.ops_op (by kernel_rfl) (Xg.opx_pure ((Value.slice xa1 (16 : Nat) (16 : Nat))) rfl (fun _ => by kernel_rfl) ?_)
    refine Xg.ops_op (by kernel_rfl) (Xg.opx_pure ((Value.slice a n c)) rfl (fun _ => by kernel_rfl) ?_))
  refine Xg.ops_op (by kernel_rfl) (opx_copy (kd := .u8) (a := xa1) (n := 16) (c := 16) (yv := .slice a n c) (k := n) (news := xs.map (Value.int .u8)) 0 1 rfl (by kernel_rfl) (by kernel_rfl) (by kernel_rfl) (by kernel_rfl) xh1 (Xg.rd_now 1 hR (by kernel_rfl)) (fun u hu => by obtain ⟨z, _, rfl⟩ := List.mem_map.mp hu; rfl) ?_)
  have e := own16 16 xs n hn
  rw [show List.map (Value.int .u8) [(0 : Int), 0, 0, 0, 0, 0, 0, 0, 0, 0, 0, 0, 0, 0, 0, 0] = List.replicate 16 (Value.int .u8 0) from rfl, e]
  subst hn
  (focus
    refine Xg.ops_nil ?_
    refine Xg.at_seq ?_
    refine Xg.at_region ?_
    refine Xg.ops_op (by kernel_rfl) (Xg.opx_pure ((Value.slice xa1 (16 : Nat) (16 : Nat))) rfl (fun _ => by kernel_rfl) ?_)
    refine Xg.ops_op (by kernel_rfl) (Xg.opx_pure ((Value.slice xa1 (16 : Nat) (16 : Nat))) rfl (fun _ => by kernel_rfl) ?_)
    refine Xg.ops_nil ?_
    refine Xg.at_ret_ps (v := (Value.slice xa1 (16 : Nat) (16 : Nat))) [0, 1] [ownS (5 : TypeId) (1 : Nat) (Value.slice xa1 (16 : Nat) (16 : Nat)) (16 : Nat) (List.map (Value.int IntKind.u8) (List.map (fun (i : Nat) => if i < xs.length then xs.getD i (0 : Int) else (0 : Int)) (List.range (16 : Nat)))), A] Go.Proofs.Try.func34 (fun _ => by kernel_rfl) (by kernel_rfl) (by kernel_rfl) ?_
    refine ⟨((xa1, (16 : Nat))), trivial, by kernel_rfl, by kernel_rfl⟩)

set_option maxHeartbeats 0 in
theorem lone_d (A : HP) (a : Option Addr) (n c : Nat) (xs : List Int) (hn : xs.length = n) (hmx : n ≤ maxLen) (hR : Reads A 1 (.slice a n c) n (xs.map (Value.int .u8))) (oa : Option Addr) (on oc : Nat) : Does Try.prog 35 [.slice a n c, .slice oa on oc] [A]
    (RetE (fun x : Nat × Nat × Option Addr × Nat => True) (fun x => .agg #[.slice (some ⟨x.1, 0, none⟩) 12 12, .slice oa on oc, .slice (some ⟨x.2.1, 0, none⟩) 1 1]) (fun x => [rowR x.1 130 0 0 0 0 0 0 0 228 27 0 0, row x.2.1 42 [.int .i64 16, .slice x.2.2.1 16 x.2.2.2], ownS 5 1 (.slice x.2.2.1 16 x.2.2.2) 16 ((tl xs).map (Value.int .u8)), A])) := by
  have hbl := blob_d A a n c xs hn hmx hR
  obtain ⟨X, hX⟩ : ∃ X, (tl xs).map (Value.int .u8) = X := ⟨_, rfl⟩
  rw [hX] at hbl ⊢
  (focus
    refine Xg.spec_of Go.Proofs.Try.func35 rfl Go.Proofs.Try.ntmps35 fun g F => ?_)
  (focus
    refine Xg.at_seq ?_
    refine Xg.at_region ?_
    refine Xg.ops_op (by kernel_rfl) (Xg.opx_new 3 [Value.slice none (0 : Nat) (0 : Nat), Value.slice none (0 : Nat) (0 : Nat), Value.slice none (0 : Nat) (0 : Nat)] (by kernel_rfl) (by kernel_rfl) fun xb1 => ?_)
    refine Xg.ops_nil ?_
    refine Xg.at_seq ?_
    refine Xg.at_region ?_
    refine Xg.ops_op (by kernel_rfl) (Xg.opx_bs (elem := 3) 1 [iv 130, iv 0, iv 0, iv 0, iv 0, iv 0, iv 0, iv 0, iv 228, iv 27, iv 0, iv 0] [iv 130, iv 0, iv 0, iv 0, iv 0, iv 0, iv 0, iv 0, iv 228, iv 27, iv 0, iv 0] (by kernel_rfl) (by kernel_rfl) (by decide) rfl (by kernel_rfl) (by kernel_rfl) (by kernel_rfl) (by kernel_rfl) fun xb2 => ?_)
    refine Xg.ops_op (by kernel_rfl) (Xg.opx_pure ((Value.slice oa on oc)) rfl (fun _ => by kernel_rfl) ?_)
    refine Xg.ops_op (by kernel_rfl) (Xg.opx_pure ((Value.slice a n c)) rfl (fun _ => by kernel_rfl) ?_)
    refine Xg.ops_op (by kernel_rfl) (Xg.opx_callE' [2] (fun xx1 => [ownS (5 : TypeId) (1 : Nat) (Value.slice xx1.fst (16 : Nat) xx1.snd) (16 : Nat) X, A, row xb2 (3 : TypeId) [iv 130, iv 0, iv 0, iv 0, iv 0, iv 0, iv 0, iv 0, iv 228, iv 27, iv 0, iv 0], row xb1 (36 : Nat) [Value.slice none (0 : Nat) (0 : Nat), Value.slice none (0 : Nat) (0 : Nat), Value.slice none (0 : Nat) (0 : Nat)]]) (fun _ => by kernel_rfl) (@hbl ) (by kernel_rfl) (by kernel_rfl) (by kernel_rfl) fun xx1 xh1 => ?_)
    try dsimp only at xh1
    refine Xg.ops_op (by kernel_rfl) (Xg.opx_pure ((Value.agg #[iv 16, Value.slice xx1.fst (16 : Nat) xx1.snd])) rfl (fun _ => by kernel_rfl) ?_)
    refine Xg.ops_op (by kernel_rfl) (Xg.opx_bs (elem := 42) 2 [Value.agg #[iv 16, Value.slice xx1.fst (16 : Nat) xx1.snd]] [iv 16, Value.slice xx1.fst (16 : Nat) xx1.snd] (by kernel_rfl) (by kernel_rfl) (by decide) rfl (by kernel_rfl) (by kernel_rfl) (by kernel_rfl) (by kernel_rfl) fun xb3 => ?_)
    refine Xg.ops_op (by kernel_rfl) (Xg.opx_pure ((Value.agg #[Value.slice (some (Addr.mk xb2 (0 : Nat) none)) (12 : Nat) (12 : Nat), Value.slice oa on oc, Value.slice (some (Addr.mk xb3 (0 : Nat) none)) (1 : Nat) (1 : Nat)])) rfl (fun _ => by kernel_rfl) ?_)
    refine Xg.ops_op (by kernel_rfl) (Xg.opx_storen 3 (off := 0) 4 [Value.slice (some (Addr.mk xb2 (0 : Nat) none)) (12 : Nat) (12 : Nat), Value.slice oa on oc, Value.slice (some (Addr.mk xb3 (0 : Nat) none)) (1 : Nat) (1 : Nat)] (by kernel_rfl) rfl (by kernel_rfl) (by kernel_rfl) rfl (by kernel_rfl) (Nat.le_of_ble_eq_true (by kernel_rfl)) ?_)
    refine Xg.ops_nil ?_
    refine Xg.at_ret_feed (v := (Value.agg #[Value.slice (some (Addr.mk xb2 (0 : Nat) none)) (12 : Nat) (12 : Nat), Value.slice oa on oc, Value.slice (some (Addr.mk xb3 (0 : Nat) none)) (1 : Nat) (1 : Nat)])) [(Addr.mk xb1 (0 : Nat) none), (Addr.mk xb1 (1 : Nat) none), (Addr.mk xb1 (2 : Nat) none)] [Value.slice (some (Addr.mk xb2 (0 : Nat) none)) (12 : Nat) (12 : Nat), Value.slice oa on oc, Value.slice (some (Addr.mk xb3 (0 : Nat) none)) (1 : Nat) (1 : Nat)] [3, 0, 1, 2] [row xb2 (3 : TypeId) [iv 130, iv 0, iv 0, iv 0, iv 0, iv 0, iv 0, iv 0, iv 228, iv 27, iv 0, iv 0], row xb3 (42 : TypeId) [iv 16, Value.slice xx1.fst (16 : Nat) xx1.snd], ownS (5 : TypeId) (1 : Nat) (Value.slice xx1.fst (16 : Nat) xx1.snd) (16 : Nat) X, A] Go.Proofs.Try.func35 (by kernel_rfl) (Xg.cells_cons (b := xb1) (off := 0) 4 rfl (by kernel_rfl) (Xg.cells_cons (b := xb1) (off := 1) 4 rfl (by kernel_rfl) (Xg.cells_cons (b := xb1) (off := 2) 4 rfl (by kernel_rfl) Xg.cells_nil))) (by kernel_rfl) (by kernel_rfl) ?_
    refine ⟨((xb2, xb3, xx1.fst, xx1.snd)), trivial, by kernel_rfl, ?_⟩)
  all_goals rfl

theorem seps_in {C : HP} {K F : List HP} {g w : World} (h : SL g (C :: seps K :: F) w) : SL g (C :: (K ++ F)) w := by
  have h1 : SL g (seps K :: C :: F) w := h.perm (List.Perm.swap _ _ _)
  exact (SL.flat.mp h1).perm List.perm_middle
theorem reads_mem {B : HP} {K : List HP} {sz n : Nat} {s : Value} {vs : List Value} (hB : B ∈ K) (h : Reads B sz s n vs) : Reads (seps K) sz s n vs := ⟨fun g F w hS => by
  obtain ⟨u, t, rfl⟩ := List.append_of_mem hB
  have h1 := SL.flat.mp hS
  rw [List.append_assoc, List.cons_append] at h1
  exact h.run g (u ++ (t ++ F)) w (h1.perm List.perm_middle)⟩
/-- A frame of a scene that lies in parts of one's own. -/
theorem shot_parts (K : List HP) (s : Sn) (hs : s.Ok (seps K)) : Does Try.prog 26 [snV s] K (RetE (fun x : Option Addr × Nat × List Int => Shot s x.2.2 ∧ x.2.2.length = 23040) (fun x => .tuple #[.slice x.1 x.2.2.length x.2.1, .bool true]) (fun x => ints 5 .u8 x.1 x.2.1 x.2.2 :: K)) :=
  does_weak (shot_d (seps K) s hs) (fun g F w h => SL.flat.mpr h) fun v ps ⟨x, h1, h2, h3⟩ => ⟨_, ⟨x, h1, h2, rfl⟩, fun g F w h => by
    rw [h3] at h
    exact seps_in h⟩

/-- A scene with sprites alone. -/
abbrev loneS (b pb : Nat) (ta : Option Addr) (tc : Nat) (ts : List Int) (oa : Option Addr) (on oc : Nat) (os : List Int) : Sn :=
  ⟨some ⟨b, 0, none⟩, 12, 12, [130, 0, 0, 0, 0, 0, 0, 0, 228, 27, 0, 0], oa, on, oc, os, some ⟨pb, 0, none⟩, 1, 1, [⟨16, ta, 16, tc, ts⟩]⟩
theorem loneS_ok (b pb : Nat) (ta : Option Addr) (tc : Nat) (ts : List Int) (oa : Option Addr) (on oc : Nat) (os : List Int) (O : HP) (K : List HP) (hK : K = [rowR b 130 0 0 0 0 0 0 0 228 27 0 0, row pb 42 [.int .i64 16, .slice ta 16 tc], ownS 5 1 (.slice ta 16 tc) 16 (ts.map (Value.int .u8)), O])
    (hl : ts.length = 16) (hb : ∀ i, i < 16 → 0 ≤ ts.getD i 0 ∧ ts.getD i 0 ≤ 255) (hol : os.length = on) (hom : on ≤ maxLen) (hor : Reads O 1 (.slice oa on oc) on (os.map (Value.int .u8))) (hob : ∀ i, i < on → 0 ≤ os.getD i 0 ∧ os.getD i 0 ≤ 255) :
    (loneS b pb ta tc ts oa on oc os).Ok (seps K) := by
  subst hK
  refine ⟨rfl, by show 12 ≤ 2 ^ 63 - 1; omega, reads_mem (.head _) (reads_row (off := 0) rfl (has_all rfl)), fun i hi => ?_, hol, hom, reads_mem (.tail _ (.tail _ (.tail _ (.head _)))) hor, hob, rfl, by show 1 ≤ 2 ^ 63 - 1; omega, reads_mem (.tail _ (.head _)) (reads_row (off := 0) rfl (has_all rfl)), fun i hi => ?_⟩
  · have hi : i < 12 := hi
    have : ∀ i : Fin 12, i64ok ([130, 0, 0, 0, 0, 0, 0, 0, 228, 27, 0, 0].getD i.val 0) := by unfold i64ok; decide
    exact this ⟨i, hi⟩
  · have hi : i < 1 := hi
    obtain rfl : i = 0 := by omega
    exact ⟨hl, by show 16 ≤ 2 ^ 63 - 1; omega, by unfold i64ok; show -9223372036854775808 ≤ (16 : Int) ∧ (16 : Int) ≤ 9223372036854775807; omega, reads_mem (.tail _ (.tail _ (.head _))) reads_own, hb⟩

end Go.Proofs.Ytkfclamiendamaa
