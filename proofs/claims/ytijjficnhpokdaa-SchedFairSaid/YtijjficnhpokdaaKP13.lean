/- The law SchedOnce: nobody has two turns at one time. -/
import Derived.Test.YtijjficnhpokdaaKPD1
import Derived.Test.YtijjficnhpokdaaKS
import Derived.Test.YtijjficnhpokdaaG17
namespace Go.Proofs.Ytijjficnhpokdaa
open Go.Sl Go.Xg
set_option linter.unusedVariables false
set_option linter.unusedSimpArgs false
set_option linter.unnecessarySimpa false
set_option maxHeartbeats 4000000
set_option maxRecDepth 100000

structure Once (k n : Nat) (r : List (Int × Bool)) (s on : List Int) : Prop where
  sl : s.length = k
  rl : r.length = n
  ol : on.length = 8
  eq : ∀ j, j < k → on.getD j 0 = s.getD j 0
  ids : ∀ x ∈ r, 0 ≤ x.1 ∧ x.1 < n
  all : ∀ id : Nat, id < n → 0 ≤ at_ id r
  lo : ∀ j, j < k → -1 ≤ s.getD j 0

theorem getD_set (l : List Int) (i j : Nat) (v : Int) (hi : i < l.length) : (l.set i v).getD j 0 = if j = i then v else l.getD j 0 := by
  simp only [List.getD_eq_getElem?_getD, List.getElem?_set]
  by_cases h : i = j
  · subst h; simp [hi]
  · rw [if_neg h, if_neg (fun e => h e.symm)]
/-- Everybody who is there is found. -/
theorem at_mem (id : Int) (r : List (Int × Bool)) : 0 ≤ at_ id r ↔ ∃ x ∈ r, x.1 = id := by
  constructor
  · intro h
    have h1 := at_ge id r
    have h2 := at_id id r h
    have hlt : (at_ id r).toNat < r.length := by omega
    exact ⟨r[(at_ id r).toNat], List.getElem_mem _, by simpa [List.getD, hlt] using h2⟩
  · rintro ⟨x, hx, e⟩
    by_cases h : 0 ≤ at_ id r
    · exact h
    · have := fidx_neg (p := fun y : Int × Bool => y.1 == id) r (by have : at_ id r = fidx (fun y : Int × Bool => y.1 == id) r := rfl; omega) x hx
      simp [e] at this

section
variable {k n : Nat} {r : List (Int × Bool)} {s on : List Int} (h : Once k n r s on)
include h
theorem Once.beg (q at0 : Nat) (hq : q < r.length) (hat : at0 < k) (hk : k ≤ 8) : Once k n (r.eraseIdx q ++ [r.getD q default]) (s.set at0 (r.getD q default).1) (on.set at0 (r.getD q default).1) := by
  have hm : r.getD q default ∈ r := by
    have : r.getD q default = r[q] := by simp [List.getD, hq]
    rw [this]; exact List.getElem_mem _
  have hsub : ∀ x, x ∈ r.eraseIdx q ++ [r.getD q default] ↔ x ∈ r := fun x => by
    have e : r = r.take q ++ r.getD q default :: r.drop (q + 1) := by
      have : r.getD q default = r[q] := by simp [List.getD, hq]
      rw [this, List.getElem_cons_drop, List.take_append_drop]
    rw [List.eraseIdx_eq_take_drop_succ]
    constructor
    · intro hx
      rw [e]
      simp only [List.mem_append, List.mem_cons, List.not_mem_nil, or_false] at hx ⊢
      rcases hx with (hx | hx) | hx
      · exact .inl hx
      · exact .inr (.inr hx)
      · exact .inr (.inl hx)
    · intro hx
      rw [e] at hx
      simp only [List.mem_append, List.mem_cons, List.not_mem_nil, or_false] at hx ⊢
      rcases hx with hx | hx | hx
      · exact .inl (.inl hx)
      · exact .inr hx
      · exact .inl (.inr hx)
  have hid := h.ids _ hm
  refine ⟨by rw [List.length_set]; exact h.sl, ?_, by rw [List.length_set]; exact h.ol, fun j hj => ?_, fun x hx => h.ids x ((hsub x).1 hx), fun id hi => ?_, fun j hj => ?_⟩
  · rw [List.length_append, List.length_eraseIdx, if_pos hq, ← h.rl]; simp; omega
  · rw [getD_set _ _ _ _ (by rw [h.ol]; omega), getD_set _ _ _ _ (by rw [h.sl]; omega)]
    split
    · rfl
    · exact h.eq j hj
  · obtain ⟨x, hx, e⟩ := (at_mem id r).1 (h.all id hi)
    exact (at_mem id _).2 ⟨x, (hsub x).2 hx, e⟩
  · rw [getD_set _ _ _ _ (by rw [h.sl]; omega)]
    split
    · omega
    · exact h.lo j hj
theorem Once.fin (at0 : Nat) (hat : at0 < k) (hk : k ≤ 8) : Once k n r (s.set at0 (-1)) (on.set at0 (-1)) := by
  refine ⟨by rw [List.length_set]; exact h.sl, h.rl, by rw [List.length_set]; exact h.ol, fun j hj => ?_, h.ids, h.all, fun j hj => ?_⟩
  · rw [getD_set _ _ _ _ (by rw [h.ol]; omega), getD_set _ _ _ _ (by rw [h.sl]; omega)]
    split
    · rfl
    · exact h.eq j hj
  · rw [getD_set _ _ _ _ (by rw [h.sl]; omega)]
    split
    · omega
    · exact h.lo j hj
theorem Once.fin0 (at0 : Nat) (hat : at0 < k) (hk : k ≤ 8) (hs : s.getD at0 0 < 0) : Once k n r s (on.set at0 (-1)) := by
  refine ⟨h.sl, h.rl, by rw [List.length_set]; exact h.ol, fun j hj => ?_, h.ids, h.all, h.lo⟩
  rw [getD_set _ _ _ _ (by rw [h.ol]; omega)]
  split
  · rename_i e; subst e; have := h.lo _ hj; omega
  · exact h.eq j hj
theorem Once.rdy (id : Nat) (b : Bool) (hi : id < n) : Once k n (rdyR id b r) s on := by
  have ha := h.all id hi
  have hg := at_ge (id : Int) r
  have he := at_id (id : Int) r ha
  unfold rdyR
  rw [if_neg (by omega)]
  refine ⟨h.sl, by rw [List.length_set]; exact h.rl, h.ol, h.eq, fun x hx => ?_, fun id' hi' => ?_, h.lo⟩
  · rcases List.mem_or_eq_of_mem_set hx with e | e
    · exact h.ids x e
    · subst e; dsimp only; omega
  · obtain ⟨x, hx, e⟩ := (at_mem id' r).1 (h.all id' hi')
    by_cases hc : id' = id
    · subst hc
      exact (at_mem _ _).2 ⟨((id' : Int), b), List.mem_set (by omega) _, rfl⟩
    · obtain ⟨j, hj, e1⟩ := List.getElem_of_mem hx
      refine (at_mem _ _).2 ⟨x, ?_, e⟩
      have hne : (at_ (id : Int) r).toNat ≠ j := fun e2 => by
        rw [e2] at he
        have : r.getD j default = x := by simp [List.getD, hj, e1]
        rw [this] at he
        omega
      have : (r.set (at_ (id : Int) r).toNat ((id : Int), b))[j]? = some x := by rw [List.getElem?_set_ne hne, List.getElem?_eq_getElem hj, e1]
      exact List.mem_of_getElem? this
end

section
variable (p : Nat) {k n : Nat} {r : List (Int × Bool)} {s on : List Int} (h : Once k n r s on) (at0 : Nat)
theorem once_b131 (h64 : r.length ≤ 64) (hs : 0 ≤ s.getD at0 0) : Does Try.prog 13 [.pointer (some ⟨p, 0, none⟩), .int .i64 (at0 : Nat)] [SchedP p r s] (Ret (.tuple #[.int .i64 0, .int .i64 131]) [SchedP p r s]) := by
  have hd := begin_d p r s at0 h64
  unfold begV begR begS at hd
  rwa [Int.toNat_natCast, if_pos (.inr (.inr hs)), if_neg (by omega), if_neg (by omega)] at hd
theorem once_b134 (h64 : r.length ≤ 64) (hl : at0 < s.length) (hs : s.getD at0 0 < 0) (hn : next r s < 0) : Does Try.prog 13 [.pointer (some ⟨p, 0, none⟩), .int .i64 (at0 : Nat)] [SchedP p r s] (Ret (.tuple #[.int .i64 0, .int .i64 134]) [SchedP p r s]) := by
  have hd := begin_d p r s at0 h64
  unfold begV begR begS at hd
  rwa [Int.toNat_natCast, if_neg (by omega), if_pos hn, if_neg (by omega), if_neg (by omega)] at hd
theorem once_b0 (h64 : r.length ≤ 64) (hl : at0 < s.length) (hs : s.getD at0 0 < 0) (q : Nat) (hn : next r s = q) : Does Try.prog 13 [.pointer (some ⟨p, 0, none⟩), .int .i64 (at0 : Nat)] [SchedP p r s]
    (Ret (.tuple #[.int .i64 (r.getD q default).1, .int .i64 0]) [SchedP p (r.eraseIdx q ++ [r.getD q default]) (s.set at0 (r.getD q default).1)]) := by
  have hd := begin_d p r s at0 h64
  unfold begV begR begS at hd
  rwa [Int.toNat_natCast, hn, if_neg (by omega), if_neg (by omega), if_pos (by omega), if_pos (by omega), Int.toNat_natCast] at hd
theorem once_e131 (hs : s.getD at0 0 < 0) : Does Try.prog 14 [.pointer (some ⟨p, 0, none⟩), .int .i64 (at0 : Nat)] [SchedP p r s] (Ret (.tuple #[.int .i64 0, .int .i64 131]) [SchedP p r s]) := by
  have hd := end_d p r s at0
  rwa [Int.toNat_natCast, if_pos (.inr (.inr hs)), if_pos (.inr (.inr hs))] at hd
theorem once_e0 (hl : at0 < s.length) (hs : 0 ≤ s.getD at0 0) : Does Try.prog 14 [.pointer (some ⟨p, 0, none⟩), .int .i64 (at0 : Nat)] [SchedP p r s] (Ret (.tuple #[.int .i64 (s.getD at0 0), .int .i64 0]) [SchedP p r (s.set at0 (-1))]) := by
  have hd := end_d p r s at0
  rwa [Int.toNat_natCast, if_neg (by omega), if_neg (by omega)] at hd
include h in
theorem once_r (id : Nat) (hi : id < n) (b : Bool) : Does Try.prog 15 [.pointer (some ⟨p, 0, none⟩), .int .i64 (id : Nat), .bool b] [SchedP p r s] (Ret (.int .i64 0) [SchedP p (rdyR id b r) s]) := by
  have hd := ready_d p r s id b
  have := h.all id hi
  unfold hasE at hd
  rwa [if_neg (by omega)] at hd
/-- Whoever has no turn. -/
theorem next_free (q : Nat) (hn : next r s = q) : q < r.length ∧ ∀ j, j < s.length → s.getD j 0 ≠ (r.getD q default).1 := by
  have h1 : next r s < r.length := (fidx_ge r).2
  have h2 := fidx_pos (p := free s) default r (show 0 ≤ fidx (free s) r by have : next r s = fidx (free s) r := rfl; omega)
  have e : fidx (free s) r = q := hn
  rw [e, Int.toNat_natCast] at h2
  refine ⟨by omega, fun j hj ej => ?_⟩
  unfold free at h2
  simp only [Bool.and_eq_true, Bool.not_eq_true', decide_eq_false_iff_not] at h2
  have h3 := fidx_neg (p := fun y : Int => (r.getD q default).1 == y) s (by omega) s[j] (List.getElem_mem hj)
  have e2 : s[j] = (r.getD q default).1 := by simpa [List.getD, hj] using ej
  rw [e2] at h3
  simp at h3
end
theorem once_full (k n : Nat) (on : List Int) (ho : on.length = 8) (h : ∀ j, j < k → on.getD j 0 = -1) : Once k n (full n) (List.replicate k (-1)) on := by
  refine ⟨by simp, full_len n, ho, fun j hj => ?_, fun x hx => ?_, fun id hi => ?_, fun j hj => ?_⟩
  · rw [h j hj]; simp [List.getD, hj]
  · obtain ⟨i, hi, rfl⟩ := List.mem_map.1 hx
    have := List.mem_range.1 hi
    exact ⟨by dsimp only; omega, by dsimp only; omega⟩
  · exact (at_mem _ _).2 ⟨_, List.mem_map.2 ⟨id, List.mem_range.2 hi, rfl⟩, rfl⟩
  · simp [List.getD, hj]

set_option maxHeartbeats 0 in
theorem ponce_d (A : HP) (slots0 : Int) (hsl : i64ok slots0) (many0 : Int) (hma : i64ok many0) (a : Option Addr) (m c : Nat) (xs : List (Int × Int)) (hm : xs.length = m) (hmx : m ≤ maxLen) (hR : Reads A 2 (.slice a m c) m (recs acC xs)) (hB : ∀ i, i < m → i64ok (xs.getD i default).1 ∧ i64ok (xs.getD i default).2) :
    Does Try.prog 4 [.int .i64 slots0, .int .i64 many0, .slice a m c] [A] (Ret (.bool true) [A]) := by
  (focus
    refine Xg.spec_of Go.Proofs.Try.func4 rfl Go.Proofs.Try.ntmps4 fun g F => ?_)
  unfold maxLen at hmx
  (focus
    refine Xg.at_seq ?_
    refine Xg.at_region ?_
    refine Xg.ops_op (by kernel_rfl) (Xg.opx_pure ((Value.bool false)) rfl (fun _ => by kernel_rfl) ?_)
    refine Xg.ops_nil ?_
    refine Xg.at_seq ?_
    refine Xg.at_region ?_
    refine Xg.ops_op (by kernel_rfl) (Xg.opx_call1' [] [A] (fun _ => by kernel_rfl) (@Go.Proofs.Ytijjficnhpokdaa.begun_d ) (by kernel_rfl) (by kernel_rfl) (by kernel_rfl) ?_)
    refine Xg.ops_op (by kernel_rfl) (Xg.opx_pure ((Value.bool true)) rfl (fun _ => by kernel_rfl) ?_)
    refine Xg.ops_nil ?_
    refine Xg.at_seq ?_
    refine Xg.at_region ?_
    refine Xg.ops_op (by kernel_rfl) (Xg.opx_pure ((iv slots0)) rfl (fun _ => by kernel_rfl) ?_)
    refine Xg.ops_op (by kernel_rfl) (Xg.opx_callE' [] (fun xx1 => [A]) (fun _ => by kernel_rfl) (@Go.Proofs.Ytijjficnhpokdaa.pick_d (slots0) ((nat_lit 8)) (by omega) (by first | rfl | decide | (constructor <;> omega) | (simp; done) | (simp; omega))) (by kernel_rfl) (by kernel_rfl) (by kernel_rfl) fun xx1 xh1 => ?_)
    try dsimp only at xh1
    obtain ⟨xh1_0, xh1_1⟩ := xh1
    refine Xg.ops_op (by kernel_rfl) (Xg.opx_int .i64 (IntKind.wrap .i64 (((1 : Int) + (↑xx1 : Int)))) rfl (fun _ => by kernel_rfl) (Xg.wrap_i64_in (by omega)) ?_)
    refine Xg.ops_op (by kernel_rfl) (Xg.opx_pure ((iv ((1 : Int) + (↑xx1 : Int)))) rfl (fun _ => by kernel_rfl) ?_)
    refine Xg.ops_nil ?_
    refine Xg.at_seq ?_
    refine Xg.at_region ?_
    refine Xg.ops_op (by kernel_rfl) (Xg.opx_pure ((iv many0)) rfl (fun _ => by kernel_rfl) ?_)
    refine Xg.ops_op (by kernel_rfl) (Xg.opx_callE' [] (fun xx2 => [A]) (fun _ => by kernel_rfl) (@Go.Proofs.Ytijjficnhpokdaa.pick_d (many0) ((nat_lit 12)) (by omega) (by first | rfl | decide | (constructor <;> omega) | (simp; done) | (simp; omega))) (by kernel_rfl) (by kernel_rfl) (by kernel_rfl) fun xx2 xh2 => ?_)
    try dsimp only at xh2
    obtain ⟨xh2_0, xh2_1⟩ := xh2
    refine Xg.ops_op (by kernel_rfl) (Xg.opx_int .i64 (IntKind.wrap .i64 (((1 : Int) + (↑xx2 : Int)))) rfl (fun _ => by kernel_rfl) (Xg.wrap_i64_in (by omega)) ?_)
    refine Xg.ops_op (by kernel_rfl) (Xg.opx_pure ((iv ((1 : Int) + (↑xx2 : Int)))) rfl (fun _ => by kernel_rfl) ?_)
    refine Xg.ops_nil ?_
    refine Xg.at_seq ?_
    refine Xg.at_region ?_
    refine Xg.ops_op (by kernel_rfl) (Xg.opx_pure ((iv ((1 : Int) + (↑xx1 : Int)))) rfl (fun _ => by kernel_rfl) ?_)
    refine Xg.ops_op (by kernel_rfl) (Xg.opx_pure ((iv ((1 : Int) + (↑xx2 : Int)))) rfl (fun _ => by kernel_rfl) ?_)
    refine Xg.ops_op (by kernel_rfl) (Xg.opx_callE' [] (fun xx3 => [SchedP xx3 (full (nat_lit 1 + xx2)) (List.replicate (nat_lit 1 + xx1) (-1 : Int)), A]) (fun _ => by kernel_rfl) (@Go.Proofs.Ytijjficnhpokdaa.made_d ((nat_lit 1 + xx1)) ((nat_lit 1 + xx2)) (by first | rfl | decide | (constructor <;> omega) | (simp; done) | (simp; omega)) (by first | rfl | decide | (constructor <;> omega) | (simp; done) | (simp; omega)) (by first | rfl | decide | (constructor <;> omega) | (simp; done) | (simp; omega))) (by kernel_rfl) (by kernel_rfl) (by kernel_rfl) fun xx3 xh3 => ?_)
    try dsimp only at xh3
    refine Xg.ops_op (by kernel_rfl) (Xg.opx_pure ((pv xx3 0)) rfl (fun _ => by kernel_rfl) ?_)
    refine Xg.ops_nil ?_
    refine Xg.at_seq ?_
    refine Xg.at_seq ?_
    refine Xg.at_region ?_
    refine Xg.ops_op (by kernel_rfl) (Xg.opx_pure ((Value.bool true)) rfl (fun _ => by kernel_rfl) ?_)
    refine Xg.ops_op (by kernel_rfl) (Xg.opx_pure (.bool false) rfl (fun _ => by kernel_rfl) ?_)
    refine Xg.ops_op (by kernel_rfl) (Xg.opx_pure ((Value.bool false)) rfl (fun _ => by kernel_rfl) ?_)
    refine Xg.ops_op (by kernel_rfl) (Xg.opx_pure ((pv xx3 0)) rfl (fun _ => by kernel_rfl) ?_)
    refine Xg.ops_op (by kernel_rfl) (Xg.opx_pure ((Value.bool false)) rfl (fun _ => by kernel_rfl) ?_)
    refine Xg.ops_op (by kernel_rfl) (Xg.opx_pure ((Value.bool false)) rfl (fun _ => by kernel_rfl) ?_)
    refine Xg.ops_nil ?_
    refine Xg.at_false (t := false) (by kernel_rfl) rfl ?_
    refine Xg.at_skip ?_
    refine Xg.at_seq ?_
    refine Xg.at_region ?_
    refine Xg.ops_op (by kernel_rfl) (Xg.opx_new 8 [iv 0, iv 0, iv 0, iv 0, iv 0, iv 0, iv 0, iv 0] (by kernel_rfl) (by kernel_rfl) fun xb1 => ?_)
    refine Xg.ops_nil ?_
    refine Xg.at_seq ?_
    refine Xg.at_seq ?_
    refine Xg.at_region ?_
    refine Xg.ops_op (by kernel_rfl) (Xg.opx_pure ((iv 0)) rfl (fun _ => by kernel_rfl) ?_)
    refine Xg.ops_nil ?_
    refine Xg.at_block ?_)
  (focus
    refine Xg.at_keep [1, 0, 2] (by kernel_rfl) ?_
    refine Xg.at_rounds_inv (α := (Nat × List Int) × (Nat → Value)) (fun x => ((fun x => x.1 ≤ 1 + xx1 ∧ x.2.length = 8 ∧ ∀ j, j < x.1 → x.2.getD j 0 = -1) : (Nat × List Int) → Prop) x.1) (fun x => ((fun x => 1 + xx1 - x.1) : (Nat × List Int) → Nat) x.1) (fun x => Xg.headT [iv slots0, iv many0, Value.slice a m c, tu, tu, tu, Value.bool false, Value.bool true, iv ((1 : Int) + (↑xx1 : Int)), iv ((1 : Int) + (↑xx2 : Int)), pv xx3 0, pv xb1 0, iv 0, tu, tu, tu, tu, tu, tu, tu, tu, tu, tu, tu, Value.bool true, iv slots0, iv (↑xx1 : Int), iv ((1 : Int) + (↑xx1 : Int)), iv many0, iv (↑xx2 : Int), iv ((1 : Int) + (↑xx2 : Int)), iv ((1 : Int) + (↑xx1 : Int)), iv ((1 : Int) + (↑xx2 : Int)), pv xx3 0, Value.bool true, Value.bool false, Value.bool false, pv xx3 0, Value.bool false, Value.bool false, tu, tu, tu, tu, tu, tu, tu, tu, tu, tu, tu, tu, tu, tu, tu, tu, tu, tu, tu, tu, tu, tu, tu, tu, tu, tu, tu, tu, tu, tu, tu, tu, tu, tu, tu, tu, tu, tu, tu, tu, tu, tu, tu, tu, tu, tu, tu, tu, tu, tu, tu, tu, tu, tu, tu, tu, tu, tu, tu, tu, tu, tu, tu, tu, tu, tu, tu, tu, tu, tu, tu, tu, tu, tu, tu, tu, tu, tu, tu, tu, tu, tu, tu, tu, tu, tu, tu, tu, tu, tu, tu, tu, tu, tu, tu, tu, tu, tu, tu, tu, tu] [40, 41, 42, 43, 44, 45, 46] (((fun x => [(12, .int .i64 (x.1 : Nat))]) : (Nat × List Int) → List (Nat × Go.Value)) x.1) x.2) (fun x => ((fun x => [SchedP xx3 (full (1 + xx2)) (List.replicate (1 + xx1) (-1)), row xb1 31 (x.2.map (Value.int .i64)), A]) : (Nat × List Int) → List Go.Sl.HP) x.1) (((0, List.replicate 8 0)), fun j => ([iv slots0, iv many0, Value.slice a m c, tu, tu, tu, Value.bool false, Value.bool true, iv ((1 : Int) + (↑xx1 : Int)), iv ((1 : Int) + (↑xx2 : Int)), pv xx3 0, pv xb1 0, iv 0, tu, tu, tu, tu, tu, tu, tu, tu, tu, tu, tu, Value.bool true, iv slots0, iv (↑xx1 : Int), iv ((1 : Int) + (↑xx1 : Int)), iv many0, iv (↑xx2 : Int), iv ((1 : Int) + (↑xx2 : Int)), iv ((1 : Int) + (↑xx1 : Int)), iv ((1 : Int) + (↑xx2 : Int)), pv xx3 0, Value.bool true, Value.bool false, Value.bool false, pv xx3 0, Value.bool false, Value.bool false, tu, tu, tu, tu, tu, tu, tu, tu, tu, tu, tu, tu, tu, tu, tu, tu, tu, tu, tu, tu, tu, tu, tu, tu, tu, tu, tu, tu, tu, tu, tu, tu, tu, tu, tu, tu, tu, tu, tu, tu, tu, tu, tu, tu, tu, tu, tu, tu, tu, tu, tu, tu, tu, tu, tu, tu, tu, tu, tu, tu, tu, tu, tu, tu, tu, tu, tu, tu, tu, tu, tu, tu, tu, tu, tu, tu, tu, tu, tu, tu, tu, tu, tu, tu, tu, tu, tu, tu, tu, tu, tu, tu, tu, tu, tu, tu, tu, tu, tu, tu, tu] : List Value).getD j undef) (by kernel_rfl) (by kernel_rfl) ?_ ?_)
  · exact ⟨Nat.zero_le _, rfl, fun j hj => absurd hj (Nat.not_lt_zero _)⟩
  rintro ⟨⟨i, on⟩, J⟩ ⟨hi, ho1, ho2⟩ ih
  dsimp only at hi ho1 ho2
  (focus
    refine Xg.At.same (T' := [iv slots0, iv many0, Value.slice a m c, tu, tu, tu, Value.bool false, Value.bool true, iv ((1 : Int) + (↑xx1 : Int)), iv ((1 : Int) + (↑xx2 : Int)), pv xx3 0, pv xb1 0, iv (↑i : Int), tu, tu, tu, tu, tu, tu, tu, tu, tu, tu, tu, Value.bool true, iv slots0, iv (↑xx1 : Int), iv ((1 : Int) + (↑xx1 : Int)), iv many0, iv (↑xx2 : Int), iv ((1 : Int) + (↑xx2 : Int)), iv ((1 : Int) + (↑xx1 : Int)), iv ((1 : Int) + (↑xx2 : Int)), pv xx3 0, Value.bool true, Value.bool false, Value.bool false, pv xx3 0, Value.bool false, Value.bool false, J 40, J 41, J 42, J 43, J 44, J 45, J 46, tu, tu, tu, tu, tu, tu, tu, tu, tu, tu, tu, tu, tu, tu, tu, tu, tu, tu, tu, tu, tu, tu, tu, tu, tu, tu, tu, tu, tu, tu, tu, tu, tu, tu, tu, tu, tu, tu, tu, tu, tu, tu, tu, tu, tu, tu, tu, tu, tu, tu, tu, tu, tu, tu, tu, tu, tu, tu, tu, tu, tu, tu, tu, tu, tu, tu, tu, tu, tu, tu, tu, tu, tu, tu, tu, tu, tu, tu, tu, tu, tu, tu, tu, tu, tu, tu, tu, tu, tu, tu, tu, tu, tu, tu]) (L' := [SchedP xx3 (full ((1 : Nat) + xx2)) (List.replicate ((1 : Nat) + xx1) (-1 : Int)), row xb1 (31 : TypeId) (List.map (Value.int IntKind.i64) ((i, on), J).fst.snd), A]) (by kernel_rfl) rfl ?_)
  by_cases hlt : i < 1 + xx1
  · (focus
      refine Xg.at_seq ?_
      refine Xg.at_seq ?_
      refine Xg.at_region ?_
      refine Xg.ops_op (by kernel_rfl) (Xg.opx_pure ((iv (↑i : Int))) rfl (fun _ => by kernel_rfl) ?_)
      refine Xg.ops_op (by kernel_rfl) (Xg.opx_pure ((iv ((1 : Int) + (↑xx1 : Int)))) rfl (fun _ => by kernel_rfl) ?_)
      refine Xg.ops_op (by kernel_rfl) (Xg.opx_pure (.bool (decide ((((↑i : Int)) : Int) < ((1 : Int) + (↑xx1 : Int))))) rfl (fun _ => by kernel_rfl) ?_)
      refine Xg.ops_nil ?_
      refine Xg.at_true (t := decide (((↑i : Int) < (1 : Int) + (↑xx1 : Int)))) (by kernel_rfl) (decide_eq_true (by omega)) ?_
      refine Xg.at_skip ?_
      refine Xg.at_seq ?_
      refine Xg.at_block ?_
      refine Xg.at_region ?_
      refine Xg.ops_op (by kernel_rfl) (Xg.opx_pure ((iv (↑i : Int))) rfl (fun _ => by kernel_rfl) ?_)
      refine Xg.ops_op (by kernel_rfl) (Xg.opx_run (.pointer (some (Addr.mk xb1 i none))) rfl (Xg.run_ix_array' (elem := 3) (len := 8) (b := xb1) (off := ((0 : Nat))) (kd := .i64) (e := ((↑i : Int))) 1 i i (by kernel_rfl) (by kernel_rfl) (by kernel_rfl) (by kernel_rfl) rfl (by omega) (by omega)) ?_)
      refine Xg.ops_op (by kernel_rfl) (Xg.opx_store_row_i (b := xb1) (off := i) (kd := .i64) (xs := (((i, on), J).fst.snd)) (e := ((-1 : Int))) 1 (by kernel_rfl) rfl (by kernel_rfl) (by kernel_rfl) (by first | omega | (simp only [List.length_set]; omega)) ?_)
      refine Xg.ops_nil ?_
      refine Xg.at_inBlock ?_
      refine Xg.at_region ?_
      refine Xg.ops_op (by kernel_rfl) (Xg.opx_pure ((iv (↑i : Int))) rfl (fun _ => by kernel_rfl) ?_)
      refine Xg.ops_op (by kernel_rfl) (Xg.opx_int .i64 (IntKind.wrap .i64 (((↑i : Int) + (1 : Int)))) rfl (fun _ => by kernel_rfl) (Xg.wrap_i64_in (by omega)) ?_)
      refine Xg.ops_op (by kernel_rfl) (Xg.opx_pure ((iv ((↑i : Int) + (1 : Int)))) rfl (fun _ => by kernel_rfl) ?_)
      refine Xg.ops_nil ?_
      refine Xg.at_inLoop ?_)
    (focus
      refine Xg.at_keep [0, 1, 2] (by kernel_rfl) ?_
      refine Xs.same ?_ (fun J9 => ih (((i + 1, on.set i (-1))), J9) ?_ ?_) (by kernel_rfl))
    · rfl
    · refine ⟨by dsimp only; omega, by dsimp only; rw [List.length_set]; exact ho1, fun j hj => ?_⟩
      dsimp only at hj ⊢
      rw [getD_set _ _ _ _ (by omega)]
      split
      · rfl
      · exact ho2 j (by omega)
    · dsimp only; omega
  · have hO := once_full (1 + xx1) (1 + xx2) on ho1 (fun j hj => ho2 j (by omega))
    clear ih ho1 ho2
    (focus
      refine Xg.at_seq ?_
      refine Xg.at_seq ?_
      refine Xg.at_region ?_
      refine Xg.ops_op (by kernel_rfl) (Xg.opx_pure ((iv (↑i : Int))) rfl (fun _ => by kernel_rfl) ?_)
      refine Xg.ops_op (by kernel_rfl) (Xg.opx_pure ((iv ((1 : Int) + (↑xx1 : Int)))) rfl (fun _ => by kernel_rfl) ?_)
      refine Xg.ops_op (by kernel_rfl) (Xg.opx_pure (.bool (decide ((((↑i : Int)) : Int) < ((1 : Int) + (↑xx1 : Int))))) rfl (fun _ => by kernel_rfl) ?_)
      refine Xg.ops_nil ?_
      refine Xg.at_false (t := decide (((↑i : Int) < (1 : Int) + (↑xx1 : Int)))) (by kernel_rfl) (decide_eq_false (by omega)) ?_
      refine Xg.at_exit rfl ?_
      refine Xg.at_seq ?_
      refine Xg.at_seq ?_
      refine Xg.at_region ?_
      refine Xg.ops_op (by kernel_rfl) (Xg.opx_pure ((iv 0)) rfl (fun _ => by kernel_rfl) ?_)
      refine Xg.ops_nil ?_
      refine Xg.at_block ?_)
    (focus
      refine Xg.at_rounds_inv (α := (Nat × List (Int × Bool) × List Int × List Int) × (Nat → Value)) (fun x => ((fun x => x.1 ≤ m ∧ Once (1 + xx1) (1 + xx2) x.2.1 x.2.2.1 x.2.2.2) : (Nat × List (Int × Bool) × List Int × List Int) → Prop) x.1) (fun x => ((fun x => m - x.1) : (Nat × List (Int × Bool) × List Int × List Int) → Nat) x.1) (fun x => Xg.headT [iv slots0, iv many0, Value.slice a m c, tu, tu, tu, Value.bool false, Value.bool true, iv ((1 : Int) + (↑xx1 : Int)), iv ((1 : Int) + (↑xx2 : Int)), pv xx3 0, pv xb1 0, iv (↑i : Int), iv 0, tu, tu, tu, tu, tu, tu, tu, tu, tu, tu, Value.bool true, iv slots0, iv (↑xx1 : Int), iv ((1 : Int) + (↑xx1 : Int)), iv many0, iv (↑xx2 : Int), iv ((1 : Int) + (↑xx2 : Int)), iv ((1 : Int) + (↑xx1 : Int)), iv ((1 : Int) + (↑xx2 : Int)), pv xx3 0, Value.bool true, Value.bool false, Value.bool false, pv xx3 0, Value.bool false, Value.bool false, iv (↑i : Int), iv ((1 : Int) + (↑xx1 : Int)), Value.bool (decide ((↑i : Int) < (1 : Int) + (↑xx1 : Int))), J 43, J 44, J 45, J 46, tu, tu, tu, tu, tu, tu, tu, tu, tu, tu, tu, tu, tu, tu, tu, tu, tu, tu, tu, tu, tu, tu, tu, tu, tu, tu, tu, tu, tu, tu, tu, tu, tu, tu, tu, tu, tu, tu, tu, tu, tu, tu, tu, tu, tu, tu, tu, tu, tu, tu, tu, tu, tu, tu, tu, tu, tu, tu, tu, tu, tu, tu, tu, tu, tu, tu, tu, tu, tu, tu, tu, tu, tu, tu, tu, tu, tu, tu, tu, tu, tu, tu, tu, tu, tu, tu, tu, tu, tu, tu, tu, tu, tu, tu] [6, 14, 15, 16, 17, 18, 19, 20, 21, 22, 23, 47, 48, 49, 50, 51, 52, 53, 54, 55, 56, 57, 58, 59, 60, 61, 62, 63, 64, 65, 66, 67, 68, 69, 70, 71, 72, 73, 74, 75, 76, 77, 78, 79, 80, 81, 82, 83, 84, 85, 86, 87, 88, 89, 90, 91, 92, 93, 94, 95, 96, 97, 98, 99, 100, 101, 102, 103, 104, 105, 106, 107, 108, 109, 110, 111, 112, 113, 114, 115, 116, 117, 118, 119, 120, 121, 122, 123, 124, 125, 126, 127, 128, 129, 130, 131, 132, 133, 134, 135, 136, 137, 138, 139, 140] (((fun x => [(13, .int .i64 (x.1 : Nat))]) : (Nat × List (Int × Bool) × List Int × List Int) → List (Nat × Go.Value)) x.1) x.2) (fun x => ((fun x => [SchedP xx3 x.2.1 x.2.2.1, row xb1 31 (x.2.2.2.map (Value.int .i64)), A]) : (Nat × List (Int × Bool) × List Int × List Int) → List Go.Sl.HP) x.1) (((0, full (1 + xx2), List.replicate (1 + xx1) (-1), on)), fun j => ([iv slots0, iv many0, Value.slice a m c, tu, tu, tu, Value.bool false, Value.bool true, iv ((1 : Int) + (↑xx1 : Int)), iv ((1 : Int) + (↑xx2 : Int)), pv xx3 0, pv xb1 0, iv (↑i : Int), iv 0, tu, tu, tu, tu, tu, tu, tu, tu, tu, tu, Value.bool true, iv slots0, iv (↑xx1 : Int), iv ((1 : Int) + (↑xx1 : Int)), iv many0, iv (↑xx2 : Int), iv ((1 : Int) + (↑xx2 : Int)), iv ((1 : Int) + (↑xx1 : Int)), iv ((1 : Int) + (↑xx2 : Int)), pv xx3 0, Value.bool true, Value.bool false, Value.bool false, pv xx3 0, Value.bool false, Value.bool false, iv (↑i : Int), iv ((1 : Int) + (↑xx1 : Int)), Value.bool (decide ((↑i : Int) < (1 : Int) + (↑xx1 : Int))), J 43, J 44, J 45, J 46, tu, tu, tu, tu, tu, tu, tu, tu, tu, tu, tu, tu, tu, tu, tu, tu, tu, tu, tu, tu, tu, tu, tu, tu, tu, tu, tu, tu, tu, tu, tu, tu, tu, tu, tu, tu, tu, tu, tu, tu, tu, tu, tu, tu, tu, tu, tu, tu, tu, tu, tu, tu, tu, tu, tu, tu, tu, tu, tu, tu, tu, tu, tu, tu, tu, tu, tu, tu, tu, tu, tu, tu, tu, tu, tu, tu, tu, tu, tu, tu, tu, tu, tu, tu, tu, tu, tu, tu, tu, tu, tu, tu, tu, tu] : List Value).getD j undef) (by kernel_rfl) (by kernel_rfl) ?_ ?_)
    · exact ⟨Nat.zero_le _, hO⟩
    clear hO
    rintro ⟨⟨i2, r, s, ov⟩, J2⟩ ⟨hi2, hO⟩ ih
    dsimp only at hi2 hO
    (focus
      refine Xg.At.same (T' := [iv slots0, iv many0, Value.slice a m c, tu, tu, tu, J2 6, Value.bool true, iv ((1 : Int) + (↑xx1 : Int)), iv ((1 : Int) + (↑xx2 : Int)), pv xx3 0, pv xb1 0, iv (↑i : Int), iv (↑i2 : Int), J2 14, J2 15, J2 16, J2 17, J2 18, J2 19, J2 20, J2 21, J2 22, J2 23, Value.bool true, iv slots0, iv (↑xx1 : Int), iv ((1 : Int) + (↑xx1 : Int)), iv many0, iv (↑xx2 : Int), iv ((1 : Int) + (↑xx2 : Int)), iv ((1 : Int) + (↑xx1 : Int)), iv ((1 : Int) + (↑xx2 : Int)), pv xx3 0, Value.bool true, Value.bool false, Value.bool false, pv xx3 0, Value.bool false, Value.bool false, iv (↑i : Int), iv ((1 : Int) + (↑xx1 : Int)), Value.bool (decide ((↑i : Int) < (1 : Int) + (↑xx1 : Int))), J 43, J 44, J 45, J 46, J2 47, J2 48, J2 49, J2 50, J2 51, J2 52, J2 53, J2 54, J2 55, J2 56, J2 57, J2 58, J2 59, J2 60, J2 61, J2 62, J2 63, J2 64, J2 65, J2 66, J2 67, J2 68, J2 69, J2 70, J2 71, J2 72, J2 73, J2 74, J2 75, J2 76, J2 77, J2 78, J2 79, J2 80, J2 81, J2 82, J2 83, J2 84, J2 85, J2 86, J2 87, J2 88, J2 89, J2 90, J2 91, J2 92, J2 93, J2 94, J2 95, J2 96, J2 97, J2 98, J2 99, J2 100, J2 101, J2 102, J2 103, J2 104, J2 105, J2 106, J2 107, J2 108, J2 109, J2 110, J2 111, J2 112, J2 113, J2 114, J2 115, J2 116, J2 117, J2 118, J2 119, J2 120, J2 121, J2 122, J2 123, J2 124, J2 125, J2 126, J2 127, J2 128, J2 129, J2 130, J2 131, J2 132, J2 133, J2 134, J2 135, J2 136, J2 137, J2 138, J2 139, J2 140]) (L' := [SchedP xx3 ((i2, r, s, ov), J2).fst.snd.fst ((i2, r, s, ov), J2).fst.snd.snd.fst, row xb1 (31 : TypeId) (List.map (Value.int IntKind.i64) ((i2, r, s, ov), J2).fst.snd.snd.snd), A]) (by kernel_rfl) rfl ?_)
    dsimp only
    have hol := hO.ol
    have hsl2 := hO.sl
    have h64 : r.length ≤ 64 := by have := hO.rl; omega
    by_cases hlt2 : i2 < m
    · obtain ⟨hBa, hBb⟩ := hB i2 hlt2
      (focus
        refine Xg.at_seq ?_
        refine Xg.at_seq ?_
        refine Xg.at_region ?_
        refine Xg.ops_op (by kernel_rfl) (Xg.opx_pure ((iv (↑i2 : Int))) rfl (fun _ => by kernel_rfl) ?_)
        refine Xg.ops_op (by kernel_rfl) (Xg.opx_pure ((Value.slice a m c)) rfl (fun _ => by kernel_rfl) ?_)
        refine Xg.ops_op (by kernel_rfl) (Xg.opx_pure ((iv (↑m : Int))) rfl (fun _ => by kernel_rfl) ?_)
        refine Xg.ops_op (by kernel_rfl) (Xg.opx_pure (.bool (decide ((((↑i2 : Int)) : Int) < ((↑m : Int))))) rfl (fun _ => by kernel_rfl) ?_)
        refine Xg.ops_nil ?_
        refine Xg.at_true (t := decide (((↑i2 : Int) < (↑m : Int)))) (by kernel_rfl) (decide_eq_true (by omega)) ?_
        refine Xg.at_skip ?_
        refine Xg.at_seq ?_
        refine Xg.at_block ?_
        refine Xg.at_seq ?_
        refine Xg.at_region ?_
        refine Xg.ops_op (by kernel_rfl) (Xg.opx_pure ((Value.slice a m c)) rfl (fun _ => by kernel_rfl) ?_)
        refine Xg.ops_op (by kernel_rfl) (Xg.opx_pure ((iv (↑i2 : Int))) rfl (fun _ => by kernel_rfl) ?_)
        refine Xg.ops_op (by kernel_rfl) (Xg.opx_rd 2 (.pointer (some (Addr.mk (Xg.blk a) (offA a + i2 * (2 : Nat)) none))) rfl hR (by kernel_rfl) (Xg.run_ix_rd (elem := 33) (kd := .i64) (e := ((↑i2 : Int))) 2 i2 (offA a + i2 * (2 : Nat)) (by kernel_rfl) (by kernel_rfl) (by kernel_rfl) (by kernel_rfl) rfl (by omega) (by rw [Xg.recs_len (wd := 2) (fun _ => rfl)]; omega) (by omega)) ?_)
        refine Xg.ops_op (by kernel_rfl) (Xg.opx_rd 2 (.agg (List.toArray [iv (xs.getD i2 default).fst, iv (xs.getD i2 default).snd])) rfl hR (by kernel_rfl) (Xg.run_loadn_rd (off0 := (offA a + i2 * (2 : Nat))) 2 (i2 * (2 : Nat)) [iv (xs.getD i2 default).fst, iv (xs.getD i2 default).snd] (by kernel_rfl) (by kernel_rfl) (by omega) rfl (Xg.recs_at' (wd := 2) (fun _ => rfl) default i2 (by omega) (by omega) (by kernel_rfl)) (by kernel_rfl)) ?_)
        refine Xg.ops_op (by kernel_rfl) (Xg.opx_new 2 [iv 0, iv 0] (by kernel_rfl) (by kernel_rfl) fun xb2 => ?_)
        refine Xg.ops_op (by kernel_rfl) (Xg.opx_storen 2 (off := 0) 0 [iv (xs.getD i2 default).fst, iv (xs.getD i2 default).snd] (by kernel_rfl) rfl (by kernel_rfl) (by kernel_rfl) rfl (by kernel_rfl) (Nat.le_of_ble_eq_true (by kernel_rfl)) ?_)
        refine Xg.ops_nil ?_
        refine Xg.at_seq ?_
        refine Xg.at_region ?_
        refine Xg.ops_op (by kernel_rfl) (Xg.opx_pure ((pv xb2 1)) rfl (fun _ => by kernel_rfl) ?_)
        refine Xg.ops_op (by kernel_rfl) (Xg.opx_load (b := xb2) (off := ((1 : Nat))) 0 (iv (xs.getD i2 default).snd) rfl (by kernel_rfl) (by kernel_rfl) (by kernel_rfl) ?_)
        refine Xg.ops_op (by kernel_rfl) (Xg.opx_pure ((iv ((1 : Int) + (↑xx1 : Int)))) rfl (fun _ => by kernel_rfl) ?_)
        refine Xg.ops_op (by kernel_rfl) (Xg.opx_callE' [] (fun xx4 => [row xb2 (33 : Nat) [iv (xs.getD i2 default).fst, iv (xs.getD i2 default).snd], SchedP xx3 r s, row xb1 (31 : TypeId) (List.map (Value.int IntKind.i64) ov), A]) (fun _ => by kernel_rfl) (@Go.Proofs.Ytijjficnhpokdaa.pick_d (((xs.getD i2 default).snd)) ((nat_lit 1 + xx1)) (by omega) (by first | rfl | decide | (constructor <;> omega) | (simp; done) | (simp; omega))) (by kernel_rfl) (by kernel_rfl) (by kernel_rfl) fun xx4 xh4 => ?_)
        try dsimp only at xh4
        obtain ⟨xh4_0, xh4_1⟩ := xh4
        refine Xg.ops_op (by kernel_rfl) (Xg.opx_pure ((iv (↑xx4 : Int))) rfl (fun _ => by kernel_rfl) ?_)
        refine Xg.ops_nil ?_
        refine Xg.at_seq ?_
        refine Xg.at_region ?_
        refine Xg.ops_op (by kernel_rfl) (Xg.opx_pure ((pv xb2 1)) rfl (fun _ => by kernel_rfl) ?_)
        refine Xg.ops_op (by kernel_rfl) (Xg.opx_load (b := xb2) (off := ((1 : Nat))) 0 (iv (xs.getD i2 default).snd) rfl (by kernel_rfl) (by kernel_rfl) (by kernel_rfl) ?_)
        refine Xg.ops_op (by kernel_rfl) (Xg.opx_pure ((iv ((1 : Int) + (↑xx2 : Int)))) rfl (fun _ => by kernel_rfl) ?_)
        refine Xg.ops_op (by kernel_rfl) (Xg.opx_callE' [] (fun xx5 => [row xb2 (33 : Nat) [iv (xs.getD i2 default).fst, iv (xs.getD i2 default).snd], SchedP xx3 r s, row xb1 (31 : TypeId) (List.map (Value.int IntKind.i64) ov), A]) (fun _ => by kernel_rfl) (@Go.Proofs.Ytijjficnhpokdaa.pick_d (((xs.getD i2 default).snd)) ((nat_lit 1 + xx2)) (by omega) (by first | rfl | decide | (constructor <;> omega) | (simp; done) | (simp; omega))) (by kernel_rfl) (by kernel_rfl) (by kernel_rfl) fun xx5 xh5 => ?_)
        try dsimp only at xh5
        obtain ⟨xh5_0, xh5_1⟩ := xh5
        refine Xg.ops_op (by kernel_rfl) (Xg.opx_pure ((iv (↑xx5 : Int))) rfl (fun _ => by kernel_rfl) ?_)
        refine Xg.ops_nil ?_
        refine Xg.at_seq ?_
        refine Xg.at_region ?_
        refine Xg.ops_op (by kernel_rfl) (Xg.opx_pure ((pv xb2 0)) rfl (fun _ => by kernel_rfl) ?_)
        refine Xg.ops_op (by kernel_rfl) (Xg.opx_load (b := xb2) (off := ((0 : Nat))) 0 (iv (xs.getD i2 default).fst) rfl (by kernel_rfl) (by kernel_rfl) (by kernel_rfl) ?_)
        refine Xg.ops_op (by kernel_rfl) (Xg.opx_callE' [] (fun xx6 => [row xb2 (33 : Nat) [iv (xs.getD i2 default).fst, iv (xs.getD i2 default).snd], SchedP xx3 r s, row xb1 (31 : TypeId) (List.map (Value.int IntKind.i64) ov), A]) (fun _ => by kernel_rfl) (@Go.Proofs.Ytijjficnhpokdaa.pick_d (((xs.getD i2 default).fst)) ((nat_lit 8)) (by omega) (by first | rfl | decide | (constructor <;> omega) | (simp; done) | (simp; omega))) (by kernel_rfl) (by kernel_rfl) (by kernel_rfl) fun xx6 xh6 => ?_)
        try dsimp only at xh6
        obtain ⟨xh6_0, xh6_1⟩ := xh6
        refine Xg.ops_op (by kernel_rfl) (Xg.opx_pure ((iv (↑xx6 : Int))) rfl (fun _ => by kernel_rfl) ?_)
        refine Xg.ops_nil ?_
        refine Xg.at_block ?_
        refine Xg.at_seq ?_)
      by_cases k4 : xx6 < 4
      · by_cases b1 : 0 ≤ s.getD xx4 0
        · have hb := once_b131 xx3 xx4 h64 b1
          (focus
            refine Xg.at_region ?_
            refine Xg.ops_op (by kernel_rfl) (Xg.opx_pure ((iv (↑xx6 : Int))) rfl (fun _ => by kernel_rfl) ?_)
            refine Xg.ops_op (by kernel_rfl) (Xg.opx_pure (.bool (decide ((((↑xx6 : Int)) : Int) < ((4 : Int))))) rfl (fun _ => by kernel_rfl) ?_)
            refine Xg.ops_op (by kernel_rfl) (Xg.opx_pure ((Value.bool (decide ((↑xx6 : Int) < (4 : Int))))) rfl (fun _ => by kernel_rfl) ?_)
            refine Xg.ops_nil ?_
            refine Xg.at_true (t := decide (((↑xx6 : Int) < (4 : Int)))) (by kernel_rfl) (decide_eq_true (by omega)) ?_
            refine Xg.at_seq ?_
            refine Xg.at_region ?_
            refine Xg.ops_op (by kernel_rfl) (Xg.opx_pure ((pv xx3 0)) rfl (fun _ => by kernel_rfl) ?_)
            refine Xg.ops_op (by kernel_rfl) (Xg.opx_pure ((iv (↑xx4 : Int))) rfl (fun _ => by kernel_rfl) ?_)
            refine Xg.ops_op (by kernel_rfl) (Xg.opx_call1' [1] [SchedP xx3 r s, row xb2 (33 : Nat) [iv (xs.getD i2 default).fst, iv (xs.getD i2 default).snd], row xb1 (31 : TypeId) (List.map (Value.int IntKind.i64) ov), A] (fun _ => by kernel_rfl) (@hb ) (by kernel_rfl) (by kernel_rfl) (by kernel_rfl) ?_)
            refine Xg.ops_op (by kernel_rfl) (Xg.opx_pure ((Value.tuple #[iv 0, iv 131])) rfl (fun _ => by kernel_rfl) ?_)
            refine Xg.ops_op (by kernel_rfl) (Xg.opx_pure ((iv 0)) rfl (fun _ => by kernel_rfl) ?_)
            refine Xg.ops_op (by kernel_rfl) (Xg.opx_pure ((iv 131)) rfl (fun _ => by kernel_rfl) ?_)
            refine Xg.ops_op (by kernel_rfl) (Xg.opx_pure ((iv 0)) rfl (fun _ => by kernel_rfl) ?_)
            refine Xg.ops_op (by kernel_rfl) (Xg.opx_pure ((iv 131)) rfl (fun _ => by kernel_rfl) ?_)
            refine Xg.ops_nil ?_
            refine Xg.at_seq ?_
            refine Xg.at_region ?_
            refine Xg.ops_op (by kernel_rfl) (Xg.opx_pure ((iv 131)) rfl (fun _ => by kernel_rfl) ?_)
            refine Xg.ops_op (by kernel_rfl) (Xg.opx_pure ((Value.bool false)) rfl (fun _ => by kernel_rfl) ?_)
            refine Xg.ops_nil ?_
            refine Xg.at_false (t := false) (by kernel_rfl) rfl ?_
            refine Xg.at_skip ?_
            refine Xg.at_inBlock ?_
            refine Xg.at_inBlock ?_
            refine Xg.at_region ?_
            refine Xg.ops_op (by kernel_rfl) (Xg.opx_pure ((iv (↑i2 : Int))) rfl (fun _ => by kernel_rfl) ?_)
            refine Xg.ops_op (by kernel_rfl) (Xg.opx_int .i64 (IntKind.wrap .i64 (((↑i2 : Int) + (1 : Int)))) rfl (fun _ => by kernel_rfl) (Xg.wrap_i64_in (by omega)) ?_)
            refine Xg.ops_op (by kernel_rfl) (Xg.opx_pure ((iv ((↑i2 : Int) + (1 : Int)))) rfl (fun _ => by kernel_rfl) ?_)
            refine Xg.ops_nil ?_
            refine Xg.at_inLoop ?_)
          (focus
            refine Xg.at_keep [0, 2, 3] (by kernel_rfl) ?_
            refine Xs.same ?_ (fun J9 => ih (((i2 + 1, r, s, ov)), J9) ?_ ?_) (by kernel_rfl))
          · rfl
          · exact ⟨by dsimp only; omega, hO⟩
          · dsimp only; omega
        · by_cases b2 : next r s < 0
          · have hb := once_b134 xx3 xx4 h64 (by omega) (by omega) b2
            (focus
              refine Xg.at_region ?_
              refine Xg.ops_op (by kernel_rfl) (Xg.opx_pure ((iv (↑xx6 : Int))) rfl (fun _ => by kernel_rfl) ?_)
              refine Xg.ops_op (by kernel_rfl) (Xg.opx_pure (.bool (decide ((((↑xx6 : Int)) : Int) < ((4 : Int))))) rfl (fun _ => by kernel_rfl) ?_)
              refine Xg.ops_op (by kernel_rfl) (Xg.opx_pure ((Value.bool (decide ((↑xx6 : Int) < (4 : Int))))) rfl (fun _ => by kernel_rfl) ?_)
              refine Xg.ops_nil ?_
              refine Xg.at_true (t := decide (((↑xx6 : Int) < (4 : Int)))) (by kernel_rfl) (decide_eq_true (by omega)) ?_
              refine Xg.at_seq ?_
              refine Xg.at_region ?_
              refine Xg.ops_op (by kernel_rfl) (Xg.opx_pure ((pv xx3 0)) rfl (fun _ => by kernel_rfl) ?_)
              refine Xg.ops_op (by kernel_rfl) (Xg.opx_pure ((iv (↑xx4 : Int))) rfl (fun _ => by kernel_rfl) ?_)
              refine Xg.ops_op (by kernel_rfl) (Xg.opx_call1' [1] [SchedP xx3 r s, row xb2 (33 : Nat) [iv (xs.getD i2 default).fst, iv (xs.getD i2 default).snd], row xb1 (31 : TypeId) (List.map (Value.int IntKind.i64) ov), A] (fun _ => by kernel_rfl) (@hb ) (by kernel_rfl) (by kernel_rfl) (by kernel_rfl) ?_)
              refine Xg.ops_op (by kernel_rfl) (Xg.opx_pure ((Value.tuple #[iv 0, iv 134])) rfl (fun _ => by kernel_rfl) ?_)
              refine Xg.ops_op (by kernel_rfl) (Xg.opx_pure ((iv 0)) rfl (fun _ => by kernel_rfl) ?_)
              refine Xg.ops_op (by kernel_rfl) (Xg.opx_pure ((iv 134)) rfl (fun _ => by kernel_rfl) ?_)
              refine Xg.ops_op (by kernel_rfl) (Xg.opx_pure ((iv 0)) rfl (fun _ => by kernel_rfl) ?_)
              refine Xg.ops_op (by kernel_rfl) (Xg.opx_pure ((iv 134)) rfl (fun _ => by kernel_rfl) ?_)
              refine Xg.ops_nil ?_
              refine Xg.at_seq ?_
              refine Xg.at_region ?_
              refine Xg.ops_op (by kernel_rfl) (Xg.opx_pure ((iv 134)) rfl (fun _ => by kernel_rfl) ?_)
              refine Xg.ops_op (by kernel_rfl) (Xg.opx_pure ((Value.bool false)) rfl (fun _ => by kernel_rfl) ?_)
              refine Xg.ops_nil ?_
              refine Xg.at_false (t := false) (by kernel_rfl) rfl ?_
              refine Xg.at_skip ?_
              refine Xg.at_inBlock ?_
              refine Xg.at_inBlock ?_
              refine Xg.at_region ?_
              refine Xg.ops_op (by kernel_rfl) (Xg.opx_pure ((iv (↑i2 : Int))) rfl (fun _ => by kernel_rfl) ?_)
              refine Xg.ops_op (by kernel_rfl) (Xg.opx_int .i64 (IntKind.wrap .i64 (((↑i2 : Int) + (1 : Int)))) rfl (fun _ => by kernel_rfl) (Xg.wrap_i64_in (by omega)) ?_)
              refine Xg.ops_op (by kernel_rfl) (Xg.opx_pure ((iv ((↑i2 : Int) + (1 : Int)))) rfl (fun _ => by kernel_rfl) ?_)
              refine Xg.ops_nil ?_
              refine Xg.at_inLoop ?_)
            (focus
              refine Xg.at_keep [0, 2, 3] (by kernel_rfl) ?_
              refine Xs.same ?_ (fun J9 => ih (((i2 + 1, r, s, ov)), J9) ?_ ?_) (by kernel_rfl))
            · rfl
            · exact ⟨by dsimp only; omega, hO⟩
            · dsimp only; omega
          · obtain ⟨q, hq⟩ : ∃ q : Nat, next r s = q := ⟨(next r s).toNat, by omega⟩
            have hb := once_b0 xx3 xx4 h64 (by omega) (by omega) q hq
            obtain ⟨hq1, hq2⟩ := next_free q hq
            have hO2 := hO.beg q xx4 hq1 (by omega) (by omega)
            have hid := hO.ids (r.getD q default) (by have : r.getD q default = r[q] := (by simp [List.getD, hq1]); rw [this]; exact List.getElem_mem _)
            have hoeq := hO.eq
            obtain ⟨r2, hr2⟩ : ∃ r2, r.eraseIdx q ++ [r.getD q default] = r2 := ⟨_, rfl⟩
            obtain ⟨y, hy⟩ : ∃ y, (r.getD q default).1 = y := ⟨_, rfl⟩
            rw [hr2, hy] at hb hO2
            rw [hy] at hq2 hid
            have hoat := hoeq xx4 (by omega)
            (focus
              refine Xg.at_region ?_
              refine Xg.ops_op (by kernel_rfl) (Xg.opx_pure ((iv (↑xx6 : Int))) rfl (fun _ => by kernel_rfl) ?_)
              refine Xg.ops_op (by kernel_rfl) (Xg.opx_pure (.bool (decide ((((↑xx6 : Int)) : Int) < ((4 : Int))))) rfl (fun _ => by kernel_rfl) ?_)
              refine Xg.ops_op (by kernel_rfl) (Xg.opx_pure ((Value.bool (decide ((↑xx6 : Int) < (4 : Int))))) rfl (fun _ => by kernel_rfl) ?_)
              refine Xg.ops_nil ?_
              refine Xg.at_true (t := decide (((↑xx6 : Int) < (4 : Int)))) (by kernel_rfl) (decide_eq_true (by omega)) ?_
              refine Xg.at_seq ?_
              refine Xg.at_region ?_
              refine Xg.ops_op (by kernel_rfl) (Xg.opx_pure ((pv xx3 0)) rfl (fun _ => by kernel_rfl) ?_)
              refine Xg.ops_op (by kernel_rfl) (Xg.opx_pure ((iv (↑xx4 : Int))) rfl (fun _ => by kernel_rfl) ?_)
              refine Xg.ops_op (by kernel_rfl) (Xg.opx_call1' [1] [SchedP xx3 r2 (s.set xx4 y), row xb2 (33 : Nat) [iv (xs.getD i2 default).fst, iv (xs.getD i2 default).snd], row xb1 (31 : TypeId) (List.map (Value.int IntKind.i64) ov), A] (fun _ => by kernel_rfl) (@hb ) (by kernel_rfl) (by kernel_rfl) (by kernel_rfl) ?_)
              refine Xg.ops_op (by kernel_rfl) (Xg.opx_pure ((Value.tuple #[iv y, iv 0])) rfl (fun _ => by kernel_rfl) ?_)
              refine Xg.ops_op (by kernel_rfl) (Xg.opx_pure ((iv y)) rfl (fun _ => by kernel_rfl) ?_)
              refine Xg.ops_op (by kernel_rfl) (Xg.opx_pure ((iv 0)) rfl (fun _ => by kernel_rfl) ?_)
              refine Xg.ops_op (by kernel_rfl) (Xg.opx_pure ((iv y)) rfl (fun _ => by kernel_rfl) ?_)
              refine Xg.ops_op (by kernel_rfl) (Xg.opx_pure ((iv 0)) rfl (fun _ => by kernel_rfl) ?_)
              refine Xg.ops_nil ?_
              refine Xg.at_seq ?_
              refine Xg.at_region ?_
              refine Xg.ops_op (by kernel_rfl) (Xg.opx_pure ((iv 0)) rfl (fun _ => by kernel_rfl) ?_)
              refine Xg.ops_op (by kernel_rfl) (Xg.opx_pure ((Value.bool true)) rfl (fun _ => by kernel_rfl) ?_)
              refine Xg.ops_nil ?_
              refine Xg.at_true (t := true) (by kernel_rfl) rfl ?_
              refine Xg.at_seq ?_
              refine Xg.at_seq ?_
              refine Xg.at_region ?_
              refine Xg.ops_op (by kernel_rfl) (Xg.opx_pure ((iv 0)) rfl (fun _ => by kernel_rfl) ?_)
              refine Xg.ops_nil ?_
              refine Xg.at_block ?_)
            (focus
              refine Xg.at_keep [1, 0, 2, 3] (by kernel_rfl) ?_
              refine Xg.at_rounds_inv (α := (Nat) × (Nat → Value)) (fun x => ((fun jj => jj ≤ 1 + xx1) : (Nat) → Prop) x.1) (fun x => ((fun jj => 1 + xx1 - jj) : (Nat) → Nat) x.1) (fun x => Xg.headT [iv slots0, iv many0, Value.slice a m c, tu, tu, tu, J2 (6 : Nat), Value.bool true, iv ((1 : Int) + (↑xx1 : Int)), iv ((1 : Int) + (↑xx2 : Int)), pv xx3 0, pv xb1 0, iv (↑i : Int), iv (↑i2 : Int), pv xb2 0, iv (↑xx4 : Int), iv (↑xx5 : Int), iv (↑xx6 : Int), iv y, iv 0, iv 0, J2 (21 : Nat), J2 (22 : Nat), J2 (23 : Nat), Value.bool true, iv slots0, iv (↑xx1 : Int), iv ((1 : Int) + (↑xx1 : Int)), iv many0, iv (↑xx2 : Int), iv ((1 : Int) + (↑xx2 : Int)), iv ((1 : Int) + (↑xx1 : Int)), iv ((1 : Int) + (↑xx2 : Int)), pv xx3 0, Value.bool true, Value.bool false, Value.bool false, pv xx3 0, Value.bool false, Value.bool false, iv (↑i : Int), iv ((1 : Int) + (↑xx1 : Int)), Value.bool (decide ((↑i : Int) < (1 : Int) + (↑xx1 : Int))), J (43 : Nat), J (44 : Nat), J (45 : Nat), J (46 : Nat), iv (↑i2 : Int), Value.slice a m c, iv (↑m : Int), Value.bool (decide ((↑i2 : Int) < (↑m : Int))), J2 (51 : Nat), J2 (52 : Nat), Value.slice a m c, iv (↑i2 : Int), Value.pointer (some (Addr.mk (blk a) (offA a + i2 * (2 : Nat)) none)), Value.agg #[iv (xs.getD i2 default).fst, iv (xs.getD i2 default).snd], pv xb2 1, iv (xs.getD i2 default).snd, iv ((1 : Int) + (↑xx1 : Int)), iv (↑xx4 : Int), pv xb2 1, iv (xs.getD i2 default).snd, iv ((1 : Int) + (↑xx2 : Int)), iv (↑xx5 : Int), pv xb2 0, iv (xs.getD i2 default).fst, iv (↑xx6 : Int), J2 (68 : Nat), J2 (69 : Nat), J2 (70 : Nat), J2 (71 : Nat), J2 (72 : Nat), J2 (73 : Nat), J2 (74 : Nat), Value.bool (decide ((↑xx6 : Int) < (4 : Int))), iv (↑xx6 : Int), Value.bool (decide ((↑xx6 : Int) < (4 : Int))), Value.tuple #[iv y, iv 0], pv xx3 0, iv (↑xx4 : Int), Value.tuple #[iv y, iv 0], iv y, iv 0, iv 0, Value.bool true, J2 (86 : Nat), J2 (87 : Nat), J2 (88 : Nat), J2 (89 : Nat), J2 (90 : Nat), J2 (91 : Nat), J2 (92 : Nat), J2 (93 : Nat), J2 (94 : Nat), J2 (95 : Nat), J2 (96 : Nat), J2 (97 : Nat), J2 (98 : Nat), J2 (99 : Nat), J2 (100 : Nat), J2 (101 : Nat), J2 (102 : Nat), J2 (103 : Nat), J2 (104 : Nat), J2 (105 : Nat), J2 (106 : Nat), J2 (107 : Nat), J2 (108 : Nat), J2 (109 : Nat), J2 (110 : Nat), J2 (111 : Nat), J2 (112 : Nat), J2 (113 : Nat), J2 (114 : Nat), J2 (115 : Nat), J2 (116 : Nat), J2 (117 : Nat), J2 (118 : Nat), J2 (119 : Nat), J2 (120 : Nat), J2 (121 : Nat), J2 (122 : Nat), J2 (123 : Nat), J2 (124 : Nat), J2 (125 : Nat), J2 (126 : Nat), J2 (127 : Nat), J2 (128 : Nat), J2 (129 : Nat), J2 (130 : Nat), J2 (131 : Nat), J2 (132 : Nat), J2 (133 : Nat), J2 (134 : Nat), J2 (135 : Nat), J2 (136 : Nat), J2 (137 : Nat), J2 (138 : Nat), J2 (139 : Nat), J2 (140 : Nat)] [6, 86, 87, 88, 89, 90, 91, 92, 93, 94, 95] (((fun jj => [(20, .int .i64 (jj : Nat))]) : (Nat) → List (Nat × Go.Value)) x.1) x.2) (fun x => ((fun jj => [row xb2 33 [.int .i64 (xs.getD i2 default).1, .int .i64 (xs.getD i2 default).2], SchedP xx3 r2 (s.set xx4 y), row xb1 31 (ov.map (Value.int .i64)), A]) : (Nat) → List Go.Sl.HP) x.1) ((0), fun j => ([iv slots0, iv many0, Value.slice a m c, tu, tu, tu, J2 (6 : Nat), Value.bool true, iv ((1 : Int) + (↑xx1 : Int)), iv ((1 : Int) + (↑xx2 : Int)), pv xx3 0, pv xb1 0, iv (↑i : Int), iv (↑i2 : Int), pv xb2 0, iv (↑xx4 : Int), iv (↑xx5 : Int), iv (↑xx6 : Int), iv y, iv 0, iv 0, J2 (21 : Nat), J2 (22 : Nat), J2 (23 : Nat), Value.bool true, iv slots0, iv (↑xx1 : Int), iv ((1 : Int) + (↑xx1 : Int)), iv many0, iv (↑xx2 : Int), iv ((1 : Int) + (↑xx2 : Int)), iv ((1 : Int) + (↑xx1 : Int)), iv ((1 : Int) + (↑xx2 : Int)), pv xx3 0, Value.bool true, Value.bool false, Value.bool false, pv xx3 0, Value.bool false, Value.bool false, iv (↑i : Int), iv ((1 : Int) + (↑xx1 : Int)), Value.bool (decide ((↑i : Int) < (1 : Int) + (↑xx1 : Int))), J (43 : Nat), J (44 : Nat), J (45 : Nat), J (46 : Nat), iv (↑i2 : Int), Value.slice a m c, iv (↑m : Int), Value.bool (decide ((↑i2 : Int) < (↑m : Int))), J2 (51 : Nat), J2 (52 : Nat), Value.slice a m c, iv (↑i2 : Int), Value.pointer (some (Addr.mk (blk a) (offA a + i2 * (2 : Nat)) none)), Value.agg #[iv (xs.getD i2 default).fst, iv (xs.getD i2 default).snd], pv xb2 1, iv (xs.getD i2 default).snd, iv ((1 : Int) + (↑xx1 : Int)), iv (↑xx4 : Int), pv xb2 1, iv (xs.getD i2 default).snd, iv ((1 : Int) + (↑xx2 : Int)), iv (↑xx5 : Int), pv xb2 0, iv (xs.getD i2 default).fst, iv (↑xx6 : Int), J2 (68 : Nat), J2 (69 : Nat), J2 (70 : Nat), J2 (71 : Nat), J2 (72 : Nat), J2 (73 : Nat), J2 (74 : Nat), Value.bool (decide ((↑xx6 : Int) < (4 : Int))), iv (↑xx6 : Int), Value.bool (decide ((↑xx6 : Int) < (4 : Int))), Value.tuple #[iv y, iv 0], pv xx3 0, iv (↑xx4 : Int), Value.tuple #[iv y, iv 0], iv y, iv 0, iv 0, Value.bool true, J2 (86 : Nat), J2 (87 : Nat), J2 (88 : Nat), J2 (89 : Nat), J2 (90 : Nat), J2 (91 : Nat), J2 (92 : Nat), J2 (93 : Nat), J2 (94 : Nat), J2 (95 : Nat), J2 (96 : Nat), J2 (97 : Nat), J2 (98 : Nat), J2 (99 : Nat), J2 (100 : Nat), J2 (101 : Nat), J2 (102 : Nat), J2 (103 : Nat), J2 (104 : Nat), J2 (105 : Nat), J2 (106 : Nat), J2 (107 : Nat), J2 (108 : Nat), J2 (109 : Nat), J2 (110 : Nat), J2 (111 : Nat), J2 (112 : Nat), J2 (113 : Nat), J2 (114 : Nat), J2 (115 : Nat), J2 (116 : Nat), J2 (117 : Nat), J2 (118 : Nat), J2 (119 : Nat), J2 (120 : Nat), J2 (121 : Nat), J2 (122 : Nat), J2 (123 : Nat), J2 (124 : Nat), J2 (125 : Nat), J2 (126 : Nat), J2 (127 : Nat), J2 (128 : Nat), J2 (129 : Nat), J2 (130 : Nat), J2 (131 : Nat), J2 (132 : Nat), J2 (133 : Nat), J2 (134 : Nat), J2 (135 : Nat), J2 (136 : Nat), J2 (137 : Nat), J2 (138 : Nat), J2 (139 : Nat), J2 (140 : Nat)] : List Value).getD j undef) (by kernel_rfl) (by kernel_rfl) ?_ ?_)
            · exact Nat.zero_le _
            rintro ⟨jj, J3⟩ hj ih2
            dsimp only at hj
            (focus
              refine Xg.At.same (T' := [iv slots0, iv many0, Value.slice a m c, tu, tu, tu, J3 6, Value.bool true, iv ((1 : Int) + (↑xx1 : Int)), iv ((1 : Int) + (↑xx2 : Int)), pv xx3 0, pv xb1 0, iv (↑i : Int), iv (↑i2 : Int), pv xb2 0, iv (↑xx4 : Int), iv (↑xx5 : Int), iv (↑xx6 : Int), iv y, iv 0, iv (↑jj : Int), J2 (21 : Nat), J2 (22 : Nat), J2 (23 : Nat), Value.bool true, iv slots0, iv (↑xx1 : Int), iv ((1 : Int) + (↑xx1 : Int)), iv many0, iv (↑xx2 : Int), iv ((1 : Int) + (↑xx2 : Int)), iv ((1 : Int) + (↑xx1 : Int)), iv ((1 : Int) + (↑xx2 : Int)), pv xx3 0, Value.bool true, Value.bool false, Value.bool false, pv xx3 0, Value.bool false, Value.bool false, iv (↑i : Int), iv ((1 : Int) + (↑xx1 : Int)), Value.bool (decide ((↑i : Int) < (1 : Int) + (↑xx1 : Int))), J (43 : Nat), J (44 : Nat), J (45 : Nat), J (46 : Nat), iv (↑i2 : Int), Value.slice a m c, iv (↑m : Int), Value.bool (decide ((↑i2 : Int) < (↑m : Int))), J2 (51 : Nat), J2 (52 : Nat), Value.slice a m c, iv (↑i2 : Int), Value.pointer (some (Addr.mk (blk a) (offA a + i2 * (2 : Nat)) none)), Value.agg #[iv (xs.getD i2 default).fst, iv (xs.getD i2 default).snd], pv xb2 1, iv (xs.getD i2 default).snd, iv ((1 : Int) + (↑xx1 : Int)), iv (↑xx4 : Int), pv xb2 1, iv (xs.getD i2 default).snd, iv ((1 : Int) + (↑xx2 : Int)), iv (↑xx5 : Int), pv xb2 0, iv (xs.getD i2 default).fst, iv (↑xx6 : Int), J2 (68 : Nat), J2 (69 : Nat), J2 (70 : Nat), J2 (71 : Nat), J2 (72 : Nat), J2 (73 : Nat), J2 (74 : Nat), Value.bool (decide ((↑xx6 : Int) < (4 : Int))), iv (↑xx6 : Int), Value.bool (decide ((↑xx6 : Int) < (4 : Int))), Value.tuple #[iv y, iv 0], pv xx3 0, iv (↑xx4 : Int), Value.tuple #[iv y, iv 0], iv y, iv 0, iv 0, Value.bool true, J3 86, J3 87, J3 88, J3 89, J3 90, J3 91, J3 92, J3 93, J3 94, J3 95, J2 (96 : Nat), J2 (97 : Nat), J2 (98 : Nat), J2 (99 : Nat), J2 (100 : Nat), J2 (101 : Nat), J2 (102 : Nat), J2 (103 : Nat), J2 (104 : Nat), J2 (105 : Nat), J2 (106 : Nat), J2 (107 : Nat), J2 (108 : Nat), J2 (109 : Nat), J2 (110 : Nat), J2 (111 : Nat), J2 (112 : Nat), J2 (113 : Nat), J2 (114 : Nat), J2 (115 : Nat), J2 (116 : Nat), J2 (117 : Nat), J2 (118 : Nat), J2 (119 : Nat), J2 (120 : Nat), J2 (121 : Nat), J2 (122 : Nat), J2 (123 : Nat), J2 (124 : Nat), J2 (125 : Nat), J2 (126 : Nat), J2 (127 : Nat), J2 (128 : Nat), J2 (129 : Nat), J2 (130 : Nat), J2 (131 : Nat), J2 (132 : Nat), J2 (133 : Nat), J2 (134 : Nat), J2 (135 : Nat), J2 (136 : Nat), J2 (137 : Nat), J2 (138 : Nat), J2 (139 : Nat), J2 (140 : Nat)]) (L' := [row xb2 (33 : TypeId) [iv (xs.getD i2 default).fst, iv (xs.getD i2 default).snd], SchedP xx3 r2 (s.set xx4 y), row xb1 (31 : TypeId) (List.map (Value.int IntKind.i64) ov), A]) (by kernel_rfl) rfl ?_)
            by_cases hj2 : jj < 1 + xx1
            · have hne : ov.getD jj 0 ≠ y := by rw [hoeq jj hj2]; exact hq2 jj (by omega)
              (focus
                refine Xg.at_seq ?_
                refine Xg.at_seq ?_
                refine Xg.at_region ?_
                refine Xg.ops_op (by kernel_rfl) (Xg.opx_pure ((iv (↑jj : Int))) rfl (fun _ => by kernel_rfl) ?_)
                refine Xg.ops_op (by kernel_rfl) (Xg.opx_pure ((iv ((1 : Int) + (↑xx1 : Int)))) rfl (fun _ => by kernel_rfl) ?_)
                refine Xg.ops_op (by kernel_rfl) (Xg.opx_pure (.bool (decide ((((↑jj : Int)) : Int) < ((1 : Int) + (↑xx1 : Int))))) rfl (fun _ => by kernel_rfl) ?_)
                refine Xg.ops_nil ?_
                refine Xg.at_true (t := decide (((↑jj : Int) < (1 : Int) + (↑xx1 : Int)))) (by kernel_rfl) (decide_eq_true (by omega)) ?_
                refine Xg.at_skip ?_
                refine Xg.at_seq ?_
                refine Xg.at_block ?_
                refine Xg.at_seq ?_
                refine Xg.at_region ?_
                refine Xg.ops_op (by kernel_rfl) (Xg.opx_pure ((iv (↑jj : Int))) rfl (fun _ => by kernel_rfl) ?_)
                refine Xg.ops_op (by kernel_rfl) (Xg.opx_run (.pointer (some (Addr.mk xb1 jj none))) rfl (Xg.run_ix_array' (elem := 3) (len := 8) (b := xb1) (off := ((0 : Nat))) (kd := .i64) (e := ((↑jj : Int))) 1 jj jj (by kernel_rfl) (by kernel_rfl) (by kernel_rfl) (by kernel_rfl) rfl (by omega) (by omega)) ?_)
                refine Xg.ops_op (by kernel_rfl) (Xg.opx_load (b := xb1) (off := jj) 2 (iv (ov.getD jj (0 : Int))) rfl (by kernel_rfl) (Xg.get_ints (by first | omega | (simp; omega))) (by kernel_rfl) ?_)
                refine Xg.ops_op (by kernel_rfl) (Xg.opx_pure ((iv y)) rfl (fun _ => by kernel_rfl) ?_)
                refine Xg.ops_op (by kernel_rfl) (Xg.opx_pure (.bool (decide (((ov.getD jj (0 : Int)) : Int) = y))) rfl (fun _ => by kernel_rfl) ?_)
                refine Xg.ops_nil ?_
                refine Xg.at_false (t := decide ((ov.getD jj (0 : Int) = y))) (by kernel_rfl) (decide_eq_false (by omega)) ?_
                refine Xg.at_skip ?_
                refine Xg.at_inBlock ?_
                refine Xg.at_region ?_
                refine Xg.ops_op (by kernel_rfl) (Xg.opx_pure ((iv (↑jj : Int))) rfl (fun _ => by kernel_rfl) ?_)
                refine Xg.ops_op (by kernel_rfl) (Xg.opx_int .i64 (IntKind.wrap .i64 (((↑jj : Int) + (1 : Int)))) rfl (fun _ => by kernel_rfl) (Xg.wrap_i64_in (by omega)) ?_)
                refine Xg.ops_op (by kernel_rfl) (Xg.opx_pure ((iv ((↑jj : Int) + (1 : Int)))) rfl (fun _ => by kernel_rfl) ?_)
                refine Xg.ops_nil ?_
                refine Xg.at_inLoop ?_)
              (focus
                refine Xg.at_keep [0, 1, 2, 3] (by kernel_rfl) ?_
                refine Xs.same ?_ (fun J9 => ih2 (((jj + 1)), J9) ?_ ?_) (by kernel_rfl))
              · rfl
              · dsimp only; omega
              · dsimp only; omega
            · clear ih2
              (focus
                refine Xg.at_seq ?_
                refine Xg.at_seq ?_
                refine Xg.at_region ?_
                refine Xg.ops_op (by kernel_rfl) (Xg.opx_pure ((iv (↑jj : Int))) rfl (fun _ => by kernel_rfl) ?_)
                refine Xg.ops_op (by kernel_rfl) (Xg.opx_pure ((iv ((1 : Int) + (↑xx1 : Int)))) rfl (fun _ => by kernel_rfl) ?_)
                refine Xg.ops_op (by kernel_rfl) (Xg.opx_pure (.bool (decide ((((↑jj : Int)) : Int) < ((1 : Int) + (↑xx1 : Int))))) rfl (fun _ => by kernel_rfl) ?_)
                refine Xg.ops_nil ?_
                refine Xg.at_false (t := decide (((↑jj : Int) < (1 : Int) + (↑xx1 : Int)))) (by kernel_rfl) (decide_eq_false (by omega)) ?_
                refine Xg.at_exit rfl ?_
                refine Xg.at_seq ?_
                refine Xg.at_seq ?_
                refine Xg.at_region ?_
                refine Xg.ops_op (by kernel_rfl) (Xg.opx_pure ((iv (↑xx4 : Int))) rfl (fun _ => by kernel_rfl) ?_)
                refine Xg.ops_op (by kernel_rfl) (Xg.opx_run (.pointer (some (Addr.mk xb1 xx4 none))) rfl (Xg.run_ix_array' (elem := 3) (len := 8) (b := xb1) (off := ((0 : Nat))) (kd := .i64) (e := ((↑xx4 : Int))) 1 xx4 xx4 (by kernel_rfl) (by kernel_rfl) (by kernel_rfl) (by kernel_rfl) rfl (by omega) (by omega)) ?_)
                refine Xg.ops_op (by kernel_rfl) (Xg.opx_load (b := xb1) (off := xx4) 2 (iv (ov.getD xx4 (0 : Int))) rfl (by kernel_rfl) (Xg.get_ints (by first | omega | (simp; omega))) (by kernel_rfl) ?_)
                refine Xg.ops_op (by kernel_rfl) (Xg.opx_pure (.bool (decide (((ov.getD xx4 (0 : Int)) : Int) ≥ ((0 : Int))))) rfl (fun _ => by kernel_rfl) ?_)
                refine Xg.ops_op (by kernel_rfl) (Xg.opx_pure ((Value.bool (decide (ov.getD xx4 (0 : Int) ≥ (0 : Int))))) rfl (fun _ => by kernel_rfl) ?_)
                refine Xg.ops_flag (j := 100) (c := (decide (ov.getD xx4 (0 : Int) ≥ (0 : Int)))) (by kernel_rfl) (fun xh7 => absurd (of_decide_eq_true xh7) (by omega)) (fun _ => ?_)
                refine Xg.ops_op (by kernel_rfl) (Xg.opx_pure ((iv y)) rfl (fun _ => by kernel_rfl) ?_)
                refine Xg.ops_op (by kernel_rfl) (Xg.opx_pure (.bool (decide ((y : Int) < ((0 : Int))))) rfl (fun _ => by kernel_rfl) ?_)
                refine Xg.ops_flag (j := 102) (c := (decide (y < (0 : Int)))) (by kernel_rfl) (fun xh7 => absurd (of_decide_eq_true xh7) (by omega)) (fun _ => ?_)
                refine Xg.ops_op (by kernel_rfl) (Xg.opx_pure ((Value.bool false)) rfl (fun _ => by kernel_rfl) ?_)
                refine Xg.ops_op (by kernel_rfl) (Xg.opx_pure ((Value.bool false)) rfl (fun _ => by kernel_rfl) ?_)
                refine Xg.ops_op (by kernel_rfl) (Xg.opx_pure ((iv y)) rfl (fun _ => by kernel_rfl) ?_)
                refine Xg.ops_op (by kernel_rfl) (Xg.opx_pure ((iv ((1 : Int) + (↑xx2 : Int)))) rfl (fun _ => by kernel_rfl) ?_)
                refine Xg.ops_op (by kernel_rfl) (Xg.opx_pure (.bool (decide ((y : Int) ≥ ((1 : Int) + (↑xx2 : Int))))) rfl (fun _ => by kernel_rfl) ?_)
                refine Xg.ops_flag (j := 107) (c := (decide (y ≥ (1 : Int) + (↑xx2 : Int)))) (by kernel_rfl) (fun xh7 => absurd (of_decide_eq_true xh7) (by omega)) (fun _ => ?_)
                refine Xg.ops_op (by kernel_rfl) (Xg.opx_pure ((Value.bool false)) rfl (fun _ => by kernel_rfl) ?_)
                refine Xg.ops_nil ?_
                refine Xg.at_false (t := false) (by kernel_rfl) rfl ?_
                refine Xg.at_skip ?_
                refine Xg.at_region ?_
                refine Xg.ops_op (by kernel_rfl) (Xg.opx_pure ((iv (↑xx4 : Int))) rfl (fun _ => by kernel_rfl) ?_)
                refine Xg.ops_op (by kernel_rfl) (Xg.opx_pure ((iv y)) rfl (fun _ => by kernel_rfl) ?_)
                refine Xg.ops_op (by kernel_rfl) (Xg.opx_run (.pointer (some (Addr.mk xb1 xx4 none))) rfl (Xg.run_ix_array' (elem := 3) (len := 8) (b := xb1) (off := ((0 : Nat))) (kd := .i64) (e := ((↑xx4 : Int))) 1 xx4 xx4 (by kernel_rfl) (by kernel_rfl) (by kernel_rfl) (by kernel_rfl) rfl (by omega) (by omega)) ?_)
                refine Xg.ops_op (by kernel_rfl) (Xg.opx_store_row_i (b := xb1) (off := xx4) (kd := .i64) (xs := ov) (e := y) 2 (by kernel_rfl) rfl (by kernel_rfl) (by kernel_rfl) (by first | omega | (simp only [List.length_set]; omega)) ?_)
                refine Xg.ops_nil ?_
                refine Xg.at_inBlock ?_
                refine Xg.at_inBlock ?_
                refine Xg.at_region ?_
                refine Xg.ops_op (by kernel_rfl) (Xg.opx_pure ((iv (↑i2 : Int))) rfl (fun _ => by kernel_rfl) ?_)
                refine Xg.ops_op (by kernel_rfl) (Xg.opx_int .i64 (IntKind.wrap .i64 (((↑i2 : Int) + (1 : Int)))) rfl (fun _ => by kernel_rfl) (Xg.wrap_i64_in (by omega)) ?_)
                refine Xg.ops_op (by kernel_rfl) (Xg.opx_pure ((iv ((↑i2 : Int) + (1 : Int)))) rfl (fun _ => by kernel_rfl) ?_)
                refine Xg.ops_nil ?_
                refine Xg.at_inLoop ?_)
              (focus
                refine Xg.at_keep [1, 2, 3] (by kernel_rfl) ?_
                refine Xs.same ?_ (fun J9 => ih (((i2 + 1, r2, s.set xx4 y, ov.set xx4 y)), J9) ?_ ?_) (by kernel_rfl))
              · rfl
              · exact ⟨by dsimp only; omega, hO2⟩
              · dsimp only; omega
      · by_cases k6 : xx6 < 6
        · have hoat := hO.eq xx4 (by omega)
          by_cases b1 : s.getD xx4 0 < 0
          · have hb := once_e131 xx3 (r := r) xx4 b1
            have hO2 := hO.fin0 xx4 (by omega) (by omega) b1
            (focus
              refine Xg.at_region ?_
              refine Xg.ops_op (by kernel_rfl) (Xg.opx_pure ((iv (↑xx6 : Int))) rfl (fun _ => by kernel_rfl) ?_)
              refine Xg.ops_op (by kernel_rfl) (Xg.opx_pure (.bool (decide ((((↑xx6 : Int)) : Int) < ((4 : Int))))) rfl (fun _ => by kernel_rfl) ?_)
              refine Xg.ops_op (by kernel_rfl) (Xg.opx_pure ((Value.bool (decide ((↑xx6 : Int) < (4 : Int))))) rfl (fun _ => by kernel_rfl) ?_)
              refine Xg.ops_nil ?_
              refine Xg.at_false (t := decide (((↑xx6 : Int) < (4 : Int)))) (by kernel_rfl) (decide_eq_false (by omega)) ?_
              refine Xg.at_seq ?_
              refine Xg.at_region ?_
              refine Xg.ops_op (by kernel_rfl) (Xg.opx_pure ((iv (↑xx6 : Int))) rfl (fun _ => by kernel_rfl) ?_)
              refine Xg.ops_op (by kernel_rfl) (Xg.opx_pure (.bool (decide ((((↑xx6 : Int)) : Int) < ((6 : Int))))) rfl (fun _ => by kernel_rfl) ?_)
              refine Xg.ops_op (by kernel_rfl) (Xg.opx_pure ((Value.bool (decide ((↑xx6 : Int) < (6 : Int))))) rfl (fun _ => by kernel_rfl) ?_)
              refine Xg.ops_nil ?_
              refine Xg.at_true (t := decide (((↑xx6 : Int) < (6 : Int)))) (by kernel_rfl) (decide_eq_true (by omega)) ?_
              refine Xg.at_seq ?_
              refine Xg.at_region ?_
              refine Xg.ops_op (by kernel_rfl) (Xg.opx_pure ((pv xx3 0)) rfl (fun _ => by kernel_rfl) ?_)
              refine Xg.ops_op (by kernel_rfl) (Xg.opx_pure ((iv (↑xx4 : Int))) rfl (fun _ => by kernel_rfl) ?_)
              refine Xg.ops_op (by kernel_rfl) (Xg.opx_call1' [1] [SchedP xx3 r s, row xb2 (33 : Nat) [iv (xs.getD i2 default).fst, iv (xs.getD i2 default).snd], row xb1 (31 : TypeId) (List.map (Value.int IntKind.i64) ov), A] (fun _ => by kernel_rfl) (@hb ) (by kernel_rfl) (by kernel_rfl) (by kernel_rfl) ?_)
              refine Xg.ops_op (by kernel_rfl) (Xg.opx_pure ((Value.tuple #[iv 0, iv 131])) rfl (fun _ => by kernel_rfl) ?_)
              refine Xg.ops_op (by kernel_rfl) (Xg.opx_pure ((iv 0)) rfl (fun _ => by kernel_rfl) ?_)
              refine Xg.ops_op (by kernel_rfl) (Xg.opx_pure ((iv 131)) rfl (fun _ => by kernel_rfl) ?_)
              refine Xg.ops_op (by kernel_rfl) (Xg.opx_pure ((iv 0)) rfl (fun _ => by kernel_rfl) ?_)
              refine Xg.ops_op (by kernel_rfl) (Xg.opx_pure ((iv 131)) rfl (fun _ => by kernel_rfl) ?_)
              refine Xg.ops_nil ?_
              refine Xg.at_seq ?_
              refine Xg.at_seq ?_
              refine Xg.at_region ?_
              refine Xg.ops_op (by kernel_rfl) (Xg.opx_pure ((iv 131)) rfl (fun _ => by kernel_rfl) ?_)
              refine Xg.ops_op (by kernel_rfl) (Xg.opx_pure ((Value.bool false)) rfl (fun _ => by kernel_rfl) ?_)
              refine Xg.ops_op (by kernel_rfl) (Xg.opx_pure ((iv (↑xx4 : Int))) rfl (fun _ => by kernel_rfl) ?_)
              refine Xg.ops_op (by kernel_rfl) (Xg.opx_run (.pointer (some (Addr.mk xb1 xx4 none))) rfl (Xg.run_ix_array' (elem := 3) (len := 8) (b := xb1) (off := ((0 : Nat))) (kd := .i64) (e := ((↑xx4 : Int))) 1 xx4 xx4 (by kernel_rfl) (by kernel_rfl) (by kernel_rfl) (by kernel_rfl) rfl (by omega) (by omega)) ?_)
              refine Xg.ops_op (by kernel_rfl) (Xg.opx_load (b := xb1) (off := xx4) 2 (iv (ov.getD xx4 (0 : Int))) rfl (by kernel_rfl) (Xg.get_ints (by first | omega | (simp; omega))) (by kernel_rfl) ?_)
              refine Xg.ops_op (by kernel_rfl) (Xg.opx_pure (.bool (decide (((ov.getD xx4 (0 : Int)) : Int) ≥ ((0 : Int))))) rfl (fun _ => by kernel_rfl) ?_)
              refine Xg.ops_op (by kernel_rfl) (Xg.opx_eq (v := ((Value.bool !false == decide (ov.getD xx4 (0 : Int) ≥ (0 : Int))))) (.bool (decide (ov.getD xx4 (0 : Int) ≥ (0 : Int)))) rfl (fun _ => by kernel_rfl) (by generalize ((decide (ov.getD xx4 (0 : Int) ≥ (0 : Int))) : Bool) = bb; cases bb <;> rfl) ?_)
              refine Xg.ops_op (by kernel_rfl) (Xg.opx_pure ((Value.bool (decide (ov.getD xx4 (0 : Int) ≥ (0 : Int))))) rfl (fun _ => by kernel_rfl) ?_)
              refine Xg.ops_flag (j := 128) (c := (decide (ov.getD xx4 (0 : Int) ≥ (0 : Int)))) (by kernel_rfl) (fun xh7 => absurd (of_decide_eq_true xh7) (by omega)) (fun _ => ?_)
              refine Xg.ops_op (by kernel_rfl) (Xg.opx_pure ((iv 131)) rfl (fun _ => by kernel_rfl) ?_)
              refine Xg.ops_op (by kernel_rfl) (Xg.opx_pure ((Value.bool false)) rfl (fun _ => by kernel_rfl) ?_)
              refine Xg.ops_op (by kernel_rfl) (Xg.opx_pure ((Value.bool false)) rfl (fun _ => by kernel_rfl) ?_)
              refine Xg.ops_skip (by kernel_rfl) ?_
              refine Xg.ops_skip (by kernel_rfl) ?_
              refine Xg.ops_skip (by kernel_rfl) ?_
              refine Xg.ops_skip (by kernel_rfl) ?_
              refine Xg.ops_skip (by kernel_rfl) ?_
              refine Xg.ops_op (by kernel_rfl) (Xg.opx_pure ((Value.bool false)) rfl (fun _ => by kernel_rfl) ?_)
              refine Xg.ops_op (by kernel_rfl) (Xg.opx_pure ((Value.bool false)) rfl (fun _ => by kernel_rfl) ?_)
              refine Xg.ops_nil ?_
              refine Xg.at_false (t := false) (by kernel_rfl) rfl ?_
              refine Xg.at_skip ?_
              refine Xg.at_region ?_
              refine Xg.ops_op (by kernel_rfl) (Xg.opx_pure ((iv (↑xx4 : Int))) rfl (fun _ => by kernel_rfl) ?_)
              refine Xg.ops_op (by kernel_rfl) (Xg.opx_run (.pointer (some (Addr.mk xb1 xx4 none))) rfl (Xg.run_ix_array' (elem := 3) (len := 8) (b := xb1) (off := ((0 : Nat))) (kd := .i64) (e := ((↑xx4 : Int))) 1 xx4 xx4 (by kernel_rfl) (by kernel_rfl) (by kernel_rfl) (by kernel_rfl) rfl (by omega) (by omega)) ?_)
              refine Xg.ops_op (by kernel_rfl) (Xg.opx_store_row_i (b := xb1) (off := xx4) (kd := .i64) (xs := ov) (e := ((-1 : Int))) 2 (by kernel_rfl) rfl (by kernel_rfl) (by kernel_rfl) (by first | omega | (simp only [List.length_set]; omega)) ?_)
              refine Xg.ops_nil ?_
              refine Xg.at_inBlock ?_
              refine Xg.at_inBlock ?_
              refine Xg.at_region ?_
              refine Xg.ops_op (by kernel_rfl) (Xg.opx_pure ((iv (↑i2 : Int))) rfl (fun _ => by kernel_rfl) ?_)
              refine Xg.ops_op (by kernel_rfl) (Xg.opx_int .i64 (IntKind.wrap .i64 (((↑i2 : Int) + (1 : Int)))) rfl (fun _ => by kernel_rfl) (Xg.wrap_i64_in (by omega)) ?_)
              refine Xg.ops_op (by kernel_rfl) (Xg.opx_pure ((iv ((↑i2 : Int) + (1 : Int)))) rfl (fun _ => by kernel_rfl) ?_)
              refine Xg.ops_nil ?_
              refine Xg.at_inLoop ?_)
            (focus
              refine Xg.at_keep [0, 2, 3] (by kernel_rfl) ?_
              refine Xs.same ?_ (fun J9 => ih (((i2 + 1, r, s, ov.set xx4 (-1))), J9) ?_ ?_) (by kernel_rfl))
            · rfl
            · exact ⟨by dsimp only; omega, hO2⟩
            · dsimp only; omega
          · have hb := once_e0 xx3 (r := r) (s := s) xx4 (by omega) (by omega)
            have hO2 := hO.fin xx4 (by omega) (by omega)
            (focus
              refine Xg.at_region ?_
              refine Xg.ops_op (by kernel_rfl) (Xg.opx_pure ((iv (↑xx6 : Int))) rfl (fun _ => by kernel_rfl) ?_)
              refine Xg.ops_op (by kernel_rfl) (Xg.opx_pure (.bool (decide ((((↑xx6 : Int)) : Int) < ((4 : Int))))) rfl (fun _ => by kernel_rfl) ?_)
              refine Xg.ops_op (by kernel_rfl) (Xg.opx_pure ((Value.bool (decide ((↑xx6 : Int) < (4 : Int))))) rfl (fun _ => by kernel_rfl) ?_)
              refine Xg.ops_nil ?_
              refine Xg.at_false (t := decide (((↑xx6 : Int) < (4 : Int)))) (by kernel_rfl) (decide_eq_false (by omega)) ?_
              refine Xg.at_seq ?_
              refine Xg.at_region ?_
              refine Xg.ops_op (by kernel_rfl) (Xg.opx_pure ((iv (↑xx6 : Int))) rfl (fun _ => by kernel_rfl) ?_)
              refine Xg.ops_op (by kernel_rfl) (Xg.opx_pure (.bool (decide ((((↑xx6 : Int)) : Int) < ((6 : Int))))) rfl (fun _ => by kernel_rfl) ?_)
              refine Xg.ops_op (by kernel_rfl) (Xg.opx_pure ((Value.bool (decide ((↑xx6 : Int) < (6 : Int))))) rfl (fun _ => by kernel_rfl) ?_)
              refine Xg.ops_nil ?_
              refine Xg.at_true (t := decide (((↑xx6 : Int) < (6 : Int)))) (by kernel_rfl) (decide_eq_true (by omega)) ?_
              refine Xg.at_seq ?_
              refine Xg.at_region ?_
              refine Xg.ops_op (by kernel_rfl) (Xg.opx_pure ((pv xx3 0)) rfl (fun _ => by kernel_rfl) ?_)
              refine Xg.ops_op (by kernel_rfl) (Xg.opx_pure ((iv (↑xx4 : Int))) rfl (fun _ => by kernel_rfl) ?_)
              refine Xg.ops_op (by kernel_rfl) (Xg.opx_call1' [1] [SchedP xx3 r (s.set xx4 (-1 : Int)), row xb2 (33 : Nat) [iv (xs.getD i2 default).fst, iv (xs.getD i2 default).snd], row xb1 (31 : TypeId) (List.map (Value.int IntKind.i64) ov), A] (fun _ => by kernel_rfl) (@hb ) (by kernel_rfl) (by kernel_rfl) (by kernel_rfl) ?_)
              refine Xg.ops_op (by kernel_rfl) (Xg.opx_pure ((Value.tuple #[iv (s.getD xx4 (0 : Int)), iv 0])) rfl (fun _ => by kernel_rfl) ?_)
              refine Xg.ops_op (by kernel_rfl) (Xg.opx_pure ((iv (s.getD xx4 (0 : Int)))) rfl (fun _ => by kernel_rfl) ?_)
              refine Xg.ops_op (by kernel_rfl) (Xg.opx_pure ((iv 0)) rfl (fun _ => by kernel_rfl) ?_)
              refine Xg.ops_op (by kernel_rfl) (Xg.opx_pure ((iv (s.getD xx4 (0 : Int)))) rfl (fun _ => by kernel_rfl) ?_)
              refine Xg.ops_op (by kernel_rfl) (Xg.opx_pure ((iv 0)) rfl (fun _ => by kernel_rfl) ?_)
              refine Xg.ops_nil ?_
              refine Xg.at_seq ?_
              refine Xg.at_seq ?_
              refine Xg.at_region ?_
              refine Xg.ops_op (by kernel_rfl) (Xg.opx_pure ((iv 0)) rfl (fun _ => by kernel_rfl) ?_)
              refine Xg.ops_op (by kernel_rfl) (Xg.opx_pure ((Value.bool true)) rfl (fun _ => by kernel_rfl) ?_)
              refine Xg.ops_op (by kernel_rfl) (Xg.opx_pure ((iv (↑xx4 : Int))) rfl (fun _ => by kernel_rfl) ?_)
              refine Xg.ops_op (by kernel_rfl) (Xg.opx_run (.pointer (some (Addr.mk xb1 xx4 none))) rfl (Xg.run_ix_array' (elem := 3) (len := 8) (b := xb1) (off := ((0 : Nat))) (kd := .i64) (e := ((↑xx4 : Int))) 1 xx4 xx4 (by kernel_rfl) (by kernel_rfl) (by kernel_rfl) (by kernel_rfl) rfl (by omega) (by omega)) ?_)
              refine Xg.ops_op (by kernel_rfl) (Xg.opx_load (b := xb1) (off := xx4) 2 (iv (ov.getD xx4 (0 : Int))) rfl (by kernel_rfl) (Xg.get_ints (by first | omega | (simp; omega))) (by kernel_rfl) ?_)
              refine Xg.ops_op (by kernel_rfl) (Xg.opx_pure (.bool (decide (((ov.getD xx4 (0 : Int)) : Int) ≥ ((0 : Int))))) rfl (fun _ => by kernel_rfl) ?_)
              refine Xg.ops_op (by kernel_rfl) (Xg.opx_eq (v := ((Value.bool !true == decide (ov.getD xx4 (0 : Int) ≥ (0 : Int))))) (.bool (!(decide (ov.getD xx4 (0 : Int) ≥ (0 : Int))))) rfl (fun _ => by kernel_rfl) (by generalize ((decide (ov.getD xx4 (0 : Int) ≥ (0 : Int))) : Bool) = bb; cases bb <;> rfl) ?_)
              refine Xg.ops_op (by kernel_rfl) (Xg.opx_pure ((Value.bool !decide (ov.getD xx4 (0 : Int) ≥ (0 : Int)))) rfl (fun _ => by kernel_rfl) ?_)
              refine Xg.ops_flag (j := 128) (c := (!decide (ov.getD xx4 (0 : Int) ≥ (0 : Int)))) (by kernel_rfl) (fun xh7 => absurd xh7 (by rw [decide_eq_true (p := (ov.getD xx4 (0 : Int) ≥ (0 : Int))) (by omega)]; decide)) (fun _ => ?_)
              refine Xg.ops_op (by kernel_rfl) (Xg.opx_pure ((iv 0)) rfl (fun _ => by kernel_rfl) ?_)
              refine Xg.ops_op (by kernel_rfl) (Xg.opx_pure ((Value.bool true)) rfl (fun _ => by kernel_rfl) ?_)
              refine Xg.ops_op (by kernel_rfl) (Xg.opx_pure ((Value.bool true)) rfl (fun _ => by kernel_rfl) ?_)
              refine Xg.ops_op (by kernel_rfl) (Xg.opx_pure ((iv (s.getD xx4 (0 : Int)))) rfl (fun _ => by kernel_rfl) ?_)
              refine Xg.ops_op (by kernel_rfl) (Xg.opx_pure ((iv (↑xx4 : Int))) rfl (fun _ => by kernel_rfl) ?_)
              refine Xg.ops_op (by kernel_rfl) (Xg.opx_run (.pointer (some (Addr.mk xb1 xx4 none))) rfl (Xg.run_ix_array' (elem := 3) (len := 8) (b := xb1) (off := ((0 : Nat))) (kd := .i64) (e := ((↑xx4 : Int))) 1 xx4 xx4 (by kernel_rfl) (by kernel_rfl) (by kernel_rfl) (by kernel_rfl) rfl (by omega) (by omega)) ?_)
              refine Xg.ops_op (by kernel_rfl) (Xg.opx_load (b := xb1) (off := xx4) 2 (iv (ov.getD xx4 (0 : Int))) rfl (by kernel_rfl) (Xg.get_ints (by first | omega | (simp; omega))) (by kernel_rfl) ?_)
              refine Xg.ops_op (by kernel_rfl) (Xg.opx_pure (.bool (!decide (((s.getD xx4 (0 : Int)) : Int) = (ov.getD xx4 (0 : Int))))) rfl (fun _ => by kernel_rfl) ?_)
              refine Xg.ops_flag (j := 136) (c := (!decide (s.getD xx4 (0 : Int) = ov.getD xx4 (0 : Int)))) (by kernel_rfl) (fun xh7 => absurd xh7 (by rw [decide_eq_true (p := (s.getD xx4 (0 : Int) = ov.getD xx4 (0 : Int))) (by omega)]; decide)) (fun _ => ?_)
              refine Xg.ops_op (by kernel_rfl) (Xg.opx_pure ((Value.bool false)) rfl (fun _ => by kernel_rfl) ?_)
              refine Xg.ops_op (by kernel_rfl) (Xg.opx_pure ((Value.bool false)) rfl (fun _ => by kernel_rfl) ?_)
              refine Xg.ops_nil ?_
              refine Xg.at_false (t := false) (by kernel_rfl) rfl ?_
              refine Xg.at_skip ?_
              refine Xg.at_region ?_
              refine Xg.ops_op (by kernel_rfl) (Xg.opx_pure ((iv (↑xx4 : Int))) rfl (fun _ => by kernel_rfl) ?_)
              refine Xg.ops_op (by kernel_rfl) (Xg.opx_run (.pointer (some (Addr.mk xb1 xx4 none))) rfl (Xg.run_ix_array' (elem := 3) (len := 8) (b := xb1) (off := ((0 : Nat))) (kd := .i64) (e := ((↑xx4 : Int))) 1 xx4 xx4 (by kernel_rfl) (by kernel_rfl) (by kernel_rfl) (by kernel_rfl) rfl (by omega) (by omega)) ?_)
              refine Xg.ops_op (by kernel_rfl) (Xg.opx_store_row_i (b := xb1) (off := xx4) (kd := .i64) (xs := ov) (e := ((-1 : Int))) 2 (by kernel_rfl) rfl (by kernel_rfl) (by kernel_rfl) (by first | omega | (simp only [List.length_set]; omega)) ?_)
              refine Xg.ops_nil ?_
              refine Xg.at_inBlock ?_
              refine Xg.at_inBlock ?_
              refine Xg.at_region ?_
              refine Xg.ops_op (by kernel_rfl) (Xg.opx_pure ((iv (↑i2 : Int))) rfl (fun _ => by kernel_rfl) ?_)
              refine Xg.ops_op (by kernel_rfl) (Xg.opx_int .i64 (IntKind.wrap .i64 (((↑i2 : Int) + (1 : Int)))) rfl (fun _ => by kernel_rfl) (Xg.wrap_i64_in (by omega)) ?_)
              refine Xg.ops_op (by kernel_rfl) (Xg.opx_pure ((iv ((↑i2 : Int) + (1 : Int)))) rfl (fun _ => by kernel_rfl) ?_)
              refine Xg.ops_nil ?_
              refine Xg.at_inLoop ?_)
            (focus
              refine Xg.at_keep [0, 2, 3] (by kernel_rfl) ?_
              refine Xs.same ?_ (fun J9 => ih (((i2 + 1, r, s.set xx4 (-1), ov.set xx4 (-1))), J9) ?_ ?_) (by kernel_rfl))
            · rfl
            · exact ⟨by dsimp only; omega, hO2⟩
            · dsimp only; omega
        · have hb := fun b => once_r xx3 hO xx5 (by omega) b
          have hO2 := fun b => hO.rdy xx5 b (by omega)
          (focus
            refine Xg.at_region ?_
            refine Xg.ops_op (by kernel_rfl) (Xg.opx_pure ((iv (↑xx6 : Int))) rfl (fun _ => by kernel_rfl) ?_)
            refine Xg.ops_op (by kernel_rfl) (Xg.opx_pure (.bool (decide ((((↑xx6 : Int)) : Int) < ((4 : Int))))) rfl (fun _ => by kernel_rfl) ?_)
            refine Xg.ops_op (by kernel_rfl) (Xg.opx_pure ((Value.bool (decide ((↑xx6 : Int) < (4 : Int))))) rfl (fun _ => by kernel_rfl) ?_)
            refine Xg.ops_nil ?_
            refine Xg.at_false (t := decide (((↑xx6 : Int) < (4 : Int)))) (by kernel_rfl) (decide_eq_false (by omega)) ?_
            refine Xg.at_seq ?_
            refine Xg.at_region ?_
            refine Xg.ops_op (by kernel_rfl) (Xg.opx_pure ((iv (↑xx6 : Int))) rfl (fun _ => by kernel_rfl) ?_)
            refine Xg.ops_op (by kernel_rfl) (Xg.opx_pure (.bool (decide ((((↑xx6 : Int)) : Int) < ((6 : Int))))) rfl (fun _ => by kernel_rfl) ?_)
            refine Xg.ops_op (by kernel_rfl) (Xg.opx_pure ((Value.bool (decide ((↑xx6 : Int) < (6 : Int))))) rfl (fun _ => by kernel_rfl) ?_)
            refine Xg.ops_nil ?_
            refine Xg.at_false (t := decide (((↑xx6 : Int) < (6 : Int)))) (by kernel_rfl) (decide_eq_false (by omega)) ?_
            refine Xg.at_seq ?_
            refine Xg.at_region ?_
            refine Xg.ops_op (by kernel_rfl) (Xg.opx_pure ((pv xx3 0)) rfl (fun _ => by kernel_rfl) ?_)
            refine Xg.ops_op (by kernel_rfl) (Xg.opx_pure ((iv (↑xx5 : Int))) rfl (fun _ => by kernel_rfl) ?_)
            refine Xg.ops_op (by kernel_rfl) (Xg.opx_pure ((iv (↑xx6 : Int))) rfl (fun _ => by kernel_rfl) ?_)
            refine Xg.ops_op (by kernel_rfl) (Xg.opx_pure (.bool (decide ((((↑xx6 : Int)) : Int) = ((6 : Int))))) rfl (fun _ => by kernel_rfl) ?_)
            refine Xg.ops_op (by kernel_rfl) (Xg.opx_call1' [1] [SchedP xx3 (rdyR (↑xx5 : Int) (decide ((↑xx6 : Int) = (6 : Int))) r) s, row xb2 (33 : Nat) [iv (xs.getD i2 default).fst, iv (xs.getD i2 default).snd], row xb1 (31 : TypeId) (List.map (Value.int IntKind.i64) ov), A] (fun _ => by kernel_rfl) (@hb ((decide ((↑xx6 : Int) = (6 : Int))))) (by kernel_rfl) (by kernel_rfl) (by kernel_rfl) ?_)
            refine Xg.ops_op (by kernel_rfl) (Xg.opx_pure ((iv 0)) rfl (fun _ => by kernel_rfl) ?_)
            refine Xg.ops_nil ?_
            refine Xg.at_seq ?_
            refine Xg.at_region ?_
            refine Xg.ops_op (by kernel_rfl) (Xg.opx_pure ((iv 0)) rfl (fun _ => by kernel_rfl) ?_)
            refine Xg.ops_op (by kernel_rfl) (Xg.opx_pure ((Value.bool false)) rfl (fun _ => by kernel_rfl) ?_)
            refine Xg.ops_nil ?_
            refine Xg.at_false (t := false) (by kernel_rfl) rfl ?_
            refine Xg.at_skip ?_
            refine Xg.at_inBlock ?_
            refine Xg.at_inBlock ?_
            refine Xg.at_region ?_
            refine Xg.ops_op (by kernel_rfl) (Xg.opx_pure ((iv (↑i2 : Int))) rfl (fun _ => by kernel_rfl) ?_)
            refine Xg.ops_op (by kernel_rfl) (Xg.opx_int .i64 (IntKind.wrap .i64 (((↑i2 : Int) + (1 : Int)))) rfl (fun _ => by kernel_rfl) (Xg.wrap_i64_in (by omega)) ?_)
            refine Xg.ops_op (by kernel_rfl) (Xg.opx_pure ((iv ((↑i2 : Int) + (1 : Int)))) rfl (fun _ => by kernel_rfl) ?_)
            refine Xg.ops_nil ?_
            refine Xg.at_inLoop ?_)
          (focus
            refine Xg.at_keep [0, 2, 3] (by kernel_rfl) ?_
            refine Xs.same ?_ (fun J9 => ih (((i2 + 1, rdyR (xx5 : Int) (decide ((xx6 : Int) = (6 : Int))) r, s, ov)), J9) ?_ ?_) (by kernel_rfl))
          · rfl
          · exact ⟨by dsimp only; omega, hO2 _⟩
          · dsimp only; omega
    · clear ih
      (focus
        refine Xg.at_seq ?_
        refine Xg.at_seq ?_
        refine Xg.at_region ?_
        refine Xg.ops_op (by kernel_rfl) (Xg.opx_pure ((iv (↑i2 : Int))) rfl (fun _ => by kernel_rfl) ?_)
        refine Xg.ops_op (by kernel_rfl) (Xg.opx_pure ((Value.slice a m c)) rfl (fun _ => by kernel_rfl) ?_)
        refine Xg.ops_op (by kernel_rfl) (Xg.opx_pure ((iv (↑m : Int))) rfl (fun _ => by kernel_rfl) ?_)
        refine Xg.ops_op (by kernel_rfl) (Xg.opx_pure (.bool (decide ((((↑i2 : Int)) : Int) < ((↑m : Int))))) rfl (fun _ => by kernel_rfl) ?_)
        refine Xg.ops_nil ?_
        refine Xg.at_false (t := decide (((↑i2 : Int) < (↑m : Int)))) (by kernel_rfl) (decide_eq_false (by omega)) ?_
        refine Xg.at_exit rfl ?_
        refine Xg.at_seq ?_
        refine Xg.at_region ?_
        refine Xg.ops_op (by kernel_rfl) (Xg.opx_pure ((Value.bool true)) rfl (fun _ => by kernel_rfl) ?_)
        refine Xg.ops_nil ?_
        refine Xg.at_ret_ps (v := (Value.bool true)) [2] [A] Go.Proofs.Try.func4 (fun _ => by kernel_rfl) (by kernel_rfl) (by kernel_rfl) ?_
        exact ⟨by kernel_rfl, by kernel_rfl⟩)
end Go.Proofs.Ytijjficnhpokdaa
