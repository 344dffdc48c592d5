/- The ports' laws: what is sent. -/
import Derived.Test.YtncdmccdclhokaaDoorKP14
import Derived.Test.YtncdmccdclhokaaDoorKQ2
namespace Go.Proofs.YtncdmccdclhokaaDoor
open Go.Sl Go.Xg
set_option linter.unusedVariables false
set_option linter.unusedSimpArgs false
set_option maxHeartbeats 4000000
set_option maxRecDepth 100000
variable {te : TypeId}

theorem wrap_ok (x : Int) : i64ok (IntKind.wrap .i64 x) := by
  unfold i64ok
  simp only [IntKind.wrap, IntKind.bits, IntKind.signed]
  simp
  split <;> omega

theorem write_1E (p : Nat) (σ : Po) (hσ : σ.Wf) (s : Value) (v : Int) (hv : 0 ≤ v ∧ v ≤ 255) : Does Tryd.prog 15 [pt p, .int .i64 65281, .int .i64 v] [PoR p σ s, (Drv te)] (RetE (fun x : Po => x.shift = v ∧ x.Wf) (fun _ => .int .i64 0) (fun x => [PoR p x s, (Drv te)])) :=
  (write_1 p σ s v hv).mono fun _ _ ⟨e1, e2⟩ => ⟨wrI 1 σ v, ⟨rfl, wrI_wf hσ 1 hv⟩, e1, e2⟩
theorem write_129 (p : Nat) (σ : Po) (hσ : σ.Wf) (s : Value) : Does Tryd.prog 15 [pt p, .int .i64 65282, .int .i64 129] [PoR p σ s, (Drv te)] (RetE (fun x : Po => x.shift = σ.shift ∧ x.line = 129 ∧ x.transfer = 4096 ∧ x.sending = σ.shift ∧ x.Wf) (fun _ => .int .i64 0) (fun x => [PoR p x s, (Drv te)])) := by
  refine (write_2 p σ s 129 (by omega)).mono fun _ _ ⟨e1, e2⟩ => ⟨wrI 2 σ 129, ?_, e1, e2⟩
  have e : wrI 2 σ 129 = { σ with line := 129, transfer := 4096, sending := σ.shift } := by
    show (if band .u8 129 129 = 129 then ({ σ with line := band .u8 129 129, transfer := 4096, sending := σ.shift } : Po) else { σ with line := band .u8 129 129, transfer := 0, sending := 0 }) = _
    rw [show band .u8 129 129 = 129 from by decide, if_pos rfl]
  have hw := wrI_wf hσ 2 (v := 129) (by omega)
  rw [e] at hw ⊢
  exact ⟨rfl, rfl, rfl, rfl, hw⟩
theorem write_lo (p : Nat) (σ : Po) (hσ : σ.Wf) (s : Value) (v : Int) (hv : v = 0 ∨ v = 1) : Does Tryd.prog 15 [pt p, .int .i64 65282, .int .i64 v] [PoR p σ s, (Drv te)] (RetE (fun x : Po => x.transfer = 0 ∧ x.Wf) (fun _ => .int .i64 0) (fun x => [PoR p x s, (Drv te)])) := by
  refine (write_2 p σ s v (by omega)).mono fun _ _ ⟨e1, e2⟩ => ⟨wrI 2 σ v, ?_, e1, e2⟩
  have hw := wrI_wf hσ 2 (v := v) (by omega)
  refine ⟨?_, hw⟩
  show (if band .u8 v 129 = 129 then _ else _ : Po).transfer = 0
  rcases hv with rfl | rfl
  · rw [if_neg (by decide)]
  · rw [if_neg (by decide)]
theorem take_3E (p : Nat) (σ : Po) (hσ : σ.Wf) (s : Value) : Does Tryd.prog 16 [pt p, .int .i64 3] [PoR p σ s] (RetE (fun x : Po => x = { σ with requests := takeI σ.requests 3 } ∧ x.Wf) (fun _ => .int .i64 0) (fun x => [PoR p x s])) :=
  (take_d p σ s 3 (by omega)).mono fun _ _ ⟨e1, e2⟩ => ⟨_, ⟨rfl, wfT hσ 3⟩, e1, e2⟩

theorem stepA (p : Nat) (σ : Po) (h : Se σ.shift 129 4096 σ.sending 0 σ) (ad : Option Addr) (c : Nat) (xs : List Int) (hl : xs.length ≤ 256) : Does Tryd.prog 17 [pt p, .int .i64 4095] [PoS p σ ad c xs, bts ad c xs, (Drv te)]
    (RetE (fun x : Po × Option Addr × Nat => Se x.1.shift 129 1 x.1.sending 0 x.1 ∧ x.1.sending = σ.sending ∧ band .i64 x.1.requests 8 = 0 ∧ 0 ≤ x.1.requests ∧ x.1.requests ≤ 31) (fun _ => .int .i64 0) (fun x => [PoS p x.1 x.2.1 x.2.2 xs, bts x.2.1 x.2.2 xs, (Drv te)])) :=
  (step_i p σ h.wf ad c xs hl 4095 (by omega)).mono fun v ps ⟨x, ⟨h1, h2, h3⟩, h4, h5⟩ => by
    obtain ⟨σ', ad', c', xs'⟩ := x
    dsimp only at h1 h2 h3
    obtain ⟨g1, g2⟩ := Se.within (x := (σ, xs)) h 4095 (by omega)
    rw [show (4095 : Int).toNat = 4095 from rfl] at h1
    rw [← h1] at g1 g2
    dsimp only at g1 g2
    subst g2
    refine ⟨(σ', ad', c'), ⟨?_, g1.sending, g1.bit, h2.requests.1, h2.requests.2⟩, h4, h5⟩
    rw [g1.shift, g1.sending]; exact g1

theorem stepB (p : Nat) (σ : Po) (h : Se σ.shift 129 1 σ.sending 0 σ) (ad : Option Addr) (c : Nat) (xs : List Int) (hl : xs.length ≤ 256) : Does Tryd.prog 17 [pt p, .int .i64 1] [PoS p σ ad c xs, bts ad c xs, (Drv te)]
    (RetE (fun x : Po × Option Addr × Nat => x.1.shift = 255 ∧ x.1.line = 1 ∧ band .i64 x.1.requests 8 = 8 ∧ 0 ≤ x.1.requests ∧ x.1.requests ≤ 31 ∧ x.1.Wf) (fun _ => .int .i64 0) (fun x => [PoS p x.1 x.2.1 x.2.2 (endsX σ.sending xs), bts x.2.1 x.2.2 (endsX σ.sending xs), (Drv te)])) :=
  (step_i p σ h.wf ad c xs hl 1 (by omega)).mono fun v ps ⟨x, ⟨h1, h2, h3⟩, h4, h5⟩ => by
    obtain ⟨σ', ad', c', xs'⟩ := x
    dsimp only at h1 h2 h3
    obtain ⟨g1, g2⟩ := Se.ends (x := (σ, xs)) h
    rw [show (1 : Int).toNat = 1 from rfl] at h1
    rw [← h1] at g1 g2
    dsimp only at g1 g2
    subst g2
    exact ⟨(σ', ad', c'), ⟨g1.shift, g1.line, g1.bit, h2.requests.1, h2.requests.2, h2⟩, h4, h5⟩

theorem stepC (p : Nat) (σ : Po) (h : Se σ.shift 129 4096 σ.sending 0 σ) (ad : Option Addr) (c : Nat) (xs : List Int) (hl : xs.length ≤ 256) (n : Nat) (hn : n < 4096) : Does Tryd.prog 17 [pt p, .int .i64 (n : Nat)] [PoS p σ ad c xs, bts ad c xs, (Drv te)]
    (RetE (fun x : Po × Option Addr × Nat => x.1.Wf) (fun _ => .int .i64 0) (fun x => [PoS p x.1 x.2.1 x.2.2 xs, bts x.2.1 x.2.2 xs, (Drv te)])) :=
  (step_i p σ h.wf ad c xs hl n (by omega)).mono fun v ps ⟨x, ⟨h1, h2, h3⟩, h4, h5⟩ => by
    obtain ⟨σ', ad', c', xs'⟩ := x
    dsimp only at h1 h2 h3
    obtain ⟨g1, g2⟩ := Se.within (x := (σ, xs)) h n (by omega)
    rw [Int.toNat_natCast] at h1
    rw [← h1] at g2
    dsimp only at g2
    subst g2
    exact ⟨(σ', ad', c'), h2, h4, h5⟩

theorem stepD (p : Nat) (σ : Po) (hσ : σ.Wf) (h : σ.transfer = 0) (ad : Option Addr) (c : Nat) (xs : List Int) (hl : xs.length ≤ 256) : Does Tryd.prog 17 [pt p, .int .i64 5000] [PoS p σ ad c xs, bts ad c xs, (Drv te)]
    (RetE (fun x : Po × Option Addr × Nat => x.1.Wf) (fun _ => .int .i64 0) (fun x => [PoS p x.1 x.2.1 x.2.2 xs, bts x.2.1 x.2.2 xs, (Drv te)])) :=
  (step_i p σ hσ ad c xs hl 5000 (by omega)).mono fun v ps ⟨x, ⟨h1, h2, h3⟩, h4, h5⟩ => by
    obtain ⟨σ', ad', c', xs'⟩ := x
    dsimp only at h1 h2 h3
    obtain ⟨g1, g2⟩ := Se.none (x := (σ, xs)) (sh := σ.shift) (li := σ.line) (se := σ.sending) (b := band .i64 σ.requests 8) ⟨hσ, rfl, rfl, h, rfl, rfl⟩ 5000
    rw [show (5000 : Int).toNat = 5000 from rfl] at h1
    rw [← h1] at g2
    dsimp only at g2
    subst g2
    exact ⟨(σ', ad', c'), h2, h4, h5⟩

theorem read_sh (p : Nat) (σ : Po) (hσ : σ.Wf) (s : Value) : Does Tryd.prog 19 [pt p, .int .i64 65281] [PoR p σ s] (Ret (.tuple #[.int .i64 σ.shift, .int .i64 0]) [PoR p σ s]) := read_1 p σ hσ s
theorem read_li (p : Nat) (σ : Po) (hσ : σ.Wf) (h : σ.line = 1) (s : Value) : Does Tryd.prog 19 [pt p, .int .i64 65282] [PoR p σ s] (Ret (.tuple #[.int .i64 127, .int .i64 0]) [PoR p σ s]) := by
  have := read_2 p σ hσ s
  rwa [show rdI 2 σ = 127 from by show bor .u8 126 σ.line = 127; rw [h]; decide] at this

theorem drop_take_one (ts : List Int) (i : Nat) (h : i < ts.length) : List.drop i (List.take (i + 1) ts) = [ts.getD i 0] := by
  rw [List.drop_take, Nat.add_sub_cancel_left, List.drop_eq_getElem_cons h, List.take_succ_cons, List.take_zero]
  simp [List.getD, h]

set_option maxHeartbeats 0 in
theorem send_d (A : HP) (la : Option Addr) (n lc : Nat) (l : List Act) (hn : l.length = n) (hn2 : n ≤ maxLen) (hr : Reads A 3 (.slice la n lc) n (recs actC l)) (hl : ∀ i, i < n → (l.getD i default).ok)
    (ts : List Int) (hB : isB ts) (hts : ts.length ≤ maxLen) (v : Int) (hv : i64ok v) :
    Does Tryd.prog 6 [.slice la n lc, .string (St ts), .int .i64 v] [(Drv te), A] (Ret (.bool true) [(Drv te), A]) := by
  obtain ⟨σ, xs, he, hσ, hxl⟩ := made_ok l (min n 200)
  have hm := made_f (te := te) A la n lc l hn hn2 hr hl σ xs he
  clear he hr hl
  unfold maxLen at hts
  have hvv := hv
  obtain ⟨hv1, hv2⟩ := hvv
  (focus
    refine Xg.spec_of Go.Proofs.Tryd.func6 rfl Go.Proofs.Tryd.ntmps6 fun g F => ?_)
  (focus
    refine Xg.at_seq ?_
    refine Xg.at_region ?_
    refine Xg.ops_op (by kernel_rfl) (Xg.opx_pure ((Value.bool false)) rfl (fun _ => by kernel_rfl) ?_)
    refine Xg.ops_nil ?_
    refine Xg.at_seq ?_
    refine Xg.at_region ?_
    refine Xg.ops_op (by kernel_rfl) (Xg.opx_pure ((Value.slice la n lc)) rfl (fun _ => by kernel_rfl) ?_)
    refine Xg.ops_op (by kernel_rfl) (Xg.opx_callE' [0, 1] (fun xx1 => [PoS xx1.fst σ xx1.snd.fst xx1.snd.snd xs, bts xx1.snd.fst xx1.snd.snd xs, Drv te, A]) (fun _ => by kernel_rfl) (@hm ) (by kernel_rfl) (by kernel_rfl) (by kernel_rfl) fun xx1 xh1 => ?_)
    try dsimp only at xh1
    refine Xg.ops_op (by kernel_rfl) (Xg.opx_pure ((Value.pointer (some (Addr.mk xx1.fst (0 : Nat) none)))) rfl (fun _ => by kernel_rfl) ?_)
    refine Xg.ops_nil ?_
    refine Xg.at_seq ?_
    refine Xg.at_seq ?_
    refine Xg.at_region ?_
    refine Xg.ops_op (by kernel_rfl) (Xg.opx_pure ((Value.pointer (some (Addr.mk xx1.fst (0 : Nat) none)))) rfl (fun _ => by kernel_rfl) ?_)
    refine Xg.ops_op (by kernel_rfl) (Xg.opx_pure ((Value.bool false)) rfl (fun _ => by kernel_rfl) ?_)
    refine Xg.ops_nil ?_
    refine Xg.at_false (t := false) (by kernel_rfl) rfl ?_
    refine Xg.at_skip ?_
    refine Xg.at_seq ?_
    refine Xg.at_region ?_
    refine Xg.ops_op (by kernel_rfl) (Xg.opx_pure ((Value.pointer (some (Addr.mk xx1.fst (0 : Nat) none)))) rfl (fun _ => by kernel_rfl) ?_)
    refine Xg.ops_op (by kernel_rfl) (Xg.opx_callE' [0, 2] (fun xx2 => [PoR xx1.fst xx2 (Value.slice xx1.snd.fst xs.length xx1.snd.snd), Drv te, bts xx1.snd.fst xx1.snd.snd xs, A]) (fun _ => by kernel_rfl) (@Go.Proofs.YtncdmccdclhokaaDoor.write_lo (te) (xx1.fst) (σ) (by omega) ((Value.slice xx1.snd.fst xs.length xx1.snd.snd)) (((0 : Int))) (by omega)) (by kernel_rfl) (by kernel_rfl) (by kernel_rfl) fun xx2 xh2 => ?_)
    try dsimp only at xh2
    obtain ⟨xh2_0, xh2_1⟩ := xh2
    refine Xg.ops_op (by kernel_rfl) (Xg.opx_pure ((Value.int IntKind.i64 (0 : Int))) rfl (fun _ => by kernel_rfl) ?_)
    refine Xg.ops_nil ?_
    refine Xg.at_seq ?_
    refine Xg.at_region ?_
    refine Xg.ops_op (by kernel_rfl) (Xg.opx_pure ((Value.pointer (some (Addr.mk xx1.fst (0 : Nat) none)))) rfl (fun _ => by kernel_rfl) ?_)
    refine Xg.ops_op (by kernel_rfl) (Xg.opx_callE' [0, 2] (fun xx3 => [bts xx3.fst xx3.snd xs, PoS xx1.fst xx2 xx1.snd.fst xx1.snd.snd xs, bts xx1.snd.fst xx1.snd.snd xs, Drv te, A]) (fun _ => by kernel_rfl) (@Go.Proofs.YtncdmccdclhokaaDoor.sent_d (xx1.fst) (xx2) (xx1.snd.fst) (xx1.snd.snd) (xs) (by omega)) (by kernel_rfl) (by kernel_rfl) (by kernel_rfl) fun xx3 xh3 => ?_)
    try dsimp only at xh3
    refine Xg.ops_op (by kernel_rfl) (Xg.opx_pure ((Value.slice xx3.fst xs.length xx3.snd)) rfl (fun _ => by kernel_rfl) ?_)
    refine Xg.ops_nil ?_
    refine Xg.at_seq ?_
    refine Xg.at_region ?_
    refine Xg.ops_op (by kernel_rfl) (Xg.opx_pure ((Value.slice xx3.fst xs.length xx3.snd)) rfl (fun _ => by kernel_rfl) ?_)
    refine Xg.ops_op (by kernel_rfl) (Xg.opx_rd 0 (.string (Xg.St xs)) rfl (Xg.reads_own (E := ((5 : TypeId))) (sz := ((1 : Nat))) (n := xs.length) (c := xx3.snd) (a := xx3.fst) (vs := (List.map (Value.int IntKind.u8) xs))) (by kernel_rfl) (Xg.run_str_rd (e := 5) (a := xx3.fst) (n := xs.length) (c := xx3.snd) (xs := xs) (by kernel_rfl) (by kernel_rfl) (by kernel_rfl) (by kernel_rfl)) ?_)
    refine Xg.ops_op (by kernel_rfl) (Xg.opx_pure ((Value.string (St xs))) rfl (fun _ => by kernel_rfl) ?_)
    refine Xg.ops_nil ?_
    refine Xg.at_seq ?_
    refine Xg.at_seq ?_
    refine Xg.at_region ?_
    refine Xg.ops_op (by kernel_rfl) (Xg.opx_pure ((Value.int IntKind.i64 (0 : Int))) rfl (fun _ => by kernel_rfl) ?_)
    refine Xg.ops_nil ?_
    refine Xg.at_block ?_)
  (focus
    refine Xg.at_keep [1, 2, 3, 4] (by kernel_rfl) ?_
    refine Xg.at_rounds_inv (α := (Nat × Po × Option Addr × Nat × List Int × List Int) × (Nat → Value)) (fun x => ((fun x => x.1 ≤ min ts.length 20 ∧ x.2.1.Wf ∧ x.2.2.2.2.1 = last x.2.2.2.2.2 ∧ x.2.2.2.2.2.length ≤ 256 + x.1) : (Nat × Po × Option Addr × Nat × List Int × List Int) → Prop) x.1) (fun x => ((fun x => ts.length - x.1) : (Nat × Po × Option Addr × Nat × List Int × List Int) → Nat) x.1) (fun x => Xg.headT [Value.slice la n lc, Value.string (St ts), Value.int IntKind.i64 v, Value.tuple #[], Value.tuple #[], Value.tuple #[], Value.bool false, Value.pointer (some (Addr.mk xx1.fst (0 : Nat) none)), Value.int IntKind.i64 (0 : Int), Value.slice xx3.fst xs.length xx3.snd, Value.string (St xs), Value.int IntKind.i64 (0 : Int), Value.tuple #[], Value.tuple #[], Value.tuple #[], Value.tuple #[], Value.tuple #[], Value.tuple #[], Value.tuple #[], Value.tuple #[], Value.tuple #[], Value.tuple #[], Value.slice la n lc, Value.pointer (some (Addr.mk xx1.fst (0 : Nat) none)), Value.pointer (some (Addr.mk xx1.fst (0 : Nat) none)), Value.bool false, Value.pointer (some (Addr.mk xx1.fst (0 : Nat) none)), Value.int IntKind.i64 (0 : Int), Value.pointer (some (Addr.mk xx1.fst (0 : Nat) none)), Value.slice xx3.fst xs.length xx3.snd, Value.slice xx3.fst xs.length xx3.snd, Value.string (St xs), Value.tuple #[], Value.tuple #[], Value.tuple #[], Value.tuple #[], Value.tuple #[], Value.tuple #[], Value.tuple #[], Value.tuple #[], Value.tuple #[], Value.tuple #[], Value.tuple #[], Value.tuple #[], Value.tuple #[], Value.tuple #[], Value.tuple #[], Value.tuple #[], Value.tuple #[], Value.tuple #[], Value.tuple #[], Value.tuple #[], Value.tuple #[], Value.tuple #[], Value.tuple #[], Value.tuple #[], Value.tuple #[], Value.tuple #[], Value.tuple #[], Value.tuple #[], Value.tuple #[], Value.tuple #[], Value.tuple #[], Value.tuple #[], Value.tuple #[], Value.tuple #[], Value.tuple #[], Value.tuple #[], Value.tuple #[], Value.tuple #[], Value.tuple #[], Value.tuple #[], Value.tuple #[], Value.tuple #[], Value.tuple #[], Value.tuple #[], Value.tuple #[], Value.tuple #[], Value.tuple #[], Value.tuple #[], Value.tuple #[], Value.tuple #[], Value.tuple #[], Value.tuple #[], Value.tuple #[], Value.tuple #[], Value.tuple #[], Value.tuple #[], Value.tuple #[], Value.tuple #[], Value.tuple #[], Value.tuple #[], Value.tuple #[], Value.tuple #[], Value.tuple #[], Value.tuple #[], Value.tuple #[], Value.tuple #[], Value.tuple #[], Value.tuple #[], Value.tuple #[], Value.tuple #[], Value.tuple #[], Value.tuple #[], Value.tuple #[], Value.tuple #[], Value.tuple #[], Value.tuple #[], Value.tuple #[], Value.tuple #[], Value.tuple #[], Value.tuple #[], Value.tuple #[], Value.tuple #[], Value.tuple #[], Value.tuple #[], Value.tuple #[], Value.tuple #[], Value.tuple #[], Value.tuple #[], Value.tuple #[], Value.tuple #[], Value.tuple #[], Value.tuple #[], Value.tuple #[], Value.tuple #[], Value.tuple #[], Value.tuple #[], Value.tuple #[], Value.tuple #[], Value.tuple #[], Value.tuple #[], Value.tuple #[], Value.tuple #[], Value.tuple #[], Value.tuple #[], Value.tuple #[], Value.tuple #[], Value.tuple #[], Value.tuple #[], Value.tuple #[], Value.tuple #[], Value.tuple #[], Value.tuple #[], Value.tuple #[]] [6, 12, 13, 14, 15, 16, 17, 18, 19, 20, 32, 33, 34, 35, 36, 37, 38, 39, 40, 41, 42, 43, 44, 45, 46, 47, 48, 49, 50, 51, 52, 53, 54, 55, 56, 57, 58, 59, 60, 61, 62, 63, 64, 65, 66, 67, 68, 69, 70, 71, 72, 73, 74, 75, 76, 77, 78, 79, 80, 81, 82, 83, 84, 85, 86, 87, 88, 89, 90, 91, 92, 93, 94, 95, 96, 97, 98, 99, 100, 101, 102, 103, 104, 105, 106, 107, 108, 109, 110, 111, 112, 113, 114, 115, 116, 117, 118, 119, 120, 121, 122, 123, 124, 125, 126] (((fun x => [(10, .string (St x.2.2.2.2.2)), (11, .int .i64 (x.1 : Nat))]) : (Nat × Po × Option Addr × Nat × List Int × List Int) → List (Nat × Go.Value)) x.1) x.2) (fun x => ((fun x => [PoS xx1.1 x.2.1 x.2.2.1 x.2.2.2.1 x.2.2.2.2.1, bts x.2.2.1 x.2.2.2.1 x.2.2.2.2.1, (Drv te), A]) : (Nat × Po × Option Addr × Nat × List Int × List Int) → List Go.Sl.HP) x.1) (((0, xx2, xx1.2.1, xx1.2.2, xs, xs)), fun j => ([Value.slice la n lc, Value.string (St ts), Value.int IntKind.i64 v, Value.tuple #[], Value.tuple #[], Value.tuple #[], Value.bool false, Value.pointer (some (Addr.mk xx1.fst (0 : Nat) none)), Value.int IntKind.i64 (0 : Int), Value.slice xx3.fst xs.length xx3.snd, Value.string (St xs), Value.int IntKind.i64 (0 : Int), Value.tuple #[], Value.tuple #[], Value.tuple #[], Value.tuple #[], Value.tuple #[], Value.tuple #[], Value.tuple #[], Value.tuple #[], Value.tuple #[], Value.tuple #[], Value.slice la n lc, Value.pointer (some (Addr.mk xx1.fst (0 : Nat) none)), Value.pointer (some (Addr.mk xx1.fst (0 : Nat) none)), Value.bool false, Value.pointer (some (Addr.mk xx1.fst (0 : Nat) none)), Value.int IntKind.i64 (0 : Int), Value.pointer (some (Addr.mk xx1.fst (0 : Nat) none)), Value.slice xx3.fst xs.length xx3.snd, Value.slice xx3.fst xs.length xx3.snd, Value.string (St xs), Value.tuple #[], Value.tuple #[], Value.tuple #[], Value.tuple #[], Value.tuple #[], Value.tuple #[], Value.tuple #[], Value.tuple #[], Value.tuple #[], Value.tuple #[], Value.tuple #[], Value.tuple #[], Value.tuple #[], Value.tuple #[], Value.tuple #[], Value.tuple #[], Value.tuple #[], Value.tuple #[], Value.tuple #[], Value.tuple #[], Value.tuple #[], Value.tuple #[], Value.tuple #[], Value.tuple #[], Value.tuple #[], Value.tuple #[], Value.tuple #[], Value.tuple #[], Value.tuple #[], Value.tuple #[], Value.tuple #[], Value.tuple #[], Value.tuple #[], Value.tuple #[], Value.tuple #[], Value.tuple #[], Value.tuple #[], Value.tuple #[], Value.tuple #[], Value.tuple #[], Value.tuple #[], Value.tuple #[], Value.tuple #[], Value.tuple #[], Value.tuple #[], Value.tuple #[], Value.tuple #[], Value.tuple #[], Value.tuple #[], Value.tuple #[], Value.tuple #[], Value.tuple #[], Value.tuple #[], Value.tuple #[], Value.tuple #[], Value.tuple #[], Value.tuple #[], Value.tuple #[], Value.tuple #[], Value.tuple #[], Value.tuple #[], Value.tuple #[], Value.tuple #[], Value.tuple #[], Value.tuple #[], Value.tuple #[], Value.tuple #[], Value.tuple #[], Value.tuple #[], Value.tuple #[], Value.tuple #[], Value.tuple #[], Value.tuple #[], Value.tuple #[], Value.tuple #[], Value.tuple #[], Value.tuple #[], Value.tuple #[], Value.tuple #[], Value.tuple #[], Value.tuple #[], Value.tuple #[], Value.tuple #[], Value.tuple #[], Value.tuple #[], Value.tuple #[], Value.tuple #[], Value.tuple #[], Value.tuple #[], Value.tuple #[], Value.tuple #[], Value.tuple #[], Value.tuple #[], Value.tuple #[], Value.tuple #[], Value.tuple #[], Value.tuple #[], Value.tuple #[], Value.tuple #[], Value.tuple #[], Value.tuple #[], Value.tuple #[], Value.tuple #[], Value.tuple #[], Value.tuple #[], Value.tuple #[], Value.tuple #[], Value.tuple #[], Value.tuple #[], Value.tuple #[], Value.tuple #[], Value.tuple #[], Value.tuple #[]] : List Value).getD j undef) (by kernel_rfl) (by kernel_rfl) ?_ ?_)
  · exact ⟨Nat.zero_le _, xh2_1, (last_id hxl).symm, by dsimp only; omega⟩
  rintro ⟨⟨i, σ', a', c', xs', ws⟩, J⟩ ⟨hi, hw', hx', hws⟩ ih
  dsimp only at hi hw' hx' hws
  have hxl' : xs'.length ≤ 256 := hx' ▸ last_len ws
  (focus
    refine Xg.At.same (T' := [Value.slice la n lc, Value.string (St ts), Value.int IntKind.i64 v, Value.tuple #[], Value.tuple #[], Value.tuple #[], ((i, σ', a', c', xs', ws), J).snd (6 : Nat), Value.pointer (some (Addr.mk xx1.fst (0 : Nat) none)), Value.int IntKind.i64 (0 : Int), Value.slice xx3.fst xs.length xx3.snd, Value.string (St ws), Value.int IntKind.i64 (↑i : Int), ((i, σ', a', c', xs', ws), J).snd (12 : Nat), ((i, σ', a', c', xs', ws), J).snd (13 : Nat), ((i, σ', a', c', xs', ws), J).snd (14 : Nat), ((i, σ', a', c', xs', ws), J).snd (15 : Nat), ((i, σ', a', c', xs', ws), J).snd (16 : Nat), ((i, σ', a', c', xs', ws), J).snd (17 : Nat), ((i, σ', a', c', xs', ws), J).snd (18 : Nat), ((i, σ', a', c', xs', ws), J).snd (19 : Nat), ((i, σ', a', c', xs', ws), J).snd (20 : Nat), Value.tuple #[], Value.slice la n lc, Value.pointer (some (Addr.mk xx1.fst (0 : Nat) none)), Value.pointer (some (Addr.mk xx1.fst (0 : Nat) none)), Value.bool false, Value.pointer (some (Addr.mk xx1.fst (0 : Nat) none)), Value.int IntKind.i64 (0 : Int), Value.pointer (some (Addr.mk xx1.fst (0 : Nat) none)), Value.slice xx3.fst xs.length xx3.snd, Value.slice xx3.fst xs.length xx3.snd, Value.string (St xs), ((i, σ', a', c', xs', ws), J).snd (32 : Nat), ((i, σ', a', c', xs', ws), J).snd (33 : Nat), ((i, σ', a', c', xs', ws), J).snd (34 : Nat), ((i, σ', a', c', xs', ws), J).snd (35 : Nat), ((i, σ', a', c', xs', ws), J).snd (36 : Nat), ((i, σ', a', c', xs', ws), J).snd (37 : Nat), ((i, σ', a', c', xs', ws), J).snd (38 : Nat), ((i, σ', a', c', xs', ws), J).snd (39 : Nat), ((i, σ', a', c', xs', ws), J).snd (40 : Nat), ((i, σ', a', c', xs', ws), J).snd (41 : Nat), ((i, σ', a', c', xs', ws), J).snd (42 : Nat), ((i, σ', a', c', xs', ws), J).snd (43 : Nat), ((i, σ', a', c', xs', ws), J).snd (44 : Nat), ((i, σ', a', c', xs', ws), J).snd (45 : Nat), ((i, σ', a', c', xs', ws), J).snd (46 : Nat), ((i, σ', a', c', xs', ws), J).snd (47 : Nat), ((i, σ', a', c', xs', ws), J).snd (48 : Nat), ((i, σ', a', c', xs', ws), J).snd (49 : Nat), ((i, σ', a', c', xs', ws), J).snd (50 : Nat), ((i, σ', a', c', xs', ws), J).snd (51 : Nat), ((i, σ', a', c', xs', ws), J).snd (52 : Nat), ((i, σ', a', c', xs', ws), J).snd (53 : Nat), ((i, σ', a', c', xs', ws), J).snd (54 : Nat), ((i, σ', a', c', xs', ws), J).snd (55 : Nat), ((i, σ', a', c', xs', ws), J).snd (56 : Nat), ((i, σ', a', c', xs', ws), J).snd (57 : Nat), ((i, σ', a', c', xs', ws), J).snd (58 : Nat), ((i, σ', a', c', xs', ws), J).snd (59 : Nat), ((i, σ', a', c', xs', ws), J).snd (60 : Nat), ((i, σ', a', c', xs', ws), J).snd (61 : Nat), ((i, σ', a', c', xs', ws), J).snd (62 : Nat), ((i, σ', a', c', xs', ws), J).snd (63 : Nat), ((i, σ', a', c', xs', ws), J).snd (64 : Nat), ((i, σ', a', c', xs', ws), J).snd (65 : Nat), ((i, σ', a', c', xs', ws), J).snd (66 : Nat), ((i, σ', a', c', xs', ws), J).snd (67 : Nat), ((i, σ', a', c', xs', ws), J).snd (68 : Nat), ((i, σ', a', c', xs', ws), J).snd (69 : Nat), ((i, σ', a', c', xs', ws), J).snd (70 : Nat), ((i, σ', a', c', xs', ws), J).snd (71 : Nat), ((i, σ', a', c', xs', ws), J).snd (72 : Nat), ((i, σ', a', c', xs', ws), J).snd (73 : Nat), ((i, σ', a', c', xs', ws), J).snd (74 : Nat), ((i, σ', a', c', xs', ws), J).snd (75 : Nat), ((i, σ', a', c', xs', ws), J).snd (76 : Nat), ((i, σ', a', c', xs', ws), J).snd (77 : Nat), ((i, σ', a', c', xs', ws), J).snd (78 : Nat), ((i, σ', a', c', xs', ws), J).snd (79 : Nat), ((i, σ', a', c', xs', ws), J).snd (80 : Nat), ((i, σ', a', c', xs', ws), J).snd (81 : Nat), ((i, σ', a', c', xs', ws), J).snd (82 : Nat), ((i, σ', a', c', xs', ws), J).snd (83 : Nat), ((i, σ', a', c', xs', ws), J).snd (84 : Nat), ((i, σ', a', c', xs', ws), J).snd (85 : Nat), ((i, σ', a', c', xs', ws), J).snd (86 : Nat), ((i, σ', a', c', xs', ws), J).snd (87 : Nat), ((i, σ', a', c', xs', ws), J).snd (88 : Nat), ((i, σ', a', c', xs', ws), J).snd (89 : Nat), ((i, σ', a', c', xs', ws), J).snd (90 : Nat), ((i, σ', a', c', xs', ws), J).snd (91 : Nat), ((i, σ', a', c', xs', ws), J).snd (92 : Nat), ((i, σ', a', c', xs', ws), J).snd (93 : Nat), ((i, σ', a', c', xs', ws), J).snd (94 : Nat), ((i, σ', a', c', xs', ws), J).snd (95 : Nat), ((i, σ', a', c', xs', ws), J).snd (96 : Nat), ((i, σ', a', c', xs', ws), J).snd (97 : Nat), ((i, σ', a', c', xs', ws), J).snd (98 : Nat), ((i, σ', a', c', xs', ws), J).snd (99 : Nat), ((i, σ', a', c', xs', ws), J).snd (100 : Nat), ((i, σ', a', c', xs', ws), J).snd (101 : Nat), ((i, σ', a', c', xs', ws), J).snd (102 : Nat), ((i, σ', a', c', xs', ws), J).snd (103 : Nat), ((i, σ', a', c', xs', ws), J).snd (104 : Nat), ((i, σ', a', c', xs', ws), J).snd (105 : Nat), ((i, σ', a', c', xs', ws), J).snd (106 : Nat), ((i, σ', a', c', xs', ws), J).snd (107 : Nat), ((i, σ', a', c', xs', ws), J).snd (108 : Nat), ((i, σ', a', c', xs', ws), J).snd (109 : Nat), ((i, σ', a', c', xs', ws), J).snd (110 : Nat), ((i, σ', a', c', xs', ws), J).snd (111 : Nat), ((i, σ', a', c', xs', ws), J).snd (112 : Nat), ((i, σ', a', c', xs', ws), J).snd (113 : Nat), ((i, σ', a', c', xs', ws), J).snd (114 : Nat), ((i, σ', a', c', xs', ws), J).snd (115 : Nat), ((i, σ', a', c', xs', ws), J).snd (116 : Nat), ((i, σ', a', c', xs', ws), J).snd (117 : Nat), ((i, σ', a', c', xs', ws), J).snd (118 : Nat), ((i, σ', a', c', xs', ws), J).snd (119 : Nat), ((i, σ', a', c', xs', ws), J).snd (120 : Nat), ((i, σ', a', c', xs', ws), J).snd (121 : Nat), ((i, σ', a', c', xs', ws), J).snd (122 : Nat), ((i, σ', a', c', xs', ws), J).snd (123 : Nat), ((i, σ', a', c', xs', ws), J).snd (124 : Nat), ((i, σ', a', c', xs', ws), J).snd (125 : Nat), ((i, σ', a', c', xs', ws), J).snd (126 : Nat), Value.tuple #[], Value.tuple #[], Value.tuple #[], Value.tuple #[], Value.tuple #[], Value.tuple #[], Value.tuple #[], Value.tuple #[], Value.tuple #[], Value.tuple #[], Value.tuple #[], Value.tuple #[], Value.tuple #[], Value.tuple #[], Value.tuple #[], Value.tuple #[], Value.tuple #[], Value.tuple #[]]) (L' := [PoS xx1.fst ((i, σ', a', c', xs', ws), J).fst.snd.fst ((i, σ', a', c', xs', ws), J).fst.snd.snd.fst ((i, σ', a', c', xs', ws), J).fst.snd.snd.snd.fst ((i, σ', a', c', xs', ws), J).fst.snd.snd.snd.snd.fst, bts ((i, σ', a', c', xs', ws), J).fst.snd.snd.fst ((i, σ', a', c', xs', ws), J).fst.snd.snd.snd.fst ((i, σ', a', c', xs', ws), J).fst.snd.snd.snd.snd.fst, Drv te, A]) (by kernel_rfl) rfl ?_)
  by_cases hlt : i < min ts.length 20
  · obtain ⟨hlt1, hlt2⟩ : i < ts.length ∧ i < 20 := by omega
    have hb := isB_get hB hlt1
    (focus
      refine Xg.at_seq ?_
      refine Xg.at_seq ?_
      refine Xg.at_region ?_
      refine Xg.ops_op (by kernel_rfl) (Xg.opx_pure ((Value.int IntKind.i64 (↑i : Int))) rfl (fun _ => by kernel_rfl) ?_)
      refine Xg.ops_op (by kernel_rfl) (Xg.opx_pure ((Value.string (St ts))) rfl (fun _ => by kernel_rfl) ?_)
      refine Xg.ops_op (by kernel_rfl) (Xg.opx_run (.int .i64 ((List.length ts : Nat) : Int)) rfl (Xg.run_str_len (xs := ts) (by kernel_rfl) (by kernel_rfl)) ?_)
      refine Xg.ops_op (by kernel_rfl) (Xg.opx_pure (.bool (decide ((((↑i : Int)) : Int) < ((↑ts.length : Int))))) rfl (fun _ => by kernel_rfl) ?_)
      refine Xg.ops_op (by kernel_rfl) (Xg.opx_pure ((Value.bool (decide ((↑i : Int) < (↑ts.length : Int))))) rfl (fun _ => by kernel_rfl) ?_)
      refine Xg.ops_flag (j := 36) (c := (decide ((↑i : Int) < (↑ts.length : Int)))) (by kernel_rfl) (fun _ => ?_) (fun xh4 => absurd (of_decide_eq_false xh4) (by omega))
      refine Xg.ops_op (by kernel_rfl) (Xg.opx_pure ((Value.int IntKind.i64 (↑i : Int))) rfl (fun _ => by kernel_rfl) ?_)
      refine Xg.ops_op (by kernel_rfl) (Xg.opx_pure (.bool (decide ((((↑i : Int)) : Int) < ((20 : Int))))) rfl (fun _ => by kernel_rfl) ?_)
      refine Xg.ops_op (by kernel_rfl) (Xg.opx_pure ((Value.bool (decide ((↑i : Int) < (20 : Int))))) rfl (fun _ => by kernel_rfl) ?_)
      refine Xg.ops_nil ?_
      refine Xg.at_true (t := decide (((↑i : Int) < (20 : Int)))) (by kernel_rfl) (decide_eq_true (by omega)) ?_
      refine Xg.at_skip ?_
      refine Xg.at_seq ?_
      refine Xg.at_block ?_
      refine Xg.at_seq ?_
      refine Xg.at_region ?_
      refine Xg.ops_op (by kernel_rfl) (Xg.opx_pure ((Value.pointer (some (Addr.mk xx1.fst (0 : Nat) none)))) rfl (fun _ => by kernel_rfl) ?_)
      refine Xg.ops_op (by kernel_rfl) (Xg.opx_pure ((Value.string (St ts))) rfl (fun _ => by kernel_rfl) ?_)
      refine Xg.ops_op (by kernel_rfl) (Xg.opx_pure ((Value.int IntKind.i64 (↑i : Int))) rfl (fun _ => by kernel_rfl) ?_)
      refine Xg.ops_op (by kernel_rfl) (Xg.opx_run (.int .u8 (List.getD ts i 0)) rfl (Xg.run_str_ix (xs := ts) (kd := .i64) (e := ((↑i : Int))) i (by kernel_rfl) (by kernel_rfl) (by kernel_rfl) rfl (by first | omega | (simp; omega)) (by assumption)) ?_)
      refine Xg.ops_op (by kernel_rfl) (Xg.opx_int .i64 (IntKind.wrap .i64 ((ts.getD i (0 : Int)))) rfl (fun _ => by kernel_rfl) (Xg.wrap_i64_in (by omega)) ?_)
      refine Xg.ops_op (by kernel_rfl) (Xg.opx_callE' [0, 2] (fun xx4 => [PoR xx1.fst xx4 (Value.slice a' xs'.length c'), Drv te, bts a' c' xs', A]) (fun _ => by kernel_rfl) (@Go.Proofs.YtncdmccdclhokaaDoor.write_1E (te) (xx1.fst) (σ') (by omega) ((Value.slice a' xs'.length c')) ((ts.getD i (0 : Int))) (by omega)) (by kernel_rfl) (by kernel_rfl) (by kernel_rfl) fun xx4 xh4 => ?_)
      try dsimp only at xh4
      obtain ⟨xh4_0, xh4_1⟩ := xh4
      refine Xg.ops_op (by kernel_rfl) (Xg.opx_pure ((Value.int IntKind.i64 (0 : Int))) rfl (fun _ => by kernel_rfl) ?_)
      refine Xg.ops_nil ?_
      refine Xg.at_seq ?_
      refine Xg.at_region ?_
      refine Xg.ops_op (by kernel_rfl) (Xg.opx_pure ((Value.pointer (some (Addr.mk xx1.fst (0 : Nat) none)))) rfl (fun _ => by kernel_rfl) ?_)
      refine Xg.ops_op (by kernel_rfl) (Xg.opx_callE' [0, 1] (fun xx5 => [PoR xx1.fst xx5 (Value.slice a' xs'.length c'), Drv te, bts a' c' xs', A]) (fun _ => by kernel_rfl) (@Go.Proofs.YtncdmccdclhokaaDoor.write_129 (te) (xx1.fst) (xx4) (by omega) ((Value.slice a' xs'.length c'))) (by kernel_rfl) (by kernel_rfl) (by kernel_rfl) fun xx5 xh5 => ?_)
      try dsimp only at xh5
      obtain ⟨xh5_0, xh5_1, xh5_2, xh5_3, xh5_4⟩ := xh5
      refine Xg.ops_op (by kernel_rfl) (Xg.opx_pure ((Value.int IntKind.i64 (0 : Int))) rfl (fun _ => by kernel_rfl) ?_)
      refine Xg.ops_nil ?_
      refine Xg.at_seq ?_
      refine Xg.at_region ?_
      refine Xg.ops_op (by kernel_rfl) (Xg.opx_pure ((Value.pointer (some (Addr.mk xx1.fst (0 : Nat) none)))) rfl (fun _ => by kernel_rfl) ?_)
      refine Xg.ops_op (by kernel_rfl) (Xg.opx_callE' [0] (fun xx6 => [PoR xx1.fst xx6 (Value.slice a' xs'.length c'), Drv te, bts a' c' xs', A]) (fun _ => by kernel_rfl) (@Go.Proofs.YtncdmccdclhokaaDoor.take_3E (xx1.fst) (xx5) (by omega) ((Value.slice a' xs'.length c'))) (by kernel_rfl) (by kernel_rfl) (by kernel_rfl) fun xx6 xh6 => ?_)
      try dsimp only at xh6
      obtain ⟨xh6_0, xh6_1⟩ := xh6
      refine Xg.ops_op (by kernel_rfl) (Xg.opx_pure ((Value.int IntKind.i64 (0 : Int))) rfl (fun _ => by kernel_rfl) ?_)
      refine Xg.ops_nil ?_
      refine Xg.at_seq ?_
      refine Xg.at_seq ?_
      refine Xg.at_region ?_
      refine Xg.ops_op (by kernel_rfl) (Xg.opx_pure ((Value.int IntKind.i64 v)) rfl (fun _ => by kernel_rfl) ?_)
      refine Xg.ops_op (by kernel_rfl) (Xg.opx_pure ((Value.int IntKind.i64 (↑i : Int))) rfl (fun _ => by kernel_rfl) ?_)
      refine Xg.ops_op (by kernel_rfl) (Xg.opx_pure (.int .i64 (IntKind.wrap .i64 ((v + (↑i : Int))))) rfl (fun _ => by kernel_rfl) ?_))
    have hS : Se xx6.shift 129 4096 xx6.sending 0 xx6 := ⟨xh6_1, rfl, by rw [xh6_0]; exact xh5_1, by rw [xh6_0]; exact xh5_2, rfl, by rw [xh6_0]; exact take3_b3 xh5_4.requests⟩
    have hse : xx6.sending = ts.getD i 0 := by rw [xh6_0]; exact xh5_3.trans xh4_0
    clear xh6_0
    have hd1 := drop_take_one ts i hlt1
    (focus
      refine Xg.ops_op (by kernel_rfl) (Xg.opx_callE' [] (fun xx7 => [PoR xx1.fst xx6 (Value.slice a' xs'.length c'), Drv te, bts a' c' xs', A]) (fun _ => by kernel_rfl) (@Go.Proofs.YtncdmccdclhokaaDoor.pick_d ((IntKind.i64.wrap (v + (↑i : Int)))) ((nat_lit 5)) (by apply Go.Proofs.YtncdmccdclhokaaDoor.wrap_ok <;> first | assumption | omega | (constructor <;> omega)) (by first | rfl | decide | (constructor <;> omega) | (simp; done) | (simp; omega))) (by kernel_rfl) (by kernel_rfl) (by kernel_rfl) fun xx7 xh7 => ?_)
      try dsimp only at xh7
      obtain ⟨xh7_0, xh7_1⟩ := xh7
      refine Xg.ops_op (by kernel_rfl) (Xg.opx_pure (.bool (decide ((((↑xx7 : Int)) : Int) = ((0 : Int))))) rfl (fun _ => by kernel_rfl) ?_)
      refine Xg.ops_nil ?_
      refine Xg.at_dec (p := ((↑xx7 : Int) = (0 : Int))) (by kernel_rfl) (fun xh8 => ?_) (fun xh8 => ?_)
      refine Xg.at_seq ?_
      refine Xg.at_region ?_
      refine Xg.ops_op (by kernel_rfl) (Xg.opx_pure ((Value.pointer (some (Addr.mk xx1.fst (0 : Nat) none)))) rfl (fun _ => by kernel_rfl) ?_)
      refine Xg.ops_op (by kernel_rfl) (Xg.opx_pure ((Value.int IntKind.i64 v)) rfl (fun _ => by kernel_rfl) ?_)
      refine Xg.ops_op (by kernel_rfl) (Xg.opx_callE' [] (fun xx8 => [PoR xx1.fst xx6 (Value.slice a' xs'.length c'), Drv te, bts a' c' xs', A]) (fun _ => by kernel_rfl) (@Go.Proofs.YtncdmccdclhokaaDoor.pick_d (v) ((nat_lit 4096)) (by omega) (by first | rfl | decide | (constructor <;> omega) | (simp; done) | (simp; omega))) (by kernel_rfl) (by kernel_rfl) (by kernel_rfl) fun xx8 xh9 => ?_)
      try dsimp only at xh9
      obtain ⟨xh9_0, xh9_1⟩ := xh9
      refine Xg.ops_op (by kernel_rfl) (Xg.opx_callE' [0, 2, 1] (fun xx9 => [PoS xx1.fst xx9.fst xx9.snd.fst xx9.snd.snd xs', bts xx9.snd.fst xx9.snd.snd xs', Drv te, A]) (fun _ => by kernel_rfl) (@Go.Proofs.YtncdmccdclhokaaDoor.stepC (te) (xx1.fst) (xx6) (by omega) (a') (c') (xs') (by omega) (xx8) (by omega)) (by kernel_rfl) (by kernel_rfl) (by kernel_rfl) fun xx9 xh10 => ?_)
      try dsimp only at xh10
      refine Xg.ops_op (by kernel_rfl) (Xg.opx_pure ((Value.int IntKind.i64 (0 : Int))) rfl (fun _ => by kernel_rfl) ?_)
      refine Xg.ops_nil ?_
      refine Xg.at_seq ?_
      refine Xg.at_region ?_
      refine Xg.ops_op (by kernel_rfl) (Xg.opx_pure ((Value.pointer (some (Addr.mk xx1.fst (0 : Nat) none)))) rfl (fun _ => by kernel_rfl) ?_)
      refine Xg.ops_op (by kernel_rfl) (Xg.opx_callE' [0, 2] (fun xx10 => [PoR xx1.fst xx10 (Value.slice xx9.snd.fst xs'.length xx9.snd.snd), Drv te, bts xx9.snd.fst xx9.snd.snd xs', A]) (fun _ => by kernel_rfl) (@Go.Proofs.YtncdmccdclhokaaDoor.write_lo (te) (xx1.fst) (xx9.fst) (by omega) ((Value.slice xx9.snd.fst xs'.length xx9.snd.snd)) (((1 : Int))) (by omega)) (by kernel_rfl) (by kernel_rfl) (by kernel_rfl) fun xx10 xh11 => ?_)
      try dsimp only at xh11
      obtain ⟨xh11_0, xh11_1⟩ := xh11
      refine Xg.ops_op (by kernel_rfl) (Xg.opx_pure ((Value.int IntKind.i64 (0 : Int))) rfl (fun _ => by kernel_rfl) ?_)
      refine Xg.ops_nil ?_
      refine Xg.at_region ?_
      refine Xg.ops_op (by kernel_rfl) (Xg.opx_pure ((Value.pointer (some (Addr.mk xx1.fst (0 : Nat) none)))) rfl (fun _ => by kernel_rfl) ?_)
      refine Xg.ops_op (by kernel_rfl) (Xg.opx_callE' [0, 2, 1] (fun xx11 => [PoS xx1.fst xx11.fst xx11.snd.fst xx11.snd.snd xs', bts xx11.snd.fst xx11.snd.snd xs', Drv te, A]) (fun _ => by kernel_rfl) (@Go.Proofs.YtncdmccdclhokaaDoor.stepD (te) (xx1.fst) (xx10) (by omega) (by omega) (xx9.snd.fst) (xx9.snd.snd) (xs') (by omega)) (by kernel_rfl) (by kernel_rfl) (by kernel_rfl) fun xx11 xh12 => ?_)
      try dsimp only at xh12
      refine Xg.ops_op (by kernel_rfl) (Xg.opx_pure ((Value.int IntKind.i64 (0 : Int))) rfl (fun _ => by kernel_rfl) ?_)
      refine Xg.ops_nil ?_
      refine Xg.at_seq ?_
      refine Xg.at_region ?_
      refine Xg.ops_op (by kernel_rfl) (Xg.opx_pure ((Value.int IntKind.i64 (0 : Int))) rfl (fun _ => by kernel_rfl) ?_)
      refine Xg.ops_op (by kernel_rfl) (Xg.opx_pure ((Value.bool false)) rfl (fun _ => by kernel_rfl) ?_)
      refine Xg.ops_op (by kernel_rfl) (Xg.opx_pure ((Value.bool false)) rfl (fun _ => by kernel_rfl) ?_)
      refine Xg.ops_op (by kernel_rfl) (Xg.opx_pure ((Value.int IntKind.i64 (0 : Int))) rfl (fun _ => by kernel_rfl) ?_)
      refine Xg.ops_op (by kernel_rfl) (Xg.opx_pure ((Value.bool false)) rfl (fun _ => by kernel_rfl) ?_)
      refine Xg.ops_op (by kernel_rfl) (Xg.opx_pure ((Value.bool false)) rfl (fun _ => by kernel_rfl) ?_)
      refine Xg.ops_op (by kernel_rfl) (Xg.opx_pure ((Value.bool false)) rfl (fun _ => by kernel_rfl) ?_)
      refine Xg.ops_op (by kernel_rfl) (Xg.opx_pure ((Value.int IntKind.i64 (0 : Int))) rfl (fun _ => by kernel_rfl) ?_)
      refine Xg.ops_op (by kernel_rfl) (Xg.opx_pure ((Value.bool false)) rfl (fun _ => by kernel_rfl) ?_)
      refine Xg.ops_op (by kernel_rfl) (Xg.opx_pure ((Value.bool false)) rfl (fun _ => by kernel_rfl) ?_)
      refine Xg.ops_nil ?_
      refine Xg.at_false (t := false) (by kernel_rfl) rfl ?_
      refine Xg.at_skip ?_
      refine Xg.at_inBlock ?_
      refine Xg.at_region ?_
      refine Xg.ops_op (by kernel_rfl) (Xg.opx_pure ((Value.int IntKind.i64 (↑i : Int))) rfl (fun _ => by kernel_rfl) ?_)
      refine Xg.ops_op (by kernel_rfl) (Xg.opx_int .i64 (IntKind.wrap .i64 (((↑i : Int) + (1 : Int)))) rfl (fun _ => by kernel_rfl) (Xg.wrap_i64_in (by omega)) ?_)
      refine Xg.ops_op (by kernel_rfl) (Xg.opx_pure ((Value.int IntKind.i64 ((↑i : Int) + (1 : Int)))) rfl (fun _ => by kernel_rfl) ?_)
      refine Xg.ops_nil ?_
      refine Xg.at_inLoop ?_
      rotate_left
      refine Xg.at_seq ?_
      refine Xg.at_region ?_
      refine Xg.ops_op (by kernel_rfl) (Xg.opx_pure ((Value.pointer (some (Addr.mk xx1.fst (0 : Nat) none)))) rfl (fun _ => by kernel_rfl) ?_)
      refine Xg.ops_op (by kernel_rfl) (Xg.opx_callE' [0, 2, 1] (fun xx8 => [PoS xx1.fst xx8.fst xx8.snd.fst xx8.snd.snd xs', bts xx8.snd.fst xx8.snd.snd xs', Drv te, A]) (fun _ => by kernel_rfl) (@Go.Proofs.YtncdmccdclhokaaDoor.stepA (te) (xx1.fst) (xx6) (by omega) (a') (c') (xs') (by omega)) (by kernel_rfl) (by kernel_rfl) (by kernel_rfl) fun xx8 xh9 => ?_)
      try dsimp only at xh9
      obtain ⟨xh9_0, xh9_1, xh9_2, xh9_3, xh9_4⟩ := xh9
      refine Xg.ops_op (by kernel_rfl) (Xg.opx_pure ((Value.int IntKind.i64 (0 : Int))) rfl (fun _ => by kernel_rfl) ?_)
      refine Xg.ops_nil ?_
      refine Xg.at_seq ?_
      refine Xg.at_region ?_
      refine Xg.ops_op (by kernel_rfl) (Xg.opx_pure ((Value.pointer (some (Addr.mk xx1.fst (0 : Nat) none)))) rfl (fun _ => by kernel_rfl) ?_)
      refine Xg.ops_op (by kernel_rfl) (Xg.opx_call1' [0] [PoR xx1.fst xx8.fst (Value.slice xx8.snd.fst xs'.length xx8.snd.snd), bts xx8.snd.fst xx8.snd.snd xs', Drv te, A] (fun _ => by kernel_rfl) (@Go.Proofs.YtncdmccdclhokaaDoor.requests_d (xx1.fst) (xx8.fst) ((Value.slice xx8.snd.fst xs'.length xx8.snd.snd)) (by omega)) (by kernel_rfl) (by kernel_rfl) (by kernel_rfl) ?_)
      refine Xg.ops_op (by kernel_rfl) (Xg.opx_pure (.int .i64 (Xg.band .i64 (xx8.fst.requests) (((8 : Int))))) rfl (fun _ => by kernel_rfl) ?_)
      refine Xg.ops_op (by kernel_rfl) (Xg.opx_pure ((Value.int IntKind.i64 (band IntKind.i64 xx8.fst.requests (8 : Int)))) rfl (fun _ => by kernel_rfl) ?_)
      refine Xg.ops_nil ?_
      refine Xg.at_seq ?_
      refine Xg.at_region ?_
      refine Xg.ops_op (by kernel_rfl) (Xg.opx_pure ((Value.pointer (some (Addr.mk xx1.fst (0 : Nat) none)))) rfl (fun _ => by kernel_rfl) ?_)
      refine Xg.ops_op (by kernel_rfl) (Xg.opx_callE' [0, 1, 2] (fun xx9 => [PoS xx1.fst xx9.fst xx9.snd.fst xx9.snd.snd (endsX xx8.fst.sending xs'), bts xx9.snd.fst xx9.snd.snd (endsX xx8.fst.sending xs'), Drv te, A]) (fun _ => by kernel_rfl) (@Go.Proofs.YtncdmccdclhokaaDoor.stepB (te) (xx1.fst) (xx8.fst) (by omega) (xx8.snd.fst) (xx8.snd.snd) (xs') (by omega)) (by kernel_rfl) (by kernel_rfl) (by kernel_rfl) fun xx9 xh10 => ?_)
      try dsimp only at xh10
      obtain ⟨xh10_0, xh10_1, xh10_2, xh10_3, xh10_4, xh10_5⟩ := xh10
      refine Xg.ops_op (by kernel_rfl) (Xg.opx_pure ((Value.int IntKind.i64 (0 : Int))) rfl (fun _ => by kernel_rfl) ?_)
      refine Xg.ops_nil ?_
      refine Xg.at_seq ?_
      refine Xg.at_region ?_
      refine Xg.ops_op (by kernel_rfl) (Xg.opx_pure ((Value.pointer (some (Addr.mk xx1.fst (0 : Nat) none)))) rfl (fun _ => by kernel_rfl) ?_)
      refine Xg.ops_op (by kernel_rfl) (Xg.opx_call1' [0] [PoR xx1.fst xx9.fst (Value.slice xx9.snd.fst (endsX xx8.fst.sending xs').length xx9.snd.snd), bts xx9.snd.fst xx9.snd.snd (endsX xx8.fst.sending xs'), Drv te, A] (fun _ => by kernel_rfl) (@Go.Proofs.YtncdmccdclhokaaDoor.read_sh (xx1.fst) (xx9.fst) (by omega) ((Value.slice xx9.snd.fst (endsX xx8.fst.sending xs').length xx9.snd.snd))) (by kernel_rfl) (by kernel_rfl) (by kernel_rfl) ?_)
      refine Xg.ops_op (by kernel_rfl) (Xg.opx_pure ((Value.tuple #[Value.int IntKind.i64 xx9.fst.shift, Value.int IntKind.i64 (0 : Int)])) rfl (fun _ => by kernel_rfl) ?_)
      refine Xg.ops_op (by kernel_rfl) (Xg.opx_pure ((Value.int IntKind.i64 xx9.fst.shift)) rfl (fun _ => by kernel_rfl) ?_)
      refine Xg.ops_op (by kernel_rfl) (Xg.opx_pure ((Value.int IntKind.i64 (0 : Int))) rfl (fun _ => by kernel_rfl) ?_)
      refine Xg.ops_op (by kernel_rfl) (Xg.opx_pure ((Value.int IntKind.i64 xx9.fst.shift)) rfl (fun _ => by kernel_rfl) ?_)
      refine Xg.ops_op (by kernel_rfl) (Xg.opx_pure ((Value.int IntKind.i64 (0 : Int))) rfl (fun _ => by kernel_rfl) ?_)
      refine Xg.ops_nil ?_
      refine Xg.at_seq ?_
      refine Xg.at_region ?_
      refine Xg.ops_op (by kernel_rfl) (Xg.opx_pure ((Value.pointer (some (Addr.mk xx1.fst (0 : Nat) none)))) rfl (fun _ => by kernel_rfl) ?_)
      refine Xg.ops_op (by kernel_rfl) (Xg.opx_call1' [0] [PoR xx1.fst xx9.fst (Value.slice xx9.snd.fst (endsX xx8.fst.sending xs').length xx9.snd.snd), bts xx9.snd.fst xx9.snd.snd (endsX xx8.fst.sending xs'), Drv te, A] (fun _ => by kernel_rfl) (@Go.Proofs.YtncdmccdclhokaaDoor.read_li (xx1.fst) (xx9.fst) (by omega) (by omega) ((Value.slice xx9.snd.fst (endsX xx8.fst.sending xs').length xx9.snd.snd))) (by kernel_rfl) (by kernel_rfl) (by kernel_rfl) ?_)
      refine Xg.ops_op (by kernel_rfl) (Xg.opx_pure ((Value.tuple #[Value.int IntKind.i64 (127 : Int), Value.int IntKind.i64 (0 : Int)])) rfl (fun _ => by kernel_rfl) ?_)
      refine Xg.ops_op (by kernel_rfl) (Xg.opx_pure ((Value.int IntKind.i64 (127 : Int))) rfl (fun _ => by kernel_rfl) ?_)
      refine Xg.ops_op (by kernel_rfl) (Xg.opx_pure ((Value.int IntKind.i64 (0 : Int))) rfl (fun _ => by kernel_rfl) ?_)
      refine Xg.ops_op (by kernel_rfl) (Xg.opx_pure ((Value.int IntKind.i64 (127 : Int))) rfl (fun _ => by kernel_rfl) ?_)
      refine Xg.ops_op (by kernel_rfl) (Xg.opx_pure ((Value.int IntKind.i64 (0 : Int))) rfl (fun _ => by kernel_rfl) ?_)
      refine Xg.ops_nil ?_
      refine Xg.at_seq ?_
      refine Xg.at_seq ?_
      refine Xg.at_region ?_
      refine Xg.ops_op (by kernel_rfl) (Xg.opx_pure ((Value.int IntKind.i64 (band IntKind.i64 xx8.fst.requests (8 : Int)))) rfl (fun _ => by kernel_rfl) ?_)
      refine Xg.ops_op (by kernel_rfl) (Xg.opx_pure (.bool (!decide (((band IntKind.i64 xx8.fst.requests (8 : Int)) : Int) = ((0 : Int))))) rfl (fun _ => by kernel_rfl) ?_)
      refine Xg.ops_op (by kernel_rfl) (Xg.opx_pure ((Value.bool !decide (band IntKind.i64 xx8.fst.requests (8 : Int) = (0 : Int)))) rfl (fun _ => by kernel_rfl) ?_)
      refine Xg.ops_flag (j := 84) (c := (!decide (band IntKind.i64 xx8.fst.requests (8 : Int) = (0 : Int)))) (by kernel_rfl) (fun xh11 => absurd xh11 (by rw [decide_eq_true (p := (band IntKind.i64 xx8.fst.requests (8 : Int) = (0 : Int))) (by omega)]; decide)) (fun _ => ?_)
      refine Xg.ops_op (by kernel_rfl) (Xg.opx_pure ((Value.int IntKind.i64 (0 : Int))) rfl (fun _ => by kernel_rfl) ?_)
      refine Xg.ops_op (by kernel_rfl) (Xg.opx_pure ((Value.bool false)) rfl (fun _ => by kernel_rfl) ?_)
      refine Xg.ops_op (by kernel_rfl) (Xg.opx_pure ((Value.bool false)) rfl (fun _ => by kernel_rfl) ?_)
      refine Xg.ops_op (by kernel_rfl) (Xg.opx_pure ((Value.bool false)) rfl (fun _ => by kernel_rfl) ?_)
      refine Xg.ops_op (by kernel_rfl) (Xg.opx_pure ((Value.pointer (some (Addr.mk xx1.fst (0 : Nat) none)))) rfl (fun _ => by kernel_rfl) ?_)
      refine Xg.ops_op (by kernel_rfl) (Xg.opx_call1' [0] [PoR xx1.fst xx9.fst (Value.slice xx9.snd.fst (endsX xx8.fst.sending xs').length xx9.snd.snd), bts xx9.snd.fst xx9.snd.snd (endsX xx8.fst.sending xs'), Drv te, A] (fun _ => by kernel_rfl) (@Go.Proofs.YtncdmccdclhokaaDoor.requests_d (xx1.fst) (xx9.fst) ((Value.slice xx9.snd.fst (endsX xx8.fst.sending xs').length xx9.snd.snd)) (by omega)) (by kernel_rfl) (by kernel_rfl) (by kernel_rfl) ?_)
      refine Xg.ops_op (by kernel_rfl) (Xg.opx_pure (.int .i64 (Xg.band .i64 (xx9.fst.requests) (((8 : Int))))) rfl (fun _ => by kernel_rfl) ?_)
      refine Xg.ops_op (by kernel_rfl) (Xg.opx_pure (.bool (decide (((band IntKind.i64 xx9.fst.requests (8 : Int)) : Int) = ((0 : Int))))) rfl (fun _ => by kernel_rfl) ?_)
      refine Xg.ops_op (by kernel_rfl) (Xg.opx_pure ((Value.bool (decide (band IntKind.i64 xx9.fst.requests (8 : Int) = (0 : Int))))) rfl (fun _ => by kernel_rfl) ?_)
      refine Xg.ops_op (by kernel_rfl) (Xg.opx_pure ((Value.bool (decide (band IntKind.i64 xx9.fst.requests (8 : Int) = (0 : Int))))) rfl (fun _ => by kernel_rfl) ?_)
      refine Xg.ops_flag (j := 94) (c := (decide (band IntKind.i64 xx9.fst.requests (8 : Int) = (0 : Int)))) (by kernel_rfl) (fun xh11 => absurd (of_decide_eq_true xh11) (by omega)) (fun _ => ?_)
      refine Xg.ops_op (by kernel_rfl) (Xg.opx_pure ((Value.int IntKind.i64 xx9.fst.shift)) rfl (fun _ => by kernel_rfl) ?_)
      refine Xg.ops_op (by kernel_rfl) (Xg.opx_pure (.bool (!decide ((xx9.fst.shift : Int) = ((255 : Int))))) rfl (fun _ => by kernel_rfl) ?_)
      refine Xg.ops_op (by kernel_rfl) (Xg.opx_pure ((Value.bool !decide (xx9.fst.shift = (255 : Int)))) rfl (fun _ => by kernel_rfl) ?_)
      refine Xg.ops_op (by kernel_rfl) (Xg.opx_pure ((Value.bool !decide (xx9.fst.shift = (255 : Int)))) rfl (fun _ => by kernel_rfl) ?_)
      refine Xg.ops_flag (j := 98) (c := (!decide (xx9.fst.shift = (255 : Int)))) (by kernel_rfl) (fun xh11 => absurd xh11 (by rw [decide_eq_true (p := (xx9.fst.shift = (255 : Int))) (by omega)]; decide)) (fun _ => ?_)
      refine Xg.ops_op (by kernel_rfl) (Xg.opx_pure ((Value.int IntKind.i64 (0 : Int))) rfl (fun _ => by kernel_rfl) ?_)
      refine Xg.ops_op (by kernel_rfl) (Xg.opx_pure ((Value.bool false)) rfl (fun _ => by kernel_rfl) ?_)
      refine Xg.ops_op (by kernel_rfl) (Xg.opx_pure ((Value.bool false)) rfl (fun _ => by kernel_rfl) ?_)
      refine Xg.ops_op (by kernel_rfl) (Xg.opx_pure ((Value.bool false)) rfl (fun _ => by kernel_rfl) ?_)
      refine Xg.ops_op (by kernel_rfl) (Xg.opx_pure ((Value.int IntKind.i64 (127 : Int))) rfl (fun _ => by kernel_rfl) ?_)
      refine Xg.ops_op (by kernel_rfl) (Xg.opx_pure ((Value.bool false)) rfl (fun _ => by kernel_rfl) ?_)
      refine Xg.ops_op (by kernel_rfl) (Xg.opx_pure ((Value.bool false)) rfl (fun _ => by kernel_rfl) ?_)
      refine Xg.ops_op (by kernel_rfl) (Xg.opx_pure ((Value.bool false)) rfl (fun _ => by kernel_rfl) ?_)
      refine Xg.ops_op (by kernel_rfl) (Xg.opx_pure ((Value.int IntKind.i64 (0 : Int))) rfl (fun _ => by kernel_rfl) ?_)
      refine Xg.ops_op (by kernel_rfl) (Xg.opx_pure ((Value.bool false)) rfl (fun _ => by kernel_rfl) ?_)
      refine Xg.ops_op (by kernel_rfl) (Xg.opx_pure ((Value.bool false)) rfl (fun _ => by kernel_rfl) ?_)
      refine Xg.ops_nil ?_
      refine Xg.at_false (t := false) (by kernel_rfl) rfl ?_
      refine Xg.at_skip ?_
      refine Xg.at_region ?_
      refine Xg.ops_op (by kernel_rfl) (Xg.opx_pure ((Value.string (St ws))) rfl (fun _ => by kernel_rfl) ?_)
      refine Xg.ops_op (by kernel_rfl) (Xg.opx_pure ((Value.string (St ts))) rfl (fun _ => by kernel_rfl) ?_)
      refine Xg.ops_op (by kernel_rfl) (Xg.opx_pure ((Value.int IntKind.i64 (↑i : Int))) rfl (fun _ => by kernel_rfl) ?_)
      refine Xg.ops_op (by kernel_rfl) (Xg.opx_pure ((Value.int IntKind.i64 (↑i : Int))) rfl (fun _ => by kernel_rfl) ?_)
      refine Xg.ops_op (by kernel_rfl) (Xg.opx_int .i64 (IntKind.wrap .i64 (((↑i : Int) + (1 : Int)))) rfl (fun _ => by kernel_rfl) (Xg.wrap_i64_in (by omega)) ?_)
      refine Xg.ops_op (by kernel_rfl) (Xg.opx_run (.string (Xg.St (List.drop i (List.take (((↑i : Int) + (1 : Int)).toNat) ts)))) rfl (Xg.run_str_sl (xs := ts) (k1 := .i64) (k2 := .i64) (e1 := ((↑i : Int))) (e2 := ((↑i : Int) + (1 : Int))) i (((↑i : Int) + (1 : Int)).toNat) (by kernel_rfl) (by kernel_rfl) (by kernel_rfl) (by kernel_rfl) rfl (by omega) (by first | omega | (simp; done) | (simp; omega)) (by first | omega | (simp; done) | (simp; omega))) ?_)
      refine Xg.ops_op (by kernel_rfl) (Xg.opx_run (.string (Xg.St (ws ++ (List.drop i (List.take ((↑i : Int) + (1 : Int)).toNat ts))))) rfl (Xg.run_str_add (xs := ws) (ys := (List.drop i (List.take ((↑i : Int) + (1 : Int)).toNat ts))) (by kernel_rfl) (by kernel_rfl) (by first | omega | (simp; done) | (simp; omega))) ?_)
      refine Xg.ops_op (by kernel_rfl) (Xg.opx_pure ((Value.string (St (ws ++ List.drop i (List.take ((↑i : Int) + (1 : Int)).toNat ts))))) rfl (fun _ => by kernel_rfl) ?_)
      refine Xg.ops_nil ?_
      refine Xg.at_seq ?_
      refine Xg.at_region ?_
      refine Xg.ops_op (by kernel_rfl) (Xg.opx_pure ((Value.int IntKind.i64 (0 : Int))) rfl (fun _ => by kernel_rfl) ?_)
      refine Xg.ops_op (by kernel_rfl) (Xg.opx_pure ((Value.bool false)) rfl (fun _ => by kernel_rfl) ?_)
      refine Xg.ops_op (by kernel_rfl) (Xg.opx_pure ((Value.bool false)) rfl (fun _ => by kernel_rfl) ?_)
      refine Xg.ops_op (by kernel_rfl) (Xg.opx_pure ((Value.int IntKind.i64 (0 : Int))) rfl (fun _ => by kernel_rfl) ?_)
      refine Xg.ops_op (by kernel_rfl) (Xg.opx_pure ((Value.bool false)) rfl (fun _ => by kernel_rfl) ?_)
      refine Xg.ops_op (by kernel_rfl) (Xg.opx_pure ((Value.bool false)) rfl (fun _ => by kernel_rfl) ?_)
      refine Xg.ops_op (by kernel_rfl) (Xg.opx_pure ((Value.bool false)) rfl (fun _ => by kernel_rfl) ?_)
      refine Xg.ops_op (by kernel_rfl) (Xg.opx_pure ((Value.int IntKind.i64 (0 : Int))) rfl (fun _ => by kernel_rfl) ?_)
      refine Xg.ops_op (by kernel_rfl) (Xg.opx_pure ((Value.bool false)) rfl (fun _ => by kernel_rfl) ?_)
      refine Xg.ops_op (by kernel_rfl) (Xg.opx_pure ((Value.bool false)) rfl (fun _ => by kernel_rfl) ?_)
      refine Xg.ops_nil ?_
      refine Xg.at_false (t := false) (by kernel_rfl) rfl ?_
      refine Xg.at_skip ?_
      refine Xg.at_inBlock ?_
      refine Xg.at_region ?_
      refine Xg.ops_op (by kernel_rfl) (Xg.opx_pure ((Value.int IntKind.i64 (↑i : Int))) rfl (fun _ => by kernel_rfl) ?_)
      refine Xg.ops_op (by kernel_rfl) (Xg.opx_int .i64 (IntKind.wrap .i64 (((↑i : Int) + (1 : Int)))) rfl (fun _ => by kernel_rfl) (Xg.wrap_i64_in (by omega)) ?_)
      refine Xg.ops_op (by kernel_rfl) (Xg.opx_pure ((Value.int IntKind.i64 ((↑i : Int) + (1 : Int)))) rfl (fun _ => by kernel_rfl) ?_)
      refine Xg.ops_nil ?_
      refine Xg.at_inLoop ?_)
    · (focus
        refine Xg.at_keep [0, 1, 2, 3] (by kernel_rfl) ?_
        refine Xg.At.same (by kernel_rfl) ?_ (ih (((i + 1, xx9.1, xx9.2.1, xx9.2.2, endsX xx8.1.sending xs', ws ++ List.drop i (List.take ((i : Int) + 1).toNat ts))), fun j => ([Value.slice la n lc, Value.string (St ts), Value.int IntKind.i64 v, Value.tuple #[], Value.tuple #[], Value.tuple #[], ((i, σ', a', c', xs', ws), J).snd (6 : Nat), Value.pointer (some (Addr.mk xx1.fst (0 : Nat) none)), Value.int IntKind.i64 (0 : Int), Value.slice xx3.fst xs.length xx3.snd, Value.string (St (ws ++ List.drop i (List.take ((↑i : Int) + (1 : Int)).toNat ts))), Value.int IntKind.i64 ((↑i : Int) + (1 : Int)), Value.int IntKind.i64 (0 : Int), Value.int IntKind.i64 (0 : Int), Value.int IntKind.i64 (0 : Int), Value.int IntKind.i64 (band IntKind.i64 xx8.fst.requests (8 : Int)), Value.int IntKind.i64 (0 : Int), Value.int IntKind.i64 xx9.fst.shift, Value.int IntKind.i64 (0 : Int), Value.int IntKind.i64 (127 : Int), Value.int IntKind.i64 (0 : Int), Value.tuple #[], Value.slice la n lc, Value.pointer (some (Addr.mk xx1.fst (0 : Nat) none)), Value.pointer (some (Addr.mk xx1.fst (0 : Nat) none)), Value.bool false, Value.pointer (some (Addr.mk xx1.fst (0 : Nat) none)), Value.int IntKind.i64 (0 : Int), Value.pointer (some (Addr.mk xx1.fst (0 : Nat) none)), Value.slice xx3.fst xs.length xx3.snd, Value.slice xx3.fst xs.length xx3.snd, Value.string (St xs), Value.int IntKind.i64 (↑i : Int), Value.string (St ts), Value.int IntKind.i64 (↑ts.length : Int), Value.bool (decide ((↑i : Int) < (↑ts.length : Int))), Value.bool true, Value.int IntKind.i64 (↑i : Int), Value.bool (decide ((↑i : Int) < (20 : Int))), Value.bool (decide ((↑i : Int) < (20 : Int))), Value.int IntKind.i64 (↑i : Int), Value.int IntKind.i64 ((↑i : Int) + (1 : Int)), Value.pointer (some (Addr.mk xx1.fst (0 : Nat) none)), Value.string (St ts), Value.int IntKind.i64 (↑i : Int), Value.int IntKind.u8 (ts.getD i (0 : Int)), Value.int IntKind.i64 (ts.getD i (0 : Int)), Value.int IntKind.i64 (0 : Int), Value.pointer (some (Addr.mk xx1.fst (0 : Nat) none)), Value.int IntKind.i64 (0 : Int), Value.pointer (some (Addr.mk xx1.fst (0 : Nat) none)), Value.int IntKind.i64 (0 : Int), Value.int IntKind.i64 v, Value.int IntKind.i64 (↑i : Int), Value.int IntKind.i64 (IntKind.i64.wrap (v + (↑i : Int))), Value.int IntKind.i64 (↑xx7 : Int), Value.bool (decide ((↑xx7 : Int) = (0 : Int))), ((i, σ', a', c', xs', ws), J).snd (57 : Nat), ((i, σ', a', c', xs', ws), J).snd (58 : Nat), ((i, σ', a', c', xs', ws), J).snd (59 : Nat), ((i, σ', a', c', xs', ws), J).snd (60 : Nat), ((i, σ', a', c', xs', ws), J).snd (61 : Nat), ((i, σ', a', c', xs', ws), J).snd (62 : Nat), ((i, σ', a', c', xs', ws), J).snd (63 : Nat), ((i, σ', a', c', xs', ws), J).snd (64 : Nat), Value.pointer (some (Addr.mk xx1.fst (0 : Nat) none)), Value.int IntKind.i64 (0 : Int), Value.pointer (some (Addr.mk xx1.fst (0 : Nat) none)), Value.int IntKind.i64 xx8.fst.requests, Value.int IntKind.i64 (band IntKind.i64 xx8.fst.requests (8 : Int)), Value.pointer (some (Addr.mk xx1.fst (0 : Nat) none)), Value.int IntKind.i64 (0 : Int), Value.tuple #[Value.int IntKind.i64 xx9.fst.shift, Value.int IntKind.i64 (0 : Int)], Value.pointer (some (Addr.mk xx1.fst (0 : Nat) none)), Value.tuple #[Value.int IntKind.i64 xx9.fst.shift, Value.int IntKind.i64 (0 : Int)], Value.int IntKind.i64 xx9.fst.shift, Value.int IntKind.i64 (0 : Int), Value.tuple #[Value.int IntKind.i64 (127 : Int), Value.int IntKind.i64 (0 : Int)], Value.pointer (some (Addr.mk xx1.fst (0 : Nat) none)), Value.tuple #[Value.int IntKind.i64 (127 : Int), Value.int IntKind.i64 (0 : Int)], Value.int IntKind.i64 (127 : Int), Value.int IntKind.i64 (0 : Int), Value.int IntKind.i64 (band IntKind.i64 xx8.fst.requests (8 : Int)), Value.bool !decide (band IntKind.i64 xx8.fst.requests (8 : Int) = (0 : Int)), Value.bool false, Value.int IntKind.i64 (0 : Int), Value.bool false, Value.bool false, Value.bool false, Value.pointer (some (Addr.mk xx1.fst (0 : Nat) none)), Value.int IntKind.i64 xx9.fst.requests, Value.int IntKind.i64 (band IntKind.i64 xx9.fst.requests (8 : Int)), Value.bool (decide (band IntKind.i64 xx9.fst.requests (8 : Int) = (0 : Int))), Value.bool (decide (band IntKind.i64 xx9.fst.requests (8 : Int) = (0 : Int))), Value.bool false, Value.int IntKind.i64 xx9.fst.shift, Value.bool !decide (xx9.fst.shift = (255 : Int)), Value.bool !decide (xx9.fst.shift = (255 : Int)), Value.bool false, Value.int IntKind.i64 (0 : Int), Value.bool false, Value.bool false, Value.bool false, Value.int IntKind.i64 (127 : Int), Value.bool false, Value.bool false, Value.bool false, Value.int IntKind.i64 (0 : Int), Value.bool false, Value.bool false, Value.string (St ws), Value.string (St ts), Value.int IntKind.i64 (↑i : Int), Value.int IntKind.i64 (↑i : Int), Value.int IntKind.i64 ((↑i : Int) + (1 : Int)), Value.string (St (List.drop i (List.take ((↑i : Int) + (1 : Int)).toNat ts))), Value.string (St (ws ++ List.drop i (List.take ((↑i : Int) + (1 : Int)).toNat ts))), Value.int IntKind.i64 (0 : Int), Value.bool false, Value.bool false, Value.int IntKind.i64 (0 : Int), Value.bool false, Value.bool false, Value.bool false, Value.int IntKind.i64 (0 : Int), Value.bool false, Value.bool false, Value.tuple #[], Value.tuple #[], Value.tuple #[], Value.tuple #[], Value.tuple #[], Value.tuple #[], Value.tuple #[], Value.tuple #[], Value.tuple #[], Value.tuple #[], Value.tuple #[], Value.tuple #[], Value.tuple #[], Value.tuple #[], Value.tuple #[], Value.tuple #[], Value.tuple #[], Value.tuple #[]] : List Value).getD j undef) ?_ ?_))
      · rfl
      · refine ⟨by dsimp only; omega, by assumption, ?_, ?_⟩
        · dsimp only
          rw [show ((i : Int) + 1).toNat = i + 1 from by omega, hd1, hx', (show xx8.1.sending = xx6.sending by assumption), hse, ends_last]
        · dsimp only
          rw [show ((i : Int) + 1).toNat = i + 1 from by omega, hd1, List.length_append, List.length_singleton]; omega
      · dsimp only; omega
    · (focus
        refine Xg.at_keep [0, 1, 2, 3] (by kernel_rfl) ?_
        refine Xg.At.same (by kernel_rfl) ?_ (ih (((i + 1, xx11.1, xx11.2.1, xx11.2.2, xs', ws)), fun j => ([Value.slice la n lc, Value.string (St ts), Value.int IntKind.i64 v, Value.tuple #[], Value.tuple #[], Value.tuple #[], ((i, σ', a', c', xs', ws), J).snd (6 : Nat), Value.pointer (some (Addr.mk xx1.fst (0 : Nat) none)), Value.int IntKind.i64 (0 : Int), Value.slice xx3.fst xs.length xx3.snd, Value.string (St ws), Value.int IntKind.i64 ((↑i : Int) + (1 : Int)), Value.int IntKind.i64 (0 : Int), Value.int IntKind.i64 (0 : Int), Value.int IntKind.i64 (0 : Int), ((i, σ', a', c', xs', ws), J).snd (15 : Nat), ((i, σ', a', c', xs', ws), J).snd (16 : Nat), ((i, σ', a', c', xs', ws), J).snd (17 : Nat), ((i, σ', a', c', xs', ws), J).snd (18 : Nat), ((i, σ', a', c', xs', ws), J).snd (19 : Nat), ((i, σ', a', c', xs', ws), J).snd (20 : Nat), Value.tuple #[], Value.slice la n lc, Value.pointer (some (Addr.mk xx1.fst (0 : Nat) none)), Value.pointer (some (Addr.mk xx1.fst (0 : Nat) none)), Value.bool false, Value.pointer (some (Addr.mk xx1.fst (0 : Nat) none)), Value.int IntKind.i64 (0 : Int), Value.pointer (some (Addr.mk xx1.fst (0 : Nat) none)), Value.slice xx3.fst xs.length xx3.snd, Value.slice xx3.fst xs.length xx3.snd, Value.string (St xs), Value.int IntKind.i64 (↑i : Int), Value.string (St ts), Value.int IntKind.i64 (↑ts.length : Int), Value.bool (decide ((↑i : Int) < (↑ts.length : Int))), Value.bool true, Value.int IntKind.i64 (↑i : Int), Value.bool (decide ((↑i : Int) < (20 : Int))), Value.bool (decide ((↑i : Int) < (20 : Int))), Value.int IntKind.i64 (↑i : Int), Value.int IntKind.i64 ((↑i : Int) + (1 : Int)), Value.pointer (some (Addr.mk xx1.fst (0 : Nat) none)), Value.string (St ts), Value.int IntKind.i64 (↑i : Int), Value.int IntKind.u8 (ts.getD i (0 : Int)), Value.int IntKind.i64 (ts.getD i (0 : Int)), Value.int IntKind.i64 (0 : Int), Value.pointer (some (Addr.mk xx1.fst (0 : Nat) none)), Value.int IntKind.i64 (0 : Int), Value.pointer (some (Addr.mk xx1.fst (0 : Nat) none)), Value.int IntKind.i64 (0 : Int), Value.int IntKind.i64 v, Value.int IntKind.i64 (↑i : Int), Value.int IntKind.i64 (IntKind.i64.wrap (v + (↑i : Int))), Value.int IntKind.i64 (↑xx7 : Int), Value.bool (decide ((↑xx7 : Int) = (0 : Int))), Value.pointer (some (Addr.mk xx1.fst (0 : Nat) none)), Value.int IntKind.i64 v, Value.int IntKind.i64 (↑xx8 : Int), Value.int IntKind.i64 (0 : Int), Value.pointer (some (Addr.mk xx1.fst (0 : Nat) none)), Value.int IntKind.i64 (0 : Int), Value.pointer (some (Addr.mk xx1.fst (0 : Nat) none)), Value.int IntKind.i64 (0 : Int), ((i, σ', a', c', xs', ws), J).snd (65 : Nat), ((i, σ', a', c', xs', ws), J).snd (66 : Nat), ((i, σ', a', c', xs', ws), J).snd (67 : Nat), ((i, σ', a', c', xs', ws), J).snd (68 : Nat), ((i, σ', a', c', xs', ws), J).snd (69 : Nat), ((i, σ', a', c', xs', ws), J).snd (70 : Nat), ((i, σ', a', c', xs', ws), J).snd (71 : Nat), ((i, σ', a', c', xs', ws), J).snd (72 : Nat), ((i, σ', a', c', xs', ws), J).snd (73 : Nat), ((i, σ', a', c', xs', ws), J).snd (74 : Nat), ((i, σ', a', c', xs', ws), J).snd (75 : Nat), ((i, σ', a', c', xs', ws), J).snd (76 : Nat), ((i, σ', a', c', xs', ws), J).snd (77 : Nat), ((i, σ', a', c', xs', ws), J).snd (78 : Nat), ((i, σ', a', c', xs', ws), J).snd (79 : Nat), ((i, σ', a', c', xs', ws), J).snd (80 : Nat), ((i, σ', a', c', xs', ws), J).snd (81 : Nat), ((i, σ', a', c', xs', ws), J).snd (82 : Nat), ((i, σ', a', c', xs', ws), J).snd (83 : Nat), ((i, σ', a', c', xs', ws), J).snd (84 : Nat), ((i, σ', a', c', xs', ws), J).snd (85 : Nat), ((i, σ', a', c', xs', ws), J).snd (86 : Nat), ((i, σ', a', c', xs', ws), J).snd (87 : Nat), ((i, σ', a', c', xs', ws), J).snd (88 : Nat), ((i, σ', a', c', xs', ws), J).snd (89 : Nat), ((i, σ', a', c', xs', ws), J).snd (90 : Nat), ((i, σ', a', c', xs', ws), J).snd (91 : Nat), ((i, σ', a', c', xs', ws), J).snd (92 : Nat), ((i, σ', a', c', xs', ws), J).snd (93 : Nat), ((i, σ', a', c', xs', ws), J).snd (94 : Nat), ((i, σ', a', c', xs', ws), J).snd (95 : Nat), ((i, σ', a', c', xs', ws), J).snd (96 : Nat), ((i, σ', a', c', xs', ws), J).snd (97 : Nat), ((i, σ', a', c', xs', ws), J).snd (98 : Nat), ((i, σ', a', c', xs', ws), J).snd (99 : Nat), ((i, σ', a', c', xs', ws), J).snd (100 : Nat), ((i, σ', a', c', xs', ws), J).snd (101 : Nat), ((i, σ', a', c', xs', ws), J).snd (102 : Nat), ((i, σ', a', c', xs', ws), J).snd (103 : Nat), ((i, σ', a', c', xs', ws), J).snd (104 : Nat), ((i, σ', a', c', xs', ws), J).snd (105 : Nat), ((i, σ', a', c', xs', ws), J).snd (106 : Nat), ((i, σ', a', c', xs', ws), J).snd (107 : Nat), ((i, σ', a', c', xs', ws), J).snd (108 : Nat), ((i, σ', a', c', xs', ws), J).snd (109 : Nat), ((i, σ', a', c', xs', ws), J).snd (110 : Nat), ((i, σ', a', c', xs', ws), J).snd (111 : Nat), ((i, σ', a', c', xs', ws), J).snd (112 : Nat), ((i, σ', a', c', xs', ws), J).snd (113 : Nat), ((i, σ', a', c', xs', ws), J).snd (114 : Nat), ((i, σ', a', c', xs', ws), J).snd (115 : Nat), ((i, σ', a', c', xs', ws), J).snd (116 : Nat), Value.int IntKind.i64 (0 : Int), Value.bool false, Value.bool false, Value.int IntKind.i64 (0 : Int), Value.bool false, Value.bool false, Value.bool false, Value.int IntKind.i64 (0 : Int), Value.bool false, Value.bool false, Value.tuple #[], Value.tuple #[], Value.tuple #[], Value.tuple #[], Value.tuple #[], Value.tuple #[], Value.tuple #[], Value.tuple #[], Value.tuple #[], Value.tuple #[], Value.tuple #[], Value.tuple #[], Value.tuple #[], Value.tuple #[], Value.tuple #[], Value.tuple #[], Value.tuple #[], Value.tuple #[]] : List Value).getD j undef) ?_ ?_))
      · rfl
      · exact ⟨by dsimp only; omega, by assumption, hx', by dsimp only; omega⟩
      · dsimp only; omega
  · clear ih
    have hE1 : ws.length ≤ 256 → xs' = ws := fun h => by rw [hx', last_id h]
    have hE2 : (256 : Int) < ws.length → xs' = List.drop (Int.toNat ((ws.length : Int) - 256)) ws := fun h => by rw [hx']; unfold last; congr 1; omega
    by_cases h256 : (256 : Int) < ws.length
    · have hE := hE2 h256
      (focus
        refine Xg.at_seq ?_
        refine Xg.at_seq ?_
        refine Xg.at_region ?_
        refine Xg.ops_op (by kernel_rfl) (Xg.opx_pure ((Value.int IntKind.i64 (↑i : Int))) rfl (fun _ => by kernel_rfl) ?_)
        refine Xg.ops_op (by kernel_rfl) (Xg.opx_pure ((Value.string (St ts))) rfl (fun _ => by kernel_rfl) ?_)
        refine Xg.ops_op (by kernel_rfl) (Xg.opx_run (.int .i64 ((List.length ts : Nat) : Int)) rfl (Xg.run_str_len (xs := ts) (by kernel_rfl) (by kernel_rfl)) ?_)
        refine Xg.ops_op (by kernel_rfl) (Xg.opx_pure (.bool (decide ((((↑i : Int)) : Int) < ((↑ts.length : Int))))) rfl (fun _ => by kernel_rfl) ?_)
        refine Xg.ops_op (by kernel_rfl) (Xg.opx_pure ((Value.bool (decide ((↑i : Int) < (↑ts.length : Int))))) rfl (fun _ => by kernel_rfl) ?_)
        refine Xg.ops_flag (j := 36) (c := (decide ((↑i : Int) < (↑ts.length : Int)))) (by kernel_rfl) (fun xh4 => ?_) (fun xh4 => ?_)
        replace xh4 : ((↑i : Int) < (↑ts.length : Int)) := of_decide_eq_true xh4
        rotate_left
        replace xh4 : ¬ (((↑i : Int) < (↑ts.length : Int))) := of_decide_eq_false xh4
        rotate_right
        refine Xg.ops_op (by kernel_rfl) (Xg.opx_pure ((Value.int IntKind.i64 (↑i : Int))) rfl (fun _ => by kernel_rfl) ?_)
        refine Xg.ops_op (by kernel_rfl) (Xg.opx_pure (.bool (decide ((((↑i : Int)) : Int) < ((20 : Int))))) rfl (fun _ => by kernel_rfl) ?_)
        refine Xg.ops_op (by kernel_rfl) (Xg.opx_pure ((Value.bool (decide ((↑i : Int) < (20 : Int))))) rfl (fun _ => by kernel_rfl) ?_)
        refine Xg.ops_nil ?_
        refine Xg.at_false (t := decide (((↑i : Int) < (20 : Int)))) (by kernel_rfl) (decide_eq_false (by omega)) ?_
        refine Xg.at_exit rfl ?_
        refine Xg.at_seq ?_
        refine Xg.at_seq ?_
        refine Xg.at_region ?_
        refine Xg.ops_op (by kernel_rfl) (Xg.opx_pure ((Value.string (St ws))) rfl (fun _ => by kernel_rfl) ?_)
        refine Xg.ops_op (by kernel_rfl) (Xg.opx_run (.int .i64 ((List.length ws : Nat) : Int)) rfl (Xg.run_str_len (xs := ws) (by kernel_rfl) (by kernel_rfl)) ?_)
        refine Xg.ops_op (by kernel_rfl) (Xg.opx_pure (.bool (decide ((((↑ws.length : Int)) : Int) > ((256 : Int))))) rfl (fun _ => by kernel_rfl) ?_)
        refine Xg.ops_nil ?_
        refine Xg.at_true (t := decide (((↑ws.length : Int) > (256 : Int)))) (by kernel_rfl) (decide_eq_true (by omega)) ?_
        refine Xg.at_region ?_
        refine Xg.ops_op (by kernel_rfl) (Xg.opx_pure ((Value.string (St ws))) rfl (fun _ => by kernel_rfl) ?_)
        refine Xg.ops_op (by kernel_rfl) (Xg.opx_pure ((Value.string (St ws))) rfl (fun _ => by kernel_rfl) ?_)
        refine Xg.ops_op (by kernel_rfl) (Xg.opx_run (.int .i64 ((List.length ws : Nat) : Int)) rfl (Xg.run_str_len (xs := ws) (by kernel_rfl) (by kernel_rfl)) ?_)
        refine Xg.ops_op (by kernel_rfl) (Xg.opx_int .i64 (IntKind.wrap .i64 (((↑ws.length : Int) - (256 : Int)))) rfl (fun _ => by kernel_rfl) (Xg.wrap_i64_in (by omega)) ?_)
        refine Xg.ops_op (by kernel_rfl) (Xg.opx_run (.string (Xg.St (List.drop (((↑ws.length : Int) - (256 : Int)).toNat) ws))) rfl (Xg.run_str_sl_lo (xs := ws) (k1 := .i64) (e1 := ((↑ws.length : Int) - (256 : Int))) (((↑ws.length : Int) - (256 : Int)).toNat) (by kernel_rfl) (by kernel_rfl) (by kernel_rfl) (by omega) (by first | omega | (simp; done) | (simp; omega))) ?_)
        refine Xg.ops_op (by kernel_rfl) (Xg.opx_pure ((Value.string (St (List.drop ((↑ws.length : Int) - (256 : Int)).toNat ws)))) rfl (fun _ => by kernel_rfl) ?_)
        refine Xg.ops_nil ?_
        refine Xg.at_seq ?_
        refine Xg.at_region ?_
        refine Xg.ops_op (by kernel_rfl) (Xg.opx_pure ((Value.pointer (some (Addr.mk xx1.fst (0 : Nat) none)))) rfl (fun _ => by kernel_rfl) ?_)
        refine Xg.ops_op (by kernel_rfl) (Xg.opx_callE' [0, 1] (fun xx4 => [bts xx4.fst xx4.snd xs', PoS xx1.fst σ' a' c' xs', bts a' c' xs', Drv te, A]) (fun _ => by kernel_rfl) (@Go.Proofs.YtncdmccdclhokaaDoor.sent_d (xx1.fst) (σ') (a') (c') (xs') (by omega)) (by kernel_rfl) (by kernel_rfl) (by kernel_rfl) fun xx4 xh5 => ?_)
        try dsimp only at xh5
        refine Xg.ops_op (by kernel_rfl) (Xg.opx_pure ((Value.slice xx4.fst xs'.length xx4.snd)) rfl (fun _ => by kernel_rfl) ?_)
        refine Xg.ops_nil ?_
        refine Xg.at_seq ?_
        refine Xg.at_region ?_
        refine Xg.ops_op (by kernel_rfl) (Xg.opx_pure ((Value.int IntKind.i64 (0 : Int))) rfl (fun _ => by kernel_rfl) ?_)
        refine Xg.ops_op (by kernel_rfl) (Xg.opx_pure ((Value.bool true)) rfl (fun _ => by kernel_rfl) ?_)
        refine Xg.ops_op (by kernel_rfl) (Xg.opx_pure ((Value.bool true)) rfl (fun _ => by kernel_rfl) ?_)
        refine Xg.ops_op (by kernel_rfl) (Xg.opx_pure ((Value.slice xx4.fst xs'.length xx4.snd)) rfl (fun _ => by kernel_rfl) ?_)
        refine Xg.ops_op (by kernel_rfl) (Xg.opx_rd 0 (.string (Xg.St xs')) rfl (Xg.reads_own (E := ((5 : TypeId))) (sz := ((1 : Nat))) (n := xs'.length) (c := xx4.snd) (a := xx4.fst) (vs := (List.map (Value.int IntKind.u8) xs'))) (by kernel_rfl) (Xg.run_str_rd (e := 5) (a := xx4.fst) (n := xs'.length) (c := xx4.snd) (xs := xs') (by kernel_rfl) (by kernel_rfl) (by kernel_rfl) (by kernel_rfl)) ?_)
        refine Xg.ops_op (by kernel_rfl) (Xg.opx_pure ((Value.string (St (List.drop ((↑ws.length : Int) - (256 : Int)).toNat ws)))) rfl (fun _ => by kernel_rfl) ?_)
        refine Xg.ops_op (by kernel_rfl) (Xg.opx_run (.bool true) rfl (Xg.run_str_same (xs := xs') (ys := (List.drop ((↑ws.length : Int) - (256 : Int)).toNat ws)) (by kernel_rfl) (by kernel_rfl) (by kernel_rfl) (by assumption)) ?_)
        refine Xg.ops_op (by kernel_rfl) (Xg.opx_pure ((Value.bool true)) rfl (fun _ => by kernel_rfl) ?_)
        refine Xg.ops_op (by kernel_rfl) (Xg.opx_pure ((Value.bool true)) rfl (fun _ => by kernel_rfl) ?_)
        refine Xg.ops_nil ?_
        refine Xg.at_ret_ps (v := (Value.bool true)) [3, 4] [Drv te, A] Go.Proofs.Tryd.func6 (fun _ => by kernel_rfl) (by kernel_rfl) (by kernel_rfl) ?_
        exact ⟨by kernel_rfl, by kernel_rfl⟩
        refine Xg.ops_skip (by kernel_rfl) ?_
        refine Xg.ops_skip (by kernel_rfl) ?_
        refine Xg.ops_op (by kernel_rfl) (Xg.opx_pure ((Value.bool false)) rfl (fun _ => by kernel_rfl) ?_)
        refine Xg.ops_nil ?_
        refine Xg.at_false (t := false) (by kernel_rfl) rfl ?_
        refine Xg.at_exit rfl ?_
        refine Xg.at_seq ?_
        refine Xg.at_seq ?_
        refine Xg.at_region ?_
        refine Xg.ops_op (by kernel_rfl) (Xg.opx_pure ((Value.string (St ws))) rfl (fun _ => by kernel_rfl) ?_)
        refine Xg.ops_op (by kernel_rfl) (Xg.opx_run (.int .i64 ((List.length ws : Nat) : Int)) rfl (Xg.run_str_len (xs := ws) (by kernel_rfl) (by kernel_rfl)) ?_)
        refine Xg.ops_op (by kernel_rfl) (Xg.opx_pure (.bool (decide ((((↑ws.length : Int)) : Int) > ((256 : Int))))) rfl (fun _ => by kernel_rfl) ?_)
        refine Xg.ops_nil ?_
        refine Xg.at_true (t := decide (((↑ws.length : Int) > (256 : Int)))) (by kernel_rfl) (decide_eq_true (by omega)) ?_
        refine Xg.at_region ?_
        refine Xg.ops_op (by kernel_rfl) (Xg.opx_pure ((Value.string (St ws))) rfl (fun _ => by kernel_rfl) ?_)
        refine Xg.ops_op (by kernel_rfl) (Xg.opx_pure ((Value.string (St ws))) rfl (fun _ => by kernel_rfl) ?_)
        refine Xg.ops_op (by kernel_rfl) (Xg.opx_run (.int .i64 ((List.length ws : Nat) : Int)) rfl (Xg.run_str_len (xs := ws) (by kernel_rfl) (by kernel_rfl)) ?_)
        refine Xg.ops_op (by kernel_rfl) (Xg.opx_int .i64 (IntKind.wrap .i64 (((↑ws.length : Int) - (256 : Int)))) rfl (fun _ => by kernel_rfl) (Xg.wrap_i64_in (by omega)) ?_)
        refine Xg.ops_op (by kernel_rfl) (Xg.opx_run (.string (Xg.St (List.drop (((↑ws.length : Int) - (256 : Int)).toNat) ws))) rfl (Xg.run_str_sl_lo (xs := ws) (k1 := .i64) (e1 := ((↑ws.length : Int) - (256 : Int))) (((↑ws.length : Int) - (256 : Int)).toNat) (by kernel_rfl) (by kernel_rfl) (by kernel_rfl) (by omega) (by first | omega | (simp; done) | (simp; omega))) ?_)
        refine Xg.ops_op (by kernel_rfl) (Xg.opx_pure ((Value.string (St (List.drop ((↑ws.length : Int) - (256 : Int)).toNat ws)))) rfl (fun _ => by kernel_rfl) ?_)
        refine Xg.ops_nil ?_
        refine Xg.at_seq ?_
        refine Xg.at_region ?_
        refine Xg.ops_op (by kernel_rfl) (Xg.opx_pure ((Value.pointer (some (Addr.mk xx1.fst (0 : Nat) none)))) rfl (fun _ => by kernel_rfl) ?_)
        refine Xg.ops_op (by kernel_rfl) (Xg.opx_callE' [0, 1] (fun xx4 => [bts xx4.fst xx4.snd xs', PoS xx1.fst σ' a' c' xs', bts a' c' xs', Drv te, A]) (fun _ => by kernel_rfl) (@Go.Proofs.YtncdmccdclhokaaDoor.sent_d (xx1.fst) (σ') (a') (c') (xs') (by omega)) (by kernel_rfl) (by kernel_rfl) (by kernel_rfl) fun xx4 xh5 => ?_)
        try dsimp only at xh5
        refine Xg.ops_op (by kernel_rfl) (Xg.opx_pure ((Value.slice xx4.fst xs'.length xx4.snd)) rfl (fun _ => by kernel_rfl) ?_)
        refine Xg.ops_nil ?_
        refine Xg.at_seq ?_
        refine Xg.at_region ?_
        refine Xg.ops_op (by kernel_rfl) (Xg.opx_pure ((Value.int IntKind.i64 (0 : Int))) rfl (fun _ => by kernel_rfl) ?_)
        refine Xg.ops_op (by kernel_rfl) (Xg.opx_pure ((Value.bool true)) rfl (fun _ => by kernel_rfl) ?_)
        refine Xg.ops_op (by kernel_rfl) (Xg.opx_pure ((Value.bool true)) rfl (fun _ => by kernel_rfl) ?_)
        refine Xg.ops_op (by kernel_rfl) (Xg.opx_pure ((Value.slice xx4.fst xs'.length xx4.snd)) rfl (fun _ => by kernel_rfl) ?_)
        refine Xg.ops_op (by kernel_rfl) (Xg.opx_rd 0 (.string (Xg.St xs')) rfl (Xg.reads_own (E := ((5 : TypeId))) (sz := ((1 : Nat))) (n := xs'.length) (c := xx4.snd) (a := xx4.fst) (vs := (List.map (Value.int IntKind.u8) xs'))) (by kernel_rfl) (Xg.run_str_rd (e := 5) (a := xx4.fst) (n := xs'.length) (c := xx4.snd) (xs := xs') (by kernel_rfl) (by kernel_rfl) (by kernel_rfl) (by kernel_rfl)) ?_)
        refine Xg.ops_op (by kernel_rfl) (Xg.opx_pure ((Value.string (St (List.drop ((↑ws.length : Int) - (256 : Int)).toNat ws)))) rfl (fun _ => by kernel_rfl) ?_)
        refine Xg.ops_op (by kernel_rfl) (Xg.opx_run (.bool true) rfl (Xg.run_str_same (xs := xs') (ys := (List.drop ((↑ws.length : Int) - (256 : Int)).toNat ws)) (by kernel_rfl) (by kernel_rfl) (by kernel_rfl) (by assumption)) ?_)
        refine Xg.ops_op (by kernel_rfl) (Xg.opx_pure ((Value.bool true)) rfl (fun _ => by kernel_rfl) ?_)
        refine Xg.ops_op (by kernel_rfl) (Xg.opx_pure ((Value.bool true)) rfl (fun _ => by kernel_rfl) ?_)
        refine Xg.ops_nil ?_
        refine Xg.at_ret_ps (v := (Value.bool true)) [3, 4] [Drv te, A] Go.Proofs.Tryd.func6 (fun _ => by kernel_rfl) (by kernel_rfl) (by kernel_rfl) ?_
        exact ⟨by kernel_rfl, by kernel_rfl⟩)
    · have hE := hE1 (by omega)
      (focus
        refine Xg.at_seq ?_
        refine Xg.at_seq ?_
        refine Xg.at_region ?_
        refine Xg.ops_op (by kernel_rfl) (Xg.opx_pure ((Value.int IntKind.i64 (↑i : Int))) rfl (fun _ => by kernel_rfl) ?_)
        refine Xg.ops_op (by kernel_rfl) (Xg.opx_pure ((Value.string (St ts))) rfl (fun _ => by kernel_rfl) ?_)
        refine Xg.ops_op (by kernel_rfl) (Xg.opx_run (.int .i64 ((List.length ts : Nat) : Int)) rfl (Xg.run_str_len (xs := ts) (by kernel_rfl) (by kernel_rfl)) ?_)
        refine Xg.ops_op (by kernel_rfl) (Xg.opx_pure (.bool (decide ((((↑i : Int)) : Int) < ((↑ts.length : Int))))) rfl (fun _ => by kernel_rfl) ?_)
        refine Xg.ops_op (by kernel_rfl) (Xg.opx_pure ((Value.bool (decide ((↑i : Int) < (↑ts.length : Int))))) rfl (fun _ => by kernel_rfl) ?_)
        refine Xg.ops_flag (j := 36) (c := (decide ((↑i : Int) < (↑ts.length : Int)))) (by kernel_rfl) (fun xh4 => ?_) (fun xh4 => ?_)
        replace xh4 : ((↑i : Int) < (↑ts.length : Int)) := of_decide_eq_true xh4
        rotate_left
        replace xh4 : ¬ (((↑i : Int) < (↑ts.length : Int))) := of_decide_eq_false xh4
        rotate_right
        refine Xg.ops_op (by kernel_rfl) (Xg.opx_pure ((Value.int IntKind.i64 (↑i : Int))) rfl (fun _ => by kernel_rfl) ?_)
        refine Xg.ops_op (by kernel_rfl) (Xg.opx_pure (.bool (decide ((((↑i : Int)) : Int) < ((20 : Int))))) rfl (fun _ => by kernel_rfl) ?_)
        refine Xg.ops_op (by kernel_rfl) (Xg.opx_pure ((Value.bool (decide ((↑i : Int) < (20 : Int))))) rfl (fun _ => by kernel_rfl) ?_)
        refine Xg.ops_nil ?_
        refine Xg.at_false (t := decide (((↑i : Int) < (20 : Int)))) (by kernel_rfl) (decide_eq_false (by omega)) ?_
        refine Xg.at_exit rfl ?_
        refine Xg.at_seq ?_
        refine Xg.at_seq ?_
        refine Xg.at_region ?_
        refine Xg.ops_op (by kernel_rfl) (Xg.opx_pure ((Value.string (St ws))) rfl (fun _ => by kernel_rfl) ?_)
        refine Xg.ops_op (by kernel_rfl) (Xg.opx_run (.int .i64 ((List.length ws : Nat) : Int)) rfl (Xg.run_str_len (xs := ws) (by kernel_rfl) (by kernel_rfl)) ?_)
        refine Xg.ops_op (by kernel_rfl) (Xg.opx_pure (.bool (decide ((((↑ws.length : Int)) : Int) > ((256 : Int))))) rfl (fun _ => by kernel_rfl) ?_)
        refine Xg.ops_nil ?_
        refine Xg.at_false (t := decide (((↑ws.length : Int) > (256 : Int)))) (by kernel_rfl) (decide_eq_false (by omega)) ?_
        refine Xg.at_skip ?_
        refine Xg.at_seq ?_
        refine Xg.at_region ?_
        refine Xg.ops_op (by kernel_rfl) (Xg.opx_pure ((Value.pointer (some (Addr.mk xx1.fst (0 : Nat) none)))) rfl (fun _ => by kernel_rfl) ?_)
        refine Xg.ops_op (by kernel_rfl) (Xg.opx_callE' [0, 1] (fun xx4 => [bts xx4.fst xx4.snd xs', PoS xx1.fst σ' a' c' xs', bts a' c' xs', Drv te, A]) (fun _ => by kernel_rfl) (@Go.Proofs.YtncdmccdclhokaaDoor.sent_d (xx1.fst) (σ') (a') (c') (xs') (by omega)) (by kernel_rfl) (by kernel_rfl) (by kernel_rfl) fun xx4 xh5 => ?_)
        try dsimp only at xh5
        refine Xg.ops_op (by kernel_rfl) (Xg.opx_pure ((Value.slice xx4.fst xs'.length xx4.snd)) rfl (fun _ => by kernel_rfl) ?_)
        refine Xg.ops_nil ?_
        refine Xg.at_seq ?_
        refine Xg.at_region ?_
        refine Xg.ops_op (by kernel_rfl) (Xg.opx_pure ((Value.int IntKind.i64 (0 : Int))) rfl (fun _ => by kernel_rfl) ?_)
        refine Xg.ops_op (by kernel_rfl) (Xg.opx_pure ((Value.bool true)) rfl (fun _ => by kernel_rfl) ?_)
        refine Xg.ops_op (by kernel_rfl) (Xg.opx_pure ((Value.bool true)) rfl (fun _ => by kernel_rfl) ?_)
        refine Xg.ops_op (by kernel_rfl) (Xg.opx_pure ((Value.slice xx4.fst xs'.length xx4.snd)) rfl (fun _ => by kernel_rfl) ?_)
        refine Xg.ops_op (by kernel_rfl) (Xg.opx_rd 0 (.string (Xg.St xs')) rfl (Xg.reads_own (E := ((5 : TypeId))) (sz := ((1 : Nat))) (n := xs'.length) (c := xx4.snd) (a := xx4.fst) (vs := (List.map (Value.int IntKind.u8) xs'))) (by kernel_rfl) (Xg.run_str_rd (e := 5) (a := xx4.fst) (n := xs'.length) (c := xx4.snd) (xs := xs') (by kernel_rfl) (by kernel_rfl) (by kernel_rfl) (by kernel_rfl)) ?_)
        refine Xg.ops_op (by kernel_rfl) (Xg.opx_pure ((Value.string (St ws))) rfl (fun _ => by kernel_rfl) ?_)
        refine Xg.ops_op (by kernel_rfl) (Xg.opx_run (.bool true) rfl (Xg.run_str_same (xs := xs') (ys := ws) (by kernel_rfl) (by kernel_rfl) (by kernel_rfl) (by assumption)) ?_)
        refine Xg.ops_op (by kernel_rfl) (Xg.opx_pure ((Value.bool true)) rfl (fun _ => by kernel_rfl) ?_)
        refine Xg.ops_op (by kernel_rfl) (Xg.opx_pure ((Value.bool true)) rfl (fun _ => by kernel_rfl) ?_)
        refine Xg.ops_nil ?_
        refine Xg.at_ret_ps (v := (Value.bool true)) [3, 4] [Drv te, A] Go.Proofs.Tryd.func6 (fun _ => by kernel_rfl) (by kernel_rfl) (by kernel_rfl) ?_
        exact ⟨by kernel_rfl, by kernel_rfl⟩
        refine Xg.ops_skip (by kernel_rfl) ?_
        refine Xg.ops_skip (by kernel_rfl) ?_
        refine Xg.ops_op (by kernel_rfl) (Xg.opx_pure ((Value.bool false)) rfl (fun _ => by kernel_rfl) ?_)
        refine Xg.ops_nil ?_
        refine Xg.at_false (t := false) (by kernel_rfl) rfl ?_
        refine Xg.at_exit rfl ?_
        refine Xg.at_seq ?_
        refine Xg.at_seq ?_
        refine Xg.at_region ?_
        refine Xg.ops_op (by kernel_rfl) (Xg.opx_pure ((Value.string (St ws))) rfl (fun _ => by kernel_rfl) ?_)
        refine Xg.ops_op (by kernel_rfl) (Xg.opx_run (.int .i64 ((List.length ws : Nat) : Int)) rfl (Xg.run_str_len (xs := ws) (by kernel_rfl) (by kernel_rfl)) ?_)
        refine Xg.ops_op (by kernel_rfl) (Xg.opx_pure (.bool (decide ((((↑ws.length : Int)) : Int) > ((256 : Int))))) rfl (fun _ => by kernel_rfl) ?_)
        refine Xg.ops_nil ?_
        refine Xg.at_false (t := decide (((↑ws.length : Int) > (256 : Int)))) (by kernel_rfl) (decide_eq_false (by omega)) ?_
        refine Xg.at_skip ?_
        refine Xg.at_seq ?_
        refine Xg.at_region ?_
        refine Xg.ops_op (by kernel_rfl) (Xg.opx_pure ((Value.pointer (some (Addr.mk xx1.fst (0 : Nat) none)))) rfl (fun _ => by kernel_rfl) ?_)
        refine Xg.ops_op (by kernel_rfl) (Xg.opx_callE' [0, 1] (fun xx4 => [bts xx4.fst xx4.snd xs', PoS xx1.fst σ' a' c' xs', bts a' c' xs', Drv te, A]) (fun _ => by kernel_rfl) (@Go.Proofs.YtncdmccdclhokaaDoor.sent_d (xx1.fst) (σ') (a') (c') (xs') (by omega)) (by kernel_rfl) (by kernel_rfl) (by kernel_rfl) fun xx4 xh5 => ?_)
        try dsimp only at xh5
        refine Xg.ops_op (by kernel_rfl) (Xg.opx_pure ((Value.slice xx4.fst xs'.length xx4.snd)) rfl (fun _ => by kernel_rfl) ?_)
        refine Xg.ops_nil ?_
        refine Xg.at_seq ?_
        refine Xg.at_region ?_
        refine Xg.ops_op (by kernel_rfl) (Xg.opx_pure ((Value.int IntKind.i64 (0 : Int))) rfl (fun _ => by kernel_rfl) ?_)
        refine Xg.ops_op (by kernel_rfl) (Xg.opx_pure ((Value.bool true)) rfl (fun _ => by kernel_rfl) ?_)
        refine Xg.ops_op (by kernel_rfl) (Xg.opx_pure ((Value.bool true)) rfl (fun _ => by kernel_rfl) ?_)
        refine Xg.ops_op (by kernel_rfl) (Xg.opx_pure ((Value.slice xx4.fst xs'.length xx4.snd)) rfl (fun _ => by kernel_rfl) ?_)
        refine Xg.ops_op (by kernel_rfl) (Xg.opx_rd 0 (.string (Xg.St xs')) rfl (Xg.reads_own (E := ((5 : TypeId))) (sz := ((1 : Nat))) (n := xs'.length) (c := xx4.snd) (a := xx4.fst) (vs := (List.map (Value.int IntKind.u8) xs'))) (by kernel_rfl) (Xg.run_str_rd (e := 5) (a := xx4.fst) (n := xs'.length) (c := xx4.snd) (xs := xs') (by kernel_rfl) (by kernel_rfl) (by kernel_rfl) (by kernel_rfl)) ?_)
        refine Xg.ops_op (by kernel_rfl) (Xg.opx_pure ((Value.string (St ws))) rfl (fun _ => by kernel_rfl) ?_)
        refine Xg.ops_op (by kernel_rfl) (Xg.opx_run (.bool true) rfl (Xg.run_str_same (xs := xs') (ys := ws) (by kernel_rfl) (by kernel_rfl) (by kernel_rfl) (by assumption)) ?_)
        refine Xg.ops_op (by kernel_rfl) (Xg.opx_pure ((Value.bool true)) rfl (fun _ => by kernel_rfl) ?_)
        refine Xg.ops_op (by kernel_rfl) (Xg.opx_pure ((Value.bool true)) rfl (fun _ => by kernel_rfl) ?_)
        refine Xg.ops_nil ?_
        refine Xg.at_ret_ps (v := (Value.bool true)) [3, 4] [Drv te, A] Go.Proofs.Tryd.func6 (fun _ => by kernel_rfl) (by kernel_rfl) (by kernel_rfl) ?_
        exact ⟨by kernel_rfl, by kernel_rfl⟩)

end Go.Proofs.YtncdmccdclhokaaDoor
