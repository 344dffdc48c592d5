/- The ports' laws: the timer. -/
import Derived.Test.YtncdmccdclhokaaDoorKP14
import Derived.Test.YtncdmccdclhokaaDoorKQ1
namespace Go.Proofs.YtncdmccdclhokaaDoor
open Go.Sl Go.Xg
set_option linter.unusedVariables false
set_option linter.unusedSimpArgs false
set_option maxHeartbeats 4000000
set_option maxRecDepth 100000
variable {te : TypeId}

theorem driven_cn (b : Bool) (σ : Po) : (driven b σ).counter = σ.counter := by unfold driven ticked; split <;> (try split) <;> (try split) <;> rfl

theorem drive_off {σ : Po} (h : σ.control = 0) : driveB σ = false := by
  unfold driveB
  rw [h, show decide (band .u8 0 4 = 0) = true from by decide]
  rfl

theorem start_tm {σ : Po} (h : σ.Wf) {k a : Nat} (hk : k < 4) (ha : a < 256) (σ1 σ2 σ3 σ4 σ5 : Po) (e1 : σ1 = wrI 6 σ 0) (e2 : σ2 = wrI 3 σ1 0) (e3 : σ3 = wrI 4 σ2 255) (e4 : σ4 = wrI 5 σ3 (a : Nat)) (e5 : σ5 = wrI 6 σ4 (4 + (k : Int)))
    (w5 : σ5.Wf) : Tm k a 255 0 0 0 { σ5 with requests := takeI σ5.requests 2 } := by
  have c1 : σ1.control = 0 := by rw [e1]; exact (driven_co _ _).trans (show band .u8 0 7 = 0 by decide)
  have c2 : σ2.control = 0 := by rw [e2]; exact (driven_co _ _).trans c1
  have n2 : σ2.counter = 0 := by rw [e2]; exact driven_cn _ _
  have c4 : σ4.control = 0 := by rw [e4, e3]; exact c2
  have n4 : σ4.counter = 0 := by rw [e4, e3]; exact n2
  have t4 : σ4.timer = 255 := by rw [e4, e3]; rfl
  have a4 : σ4.alarm = 0 := by rw [e4, e3]; rfl
  have g4 : σ4.again = a := by rw [e4]; rfl
  have e6 : σ5 = { σ4 with control := band .u8 (4 + (k : Int)) 7 } := by
    rw [e5]
    show driven (driveB σ4) _ = _
    rw [drive_off c4]; rfl
  have hb : band .u8 (4 + (k : Int)) 7 = 4 + (k : Int) := by
    match k, hk with
    | 0, _ => decide
    | 1, _ => decide
    | 2, _ => decide
    | 3, _ => decide
  refine ⟨⟨w5.buttons, w5.rows, w5.shift, w5.line, w5.counter, w5.timer, w5.again, w5.control, takeI_bd w5.requests _, w5.alarm, w5.transfer, w5.sending⟩, ?_, ?_, ?_, ?_, ?_, ?_⟩
  · rw [e6]; exact hb
  · rw [e6]; exact g4
  · rw [e6]; exact t4
  · rw [e6]; exact a4
  · rw [e6]; exact n4
  · exact take2_b2 w5.requests

theorem Tm.take {k : Nat} {a t al c b : Int} {σ : Po} (h : Tm k a t al c b σ) : Tm k a t al c 0 { σ with requests := takeI σ.requests 2 } := by
  obtain ⟨w, h1, h2, h3, h4, h5, h6⟩ := h
  exact ⟨⟨w.buttons, w.rows, w.shift, w.line, w.counter, w.timer, w.again, w.control, takeI_bd w.requests _, w.alarm, w.transfer, w.sending⟩, h1, h2, h3, h4, h5, take2_b2 w.requests⟩

/-- The next clock brings the request. -/
def Nx (k : Nat) (a : Int) (σ : Po) (xs : List Int) : Prop := Tm k a a 0 ((σ.counter + 1) % 65536) 4 (clk 1 (σ, xs)).1 ∧ ((σ.counter + 1) % 65536) % dU k = 4

theorem nx_first {k : Nat} {a b : Int} {σ : Po} {xs : List Int} (hk : k < 4) (h : Tm k a 255 0 0 b σ) {σ' : Po} {xs' : List Int} (he : (σ', xs') = clk (dU k + 3).toNat (σ, xs)) : Nx k a σ' xs' ∧ b2 σ' = b ∧ σ'.counter = (dU k + 3) % 65536 := by
  have hu := dU_cases hk
  obtain ⟨t1, t2, t3⟩ := tm_first (x := (σ, xs)) hk h
  have e : (dU k + 3).toNat = (dU k).toNat + 3 := by omega
  rw [e] at he
  have e2 : clk ((dU k).toNat + 4) (σ, xs) = clk 1 (σ', xs') := by rw [he, ← clk_comp]
  rw [← he] at t1
  rw [e2] at t2
  have hc := t1.counter
  dsimp only at hc
  have e3 : (σ'.counter + 1) % 65536 = (dU k + 4) % 65536 := by rw [hc]; omega
  exact ⟨⟨by rw [e3]; exact t2, by rw [e3]; exact t3⟩, t1.bit, hc⟩

theorem nx_next {k : Nat} {a c b : Int} {σ : Po} {xs : List Int} (hk : k < 4) (h : Tm k a a 0 c b σ) (hc4 : c % dU k = 4) (ha : 0 ≤ a ∧ a ≤ 255) {σ' : Po} {xs' : List Int} (he : (σ', xs') = clk ((256 - a) * dU k - 1).toNat (σ, xs)) :
    Nx k a σ' xs' ∧ b2 σ' = b ∧ σ'.counter = (c + (256 - a) * dU k - 1) % 65536 := by
  have hu := dU_cases hk
  obtain ⟨t1, t2, t3⟩ := tm_next (x := (σ, xs)) hk h hc4 ha
  have e2 : clk (((256 - a) * dU k - 1).toNat + 1) (σ, xs) = clk 1 (σ', xs') := by rw [he, ← clk_comp]
  rw [← he] at t1
  rw [e2] at t2
  have hc := t1.counter
  dsimp only at hc
  have e3 : (σ'.counter + 1) % 65536 = (c + (256 - a) * dU k) % 65536 := by rw [hc]; omega
  exact ⟨⟨by rw [e3]; exact t2, by rw [e3]; exact t3⟩, t1.bit, hc⟩

theorem write_3E (p : Nat) (σ : Po) (hσ : σ.Wf) (s : Value) (v : Int) (hv : 0 ≤ v ∧ v ≤ 255) : Does Tryd.prog 15 [pt p, .int .i64 65284, .int .i64 v] [PoR p σ s, (Drv te)] (RetE (fun x : Po => x = wrI 3 σ v ∧ x.Wf) (fun _ => .int .i64 0) (fun x => [PoR p x s, (Drv te)])) :=
  (write_3 p σ s v hv).mono fun _ _ ⟨e1, e2⟩ => ⟨_, ⟨rfl, wrI_wf hσ 3 hv⟩, e1, e2⟩
theorem write_4E (p : Nat) (σ : Po) (hσ : σ.Wf) (s : Value) (v : Int) (hv : 0 ≤ v ∧ v ≤ 255) : Does Tryd.prog 15 [pt p, .int .i64 65285, .int .i64 v] [PoR p σ s, (Drv te)] (RetE (fun x : Po => x = wrI 4 σ v ∧ x.Wf) (fun _ => .int .i64 0) (fun x => [PoR p x s, (Drv te)])) :=
  (write_4 p σ s v hv).mono fun _ _ ⟨e1, e2⟩ => ⟨_, ⟨rfl, wrI_wf hσ 4 hv⟩, e1, e2⟩
theorem write_5E (p : Nat) (σ : Po) (hσ : σ.Wf) (s : Value) (v : Int) (hv : 0 ≤ v ∧ v ≤ 255) : Does Tryd.prog 15 [pt p, .int .i64 65286, .int .i64 v] [PoR p σ s, (Drv te)] (RetE (fun x : Po => x = wrI 5 σ v ∧ x.Wf) (fun _ => .int .i64 0) (fun x => [PoR p x s, (Drv te)])) :=
  (write_5 p σ s v hv).mono fun _ _ ⟨e1, e2⟩ => ⟨_, ⟨rfl, wrI_wf hσ 5 hv⟩, e1, e2⟩
theorem write_6E (p : Nat) (σ : Po) (hσ : σ.Wf) (s : Value) (v : Int) (hv : 0 ≤ v ∧ v ≤ 255) : Does Tryd.prog 15 [pt p, .int .i64 65287, .int .i64 v] [PoR p σ s, (Drv te)] (RetE (fun x : Po => x = wrI 6 σ v ∧ x.Wf) (fun _ => .int .i64 0) (fun x => [PoR p x s, (Drv te)])) :=
  (write_6 p σ s v hv).mono fun _ _ ⟨e1, e2⟩ => ⟨_, ⟨rfl, wrI_wf hσ 6 hv⟩, e1, e2⟩
theorem take_2E (p : Nat) (σ : Po) (hσ : σ.Wf) (s : Value) : Does Tryd.prog 16 [pt p, .int .i64 2] [PoR p σ s] (RetE (fun x : Po => x = { σ with requests := takeI σ.requests 2 } ∧ x.Wf) (fun _ => .int .i64 0) (fun x => [PoR p x s])) :=
  (take_d p σ s 2 (by omega)).mono fun _ _ ⟨e1, e2⟩ => ⟨_, ⟨rfl, wfT hσ 2⟩, e1, e2⟩

set_option maxHeartbeats 0 in
theorem timed_d (A : HP) (la : Option Addr) (n lc : Nat) (l : List Act) (hn : l.length = n) (hn2 : n ≤ maxLen) (hr : Reads A 3 (.slice la n lc) n (recs actC l)) (hl : ∀ i, i < n → (l.getD i default).ok)
    (v : Int) (hv : i64ok v) (v2 : Int) (hv2 : i64ok v2) (v3 : Int) (hv3 : i64ok v3) :
    Does Tryd.prog 3 [.slice la n lc, .int .i64 v, .int .i64 v2, .int .i64 v3] [(Drv te), A] (Ret (.bool true) [(Drv te), A]) := by
  obtain ⟨σ, xs, he, hσ, hxl⟩ := made_ok l (min n 200)
  have hm := made_f (te := te) A la n lc l hn hn2 hr hl σ xs he
  clear he hr hl
  obtain ⟨k, hkk⟩ : ∃ N, pickN v 4 = N := ⟨_, rfl⟩
  have hk : k < 4 := hkk ▸ pickN_lt v 4 (by omega)
  have hpk := pick_f v 4 hv (by omega) k hkk
  obtain ⟨a, haa⟩ : ∃ N, pickN v2 256 = N := ⟨_, rfl⟩
  have ha : a < 256 := haa ▸ pickN_lt v2 256 (by omega)
  have hpa := pick_f v2 256 hv2 (by omega) a haa
  obtain ⟨m, hmm⟩ : ∃ N, pickN v3 4 = N := ⟨_, rfl⟩
  have hm4 : m < 4 := hmm ▸ pickN_lt v3 4 (by omega)
  have hpm := pick_f v3 4 hv3 (by omega) m hmm
  clear hkk haa hmm
  have hu := dU_cases hk
  have hU : 16 ≤ List.getD [(1024 : Int), 16, 64, 256] k 0 ∧ List.getD [(1024 : Int), 16, 64, 256] k 0 ≤ 1024 := by
    have : List.getD [(1024 : Int), 16, 64, 256] k 0 = dU k := rfl
    rw [this]; omega
  have hUa : 16 ≤ (256 - (a : Int)) * List.getD [(1024 : Int), 16, 64, 256] k 0 ∧ (256 - (a : Int)) * List.getD [(1024 : Int), 16, 64, 256] k 0 ≤ 262144 := by
    constructor
    · have := Int.mul_le_mul (a := 1) (b := 16) (c := 256 - (a : Int)) (d := List.getD [(1024 : Int), 16, 64, 256] k 0) (by omega) (by omega) (by omega) (by omega)
      omega
    · have := Int.mul_le_mul (a := 256 - (a : Int)) (b := List.getD [(1024 : Int), 16, 64, 256] k 0) (c := 256) (d := 1024) (by omega) (by omega) (by omega) (by omega)
      omega
  have hs1 : ∀ p σ ad c xs, Tm k a 255 0 0 0 σ → xs.length ≤ 256 → Does Tryd.prog 17 [pt p, .int .i64 (List.getD [(1024 : Int), 16, 64, 256] k 0 + 3)] [PoS p σ ad c xs, bts ad c xs, (Drv te)]
      (RetE (fun x : Po × Option Addr × Nat × List Int => Nx k a x.1 x.2.2.2 ∧ band .i64 x.1.requests 4 = 0 ∧ x.1.counter = (dU k + 3) % 65536 ∧ x.1.Wf ∧ 0 ≤ x.1.requests ∧ x.1.requests ≤ 31 ∧ x.2.2.2.length ≤ 256) (fun _ => .int .i64 0) (fun x => [PoS p x.1 x.2.1 x.2.2.1 x.2.2.2, bts x.2.1 x.2.2.1 x.2.2.2, (Drv te)])) :=
    fun p σ ad c xs ht hl => (step_i (te := te) p σ ht.wf ad c xs hl (dU k + 3) (by omega)).mono fun v ps ⟨x, ⟨h1, h2, h3⟩, h4, h5⟩ =>
      have hx := nx_first hk ht h1
      ⟨x, ⟨hx.1, hx.2.1, hx.2.2, h2, h2.requests.1, h2.requests.2, h3⟩, h4, h5⟩
  have hs2 : ∀ p σ ad c xs, Tm k a a 0 σ.counter 0 σ → σ.counter % dU k = 4 → xs.length ≤ 256 → Does Tryd.prog 17 [pt p, .int .i64 ((256 - (a : Int)) * List.getD [(1024 : Int), 16, 64, 256] k 0 - 1)] [PoS p σ ad c xs, bts ad c xs, (Drv te)]
      (RetE (fun x : Po × Option Addr × Nat × List Int => Nx k a x.1 x.2.2.2 ∧ band .i64 x.1.requests 4 = 0 ∧ x.1.counter = (σ.counter + (256 - (a : Int)) * List.getD [(1024 : Int), 16, 64, 256] k 0 - 1) % 65536 ∧ x.1.Wf ∧ 0 ≤ x.1.requests ∧ x.1.requests ≤ 31 ∧ x.2.2.2.length ≤ 256) (fun _ => .int .i64 0) (fun x => [PoS p x.1 x.2.1 x.2.2.1 x.2.2.2, bts x.2.1 x.2.2.1 x.2.2.2, (Drv te)])) :=
    fun p σ ad c xs ht hc4 hl => (step_i (te := te) p σ ht.wf ad c xs hl ((256 - (a : Int)) * dU k - 1) (by have : List.getD [(1024 : Int), 16, 64, 256] k 0 = dU k := rfl; rw [this] at hUa; omega)).mono fun v ps ⟨x, ⟨h1, h2, h3⟩, h4, h5⟩ =>
      have hx := nx_next hk ht hc4 (by omega) h1
      ⟨x, ⟨hx.1, hx.2.1, hx.2.2, h2, h2.requests.1, h2.requests.2, h3⟩, h4, h5⟩
  have hs3 : ∀ p σ ad c xs, Nx k a σ xs → σ.Wf → xs.length ≤ 256 → Does Tryd.prog 17 [pt p, .int .i64 1] [PoS p σ ad c xs, bts ad c xs, (Drv te)]
      (RetE (fun x : Po × Option Addr × Nat × List Int => Tm k a a 0 x.1.counter 4 x.1 ∧ x.1.counter % dU k = 4 ∧ band .i64 x.1.requests 4 = 4 ∧ x.1.counter = (σ.counter + 1) % 65536 ∧ x.1.timer = a ∧ x.1.Wf ∧ 0 ≤ x.1.requests ∧ x.1.requests ≤ 31 ∧ x.2.2.2.length ≤ 256) (fun _ => .int .i64 0) (fun x => [PoS p x.1 x.2.1 x.2.2.1 x.2.2.2, bts x.2.1 x.2.2.1 x.2.2.2, (Drv te)])) :=
    fun p σ ad c xs hx hw hl => (step_i (te := te) p σ hw ad c xs hl 1 (by omega)).mono fun v ps ⟨x, ⟨h1, h2, h3⟩, h4, h5⟩ => by
      obtain ⟨t1, t2⟩ := hx
      have e1 : (clk 1 (σ, xs)).1 = x.1 := (congrArg Prod.fst h1).symm
      rw [e1] at t1
      have hc := t1.counter
      rw [← hc] at t1 t2
      exact ⟨x, ⟨t1, t2, t1.bit, hc, t1.timer, h2, h2.requests.1, h2.requests.2, h3⟩, h4, h5⟩
  have hu2 : List.getD [(1024 : Int), 16, 64, 256] k 0 = dU k := rfl
  (focus
    refine Xg.spec_of Go.Proofs.Tryd.func3 rfl Go.Proofs.Tryd.ntmps3 fun g F => ?_)
  (focus
    refine Xg.at_seq ?_
    refine Xg.at_region ?_
    refine Xg.ops_op (by kernel_rfl) (Xg.opx_pure ((Value.bool false)) rfl (fun _ => by kernel_rfl) ?_)
    refine Xg.ops_nil ?_
    refine Xg.at_seq ?_
    refine Xg.at_region ?_
    refine Xg.ops_op (by kernel_rfl) (Xg.opx_pure ((Value.slice la n lc)) rfl (fun _ => by kernel_rfl) ?_)
    refine Xg.ops_op (by kernel_rfl) (Xg.opx_callE' [0, 1] (fun xx1 => [PoS xx1.fst σ xx1.snd.fst xx1.snd.snd xs, bts xx1.snd.fst xx1.snd.snd xs, Drv te, A]) (fun _ => by kernel_rfl) (@hm ) (by kernel_rfl) (by kernel_rfl) (by kernel_rfl) fun xx1 xh1 => ?_)
    try dsimp only at xh1
    refine Xg.ops_op (by kernel_rfl) (Xg.opx_pure ((Value.pointer (some (Addr.mk xx1.fst (0 : Nat) none)))) rfl (fun _ => by kernel_rfl) ?_)
    refine Xg.ops_nil ?_
    refine Xg.at_seq ?_
    refine Xg.at_seq ?_
    refine Xg.at_region ?_
    refine Xg.ops_op (by kernel_rfl) (Xg.opx_pure ((Value.pointer (some (Addr.mk xx1.fst (0 : Nat) none)))) rfl (fun _ => by kernel_rfl) ?_)
    refine Xg.ops_op (by kernel_rfl) (Xg.opx_pure ((Value.bool false)) rfl (fun _ => by kernel_rfl) ?_)
    refine Xg.ops_nil ?_
    refine Xg.at_false (t := false) (by kernel_rfl) rfl ?_
    refine Xg.at_skip ?_
    refine Xg.at_seq ?_
    refine Xg.at_region ?_
    refine Xg.ops_op (by kernel_rfl) (Xg.opx_pure ((Value.int IntKind.i64 v)) rfl (fun _ => by kernel_rfl) ?_)
    refine Xg.ops_op (by kernel_rfl) (Xg.opx_call1' [] [PoS xx1.fst σ xx1.snd.fst xx1.snd.snd xs, bts xx1.snd.fst xx1.snd.snd xs, Drv te, A] (fun _ => by kernel_rfl) (@hpk ) (by kernel_rfl) (by kernel_rfl) (by kernel_rfl) ?_)
    refine Xg.ops_op (by kernel_rfl) (Xg.opx_pure ((Value.int IntKind.i64 (↑k : Int))) rfl (fun _ => by kernel_rfl) ?_)
    refine Xg.ops_nil ?_
    refine Xg.at_seq ?_
    refine Xg.at_region ?_
    refine Xg.ops_op (by kernel_rfl) (Xg.opx_pure ((Value.int IntKind.i64 v2)) rfl (fun _ => by kernel_rfl) ?_)
    refine Xg.ops_op (by kernel_rfl) (Xg.opx_call1' [] [PoS xx1.fst σ xx1.snd.fst xx1.snd.snd xs, bts xx1.snd.fst xx1.snd.snd xs, Drv te, A] (fun _ => by kernel_rfl) (@hpa ) (by kernel_rfl) (by kernel_rfl) (by kernel_rfl) ?_)
    refine Xg.ops_op (by kernel_rfl) (Xg.opx_pure ((Value.int IntKind.i64 (↑a : Int))) rfl (fun _ => by kernel_rfl) ?_)
    refine Xg.ops_nil ?_
    refine Xg.at_seq ?_
    refine Xg.at_region ?_
    refine Xg.ops_op (by kernel_rfl) (Xg.opx_bs (elem := 3) 1 [Value.int IntKind.i64 (1024 : Int), Value.int IntKind.i64 (16 : Int), Value.int IntKind.i64 (64 : Int), Value.int IntKind.i64 (256 : Int)] [Value.int IntKind.i64 (1024 : Int), Value.int IntKind.i64 (16 : Int), Value.int IntKind.i64 (64 : Int), Value.int IntKind.i64 (256 : Int)] (by kernel_rfl) (by kernel_rfl) (by decide) rfl (by kernel_rfl) (by kernel_rfl) (by kernel_rfl) (by kernel_rfl) fun xb1 => ?_)
    refine Xg.ops_op (by kernel_rfl) (Xg.opx_pure ((Value.int IntKind.i64 (↑k : Int))) rfl (fun _ => by kernel_rfl) ?_)
    refine Xg.ops_op (by kernel_rfl) (Xg.opx_run (.pointer (some (Addr.mk xb1 k none))) rfl (Xg.run_ix_slice' (elem := 3) (b := xb1) (off := ((0 : Nat))) (len := ((4 : Nat))) (cap := ((4 : Nat))) (kd := .i64) (e := ((↑k : Int))) 1 k k (by kernel_rfl) (by kernel_rfl) (by kernel_rfl) (by kernel_rfl) rfl (by omega) (by omega)) ?_)
    refine Xg.ops_op (by kernel_rfl) (Xg.opx_load (b := xb1) (off := k) 0 (Value.int IntKind.i64 ([(1024 : Int), (16 : Int), (64 : Int), (256 : Int)].getD k (0 : Int))) rfl (by kernel_rfl) (Xg.get_ints (kd := .i64) (xs := [(1024 : Int), (16 : Int), (64 : Int), (256 : Int)]) (by show _ < 4; omega)) (by kernel_rfl) ?_)
    refine Xg.ops_op (by kernel_rfl) (Xg.opx_pure ((Value.int IntKind.i64 ([(1024 : Int), (16 : Int), (64 : Int), (256 : Int)].getD k (0 : Int)))) rfl (fun _ => by kernel_rfl) ?_)
    refine Xg.ops_nil ?_
    refine Xg.at_seq ?_
    refine Xg.at_region ?_
    refine Xg.ops_op (by kernel_rfl) (Xg.opx_pure ((Value.pointer (some (Addr.mk xx1.fst (0 : Nat) none)))) rfl (fun _ => by kernel_rfl) ?_)
    refine Xg.ops_op (by kernel_rfl) (Xg.opx_callE' [1, 3] (fun xx2 => [PoR xx1.fst xx2 (Value.slice xx1.snd.fst xs.length xx1.snd.snd), Drv te, row xb1 (3 : TypeId) [Value.int IntKind.i64 (1024 : Int), Value.int IntKind.i64 (16 : Int), Value.int IntKind.i64 (64 : Int), Value.int IntKind.i64 (256 : Int)], bts xx1.snd.fst xx1.snd.snd xs, A]) (fun _ => by kernel_rfl) (@Go.Proofs.YtncdmccdclhokaaDoor.write_6E (te) (xx1.fst) (σ) (by omega) ((Value.slice xx1.snd.fst xs.length xx1.snd.snd)) (((0 : Int))) (by omega)) (by kernel_rfl) (by kernel_rfl) (by kernel_rfl) fun xx2 xh2 => ?_)
    try dsimp only at xh2
    obtain ⟨xh2_0, xh2_1⟩ := xh2
    refine Xg.ops_op (by kernel_rfl) (Xg.opx_pure ((Value.int IntKind.i64 (0 : Int))) rfl (fun _ => by kernel_rfl) ?_)
    refine Xg.ops_nil ?_
    refine Xg.at_seq ?_
    refine Xg.at_region ?_
    refine Xg.ops_op (by kernel_rfl) (Xg.opx_pure ((Value.pointer (some (Addr.mk xx1.fst (0 : Nat) none)))) rfl (fun _ => by kernel_rfl) ?_)
    refine Xg.ops_op (by kernel_rfl) (Xg.opx_callE' [0, 1] (fun xx3 => [PoR xx1.fst xx3 (Value.slice xx1.snd.fst xs.length xx1.snd.snd), Drv te, row xb1 (3 : TypeId) [Value.int IntKind.i64 (1024 : Int), Value.int IntKind.i64 (16 : Int), Value.int IntKind.i64 (64 : Int), Value.int IntKind.i64 (256 : Int)], bts xx1.snd.fst xx1.snd.snd xs, A]) (fun _ => by kernel_rfl) (@Go.Proofs.YtncdmccdclhokaaDoor.write_3E (te) (xx1.fst) (xx2) (by omega) ((Value.slice xx1.snd.fst xs.length xx1.snd.snd)) (((0 : Int))) (by omega)) (by kernel_rfl) (by kernel_rfl) (by kernel_rfl) fun xx3 xh3 => ?_)
    try dsimp only at xh3
    obtain ⟨xh3_0, xh3_1⟩ := xh3
    refine Xg.ops_op (by kernel_rfl) (Xg.opx_pure ((Value.int IntKind.i64 (0 : Int))) rfl (fun _ => by kernel_rfl) ?_)
    refine Xg.ops_nil ?_
    refine Xg.at_seq ?_
    refine Xg.at_region ?_
    refine Xg.ops_op (by kernel_rfl) (Xg.opx_pure ((Value.pointer (some (Addr.mk xx1.fst (0 : Nat) none)))) rfl (fun _ => by kernel_rfl) ?_)
    refine Xg.ops_op (by kernel_rfl) (Xg.opx_callE' [0, 1] (fun xx4 => [PoR xx1.fst xx4 (Value.slice xx1.snd.fst xs.length xx1.snd.snd), Drv te, row xb1 (3 : TypeId) [Value.int IntKind.i64 (1024 : Int), Value.int IntKind.i64 (16 : Int), Value.int IntKind.i64 (64 : Int), Value.int IntKind.i64 (256 : Int)], bts xx1.snd.fst xx1.snd.snd xs, A]) (fun _ => by kernel_rfl) (@Go.Proofs.YtncdmccdclhokaaDoor.write_4E (te) (xx1.fst) (xx3) (by omega) ((Value.slice xx1.snd.fst xs.length xx1.snd.snd)) (((255 : Int))) (by omega)) (by kernel_rfl) (by kernel_rfl) (by kernel_rfl) fun xx4 xh4 => ?_)
    try dsimp only at xh4
    obtain ⟨xh4_0, xh4_1⟩ := xh4
    refine Xg.ops_op (by kernel_rfl) (Xg.opx_pure ((Value.int IntKind.i64 (0 : Int))) rfl (fun _ => by kernel_rfl) ?_)
    refine Xg.ops_nil ?_
    refine Xg.at_seq ?_
    refine Xg.at_region ?_
    refine Xg.ops_op (by kernel_rfl) (Xg.opx_pure ((Value.pointer (some (Addr.mk xx1.fst (0 : Nat) none)))) rfl (fun _ => by kernel_rfl) ?_)
    refine Xg.ops_op (by kernel_rfl) (Xg.opx_pure ((Value.int IntKind.i64 (↑a : Int))) rfl (fun _ => by kernel_rfl) ?_)
    refine Xg.ops_op (by kernel_rfl) (Xg.opx_callE' [0, 1] (fun xx5 => [PoR xx1.fst xx5 (Value.slice xx1.snd.fst xs.length xx1.snd.snd), Drv te, row xb1 (3 : TypeId) [Value.int IntKind.i64 (1024 : Int), Value.int IntKind.i64 (16 : Int), Value.int IntKind.i64 (64 : Int), Value.int IntKind.i64 (256 : Int)], bts xx1.snd.fst xx1.snd.snd xs, A]) (fun _ => by kernel_rfl) (@Go.Proofs.YtncdmccdclhokaaDoor.write_5E (te) (xx1.fst) (xx4) (by omega) ((Value.slice xx1.snd.fst xs.length xx1.snd.snd)) (((↑a : Int))) (by omega)) (by kernel_rfl) (by kernel_rfl) (by kernel_rfl) fun xx5 xh5 => ?_)
    try dsimp only at xh5
    obtain ⟨xh5_0, xh5_1⟩ := xh5
    refine Xg.ops_op (by kernel_rfl) (Xg.opx_pure ((Value.int IntKind.i64 (0 : Int))) rfl (fun _ => by kernel_rfl) ?_)
    refine Xg.ops_nil ?_
    refine Xg.at_seq ?_
    refine Xg.at_region ?_
    refine Xg.ops_op (by kernel_rfl) (Xg.opx_pure ((Value.pointer (some (Addr.mk xx1.fst (0 : Nat) none)))) rfl (fun _ => by kernel_rfl) ?_)
    refine Xg.ops_op (by kernel_rfl) (Xg.opx_pure ((Value.int IntKind.i64 (↑k : Int))) rfl (fun _ => by kernel_rfl) ?_)
    refine Xg.ops_op (by kernel_rfl) (Xg.opx_int .i64 (IntKind.wrap .i64 (((4 : Int) + (↑k : Int)))) rfl (fun _ => by kernel_rfl) (Xg.wrap_i64_in (by omega)) ?_)
    refine Xg.ops_op (by kernel_rfl) (Xg.opx_callE' [0, 1] (fun xx6 => [PoR xx1.fst xx6 (Value.slice xx1.snd.fst xs.length xx1.snd.snd), Drv te, row xb1 (3 : TypeId) [Value.int IntKind.i64 (1024 : Int), Value.int IntKind.i64 (16 : Int), Value.int IntKind.i64 (64 : Int), Value.int IntKind.i64 (256 : Int)], bts xx1.snd.fst xx1.snd.snd xs, A]) (fun _ => by kernel_rfl) (@Go.Proofs.YtncdmccdclhokaaDoor.write_6E (te) (xx1.fst) (xx5) (by omega) ((Value.slice xx1.snd.fst xs.length xx1.snd.snd)) (((4 : Int) + (↑k : Int))) (by omega)) (by kernel_rfl) (by kernel_rfl) (by kernel_rfl) fun xx6 xh6 => ?_)
    try dsimp only at xh6
    obtain ⟨xh6_0, xh6_1⟩ := xh6
    refine Xg.ops_op (by kernel_rfl) (Xg.opx_pure ((Value.int IntKind.i64 (0 : Int))) rfl (fun _ => by kernel_rfl) ?_)
    refine Xg.ops_nil ?_
    refine Xg.at_seq ?_
    refine Xg.at_region ?_
    refine Xg.ops_op (by kernel_rfl) (Xg.opx_pure ((Value.pointer (some (Addr.mk xx1.fst (0 : Nat) none)))) rfl (fun _ => by kernel_rfl) ?_)
    refine Xg.ops_op (by kernel_rfl) (Xg.opx_callE' [0] (fun xx7 => [PoR xx1.fst xx7 (Value.slice xx1.snd.fst xs.length xx1.snd.snd), Drv te, row xb1 (3 : TypeId) [Value.int IntKind.i64 (1024 : Int), Value.int IntKind.i64 (16 : Int), Value.int IntKind.i64 (64 : Int), Value.int IntKind.i64 (256 : Int)], bts xx1.snd.fst xx1.snd.snd xs, A]) (fun _ => by kernel_rfl) (@Go.Proofs.YtncdmccdclhokaaDoor.take_2E (xx1.fst) (xx6) (by omega) ((Value.slice xx1.snd.fst xs.length xx1.snd.snd))) (by kernel_rfl) (by kernel_rfl) (by kernel_rfl) fun xx7 xh7 => ?_)
    try dsimp only at xh7
    obtain ⟨xh7_0, xh7_1⟩ := xh7
    refine Xg.ops_op (by kernel_rfl) (Xg.opx_pure ((Value.int IntKind.i64 (0 : Int))) rfl (fun _ => by kernel_rfl) ?_)
    refine Xg.ops_nil ?_
    refine Xg.at_seq ?_
    refine Xg.at_region ?_
    refine Xg.ops_op (by kernel_rfl) (Xg.opx_pure ((Value.pointer (some (Addr.mk xx1.fst (0 : Nat) none)))) rfl (fun _ => by kernel_rfl) ?_)
    refine Xg.ops_op (by kernel_rfl) (Xg.opx_pure ((Value.int IntKind.i64 ([(1024 : Int), (16 : Int), (64 : Int), (256 : Int)].getD k (0 : Int)))) rfl (fun _ => by kernel_rfl) ?_)
    refine Xg.ops_op (by kernel_rfl) (Xg.opx_int .i64 (IntKind.wrap .i64 (([(1024 : Int), (16 : Int), (64 : Int), (256 : Int)].getD k (0 : Int) + (3 : Int)))) rfl (fun _ => by kernel_rfl) (Xg.wrap_i64_in (by omega)) ?_))
  have ht := start_tm hσ hk ha xx2 xx3 xx4 xx5 xx6 xh2_0 xh3_0 xh4_0 xh5_0 xh6_0 xh6_1
  rw [← xh7_0] at ht
  have hs0 : ∀ p σ s, Tm k a a 0 σ.counter 4 σ → σ.counter % dU k = 4 → Does Tryd.prog 16 [pt p, .int .i64 2] [PoR p σ s] (RetE (fun x : Po => Tm k a a 0 x.counter 0 x ∧ x.counter = σ.counter ∧ x.counter % dU k = 4 ∧ x.Wf) (fun _ => .int .i64 0) (fun x => [PoR p x s])) :=
    fun p σ s ht hd => (take_d p σ s 2 (by omega)).mono fun _ _ ⟨e1, e2⟩ => ⟨{ σ with requests := takeI σ.requests 2 }, ⟨ht.take, rfl, hd, ht.take.wf⟩, e1, e2⟩
  have hrd4 : ∀ p σ s, σ.Wf → Does Tryd.prog 19 [pt p, .int .i64 65285] [PoR p σ s] (Ret (.tuple #[.int .i64 σ.timer, .int .i64 0]) [PoR p σ s]) := fun p σ s h => read_4 p σ h s
  have hrd3 : ∀ p σ s, σ.Wf → Does Tryd.prog 19 [pt p, .int .i64 65284] [PoR p σ s] (Ret (.tuple #[.int .i64 (σ.counter / 256), .int .i64 0]) [PoR p σ s]) := fun p σ s h => by
    have hc := h.counter
    have := read_3 p σ h s
    rwa [show rdI 3 σ = σ.counter / 256 from wrap_u8_in (by omega)] at this
  clear hm hpk hpa
  (focus
    refine Xg.ops_op (by kernel_rfl) (Xg.opx_callE' [0, 3, 1] (fun xx8 => [PoS xx1.fst xx8.fst xx8.snd.fst xx8.snd.snd.fst xx8.snd.snd.snd, bts xx8.snd.fst xx8.snd.snd.fst xx8.snd.snd.snd, Drv te, row xb1 (3 : TypeId) [Value.int IntKind.i64 (1024 : Int), Value.int IntKind.i64 (16 : Int), Value.int IntKind.i64 (64 : Int), Value.int IntKind.i64 (256 : Int)], A]) (fun _ => by kernel_rfl) (@hs1 (xx1.fst) (xx7) (xx1.snd.fst) (xx1.snd.snd) (xs) (by omega) (by omega)) (by kernel_rfl) (by kernel_rfl) (by kernel_rfl) fun xx8 xh8 => ?_)
    try dsimp only at xh8
    obtain ⟨xh8_0, xh8_1, xh8_2, xh8_3, xh8_4, xh8_5, xh8_6⟩ := xh8
    refine Xg.ops_op (by kernel_rfl) (Xg.opx_pure ((Value.int IntKind.i64 (0 : Int))) rfl (fun _ => by kernel_rfl) ?_)
    refine Xg.ops_nil ?_
    refine Xg.at_seq ?_
    refine Xg.at_seq ?_
    refine Xg.at_region ?_
    refine Xg.ops_op (by kernel_rfl) (Xg.opx_pure ((Value.int IntKind.i64 (0 : Int))) rfl (fun _ => by kernel_rfl) ?_)
    refine Xg.ops_op (by kernel_rfl) (Xg.opx_pure ((Value.bool false)) rfl (fun _ => by kernel_rfl) ?_)
    refine Xg.ops_op (by kernel_rfl) (Xg.opx_pure ((Value.bool false)) rfl (fun _ => by kernel_rfl) ?_)
    refine Xg.ops_op (by kernel_rfl) (Xg.opx_pure ((Value.int IntKind.i64 (0 : Int))) rfl (fun _ => by kernel_rfl) ?_)
    refine Xg.ops_op (by kernel_rfl) (Xg.opx_pure ((Value.bool false)) rfl (fun _ => by kernel_rfl) ?_)
    refine Xg.ops_op (by kernel_rfl) (Xg.opx_pure ((Value.bool false)) rfl (fun _ => by kernel_rfl) ?_)
    refine Xg.ops_op (by kernel_rfl) (Xg.opx_pure ((Value.bool false)) rfl (fun _ => by kernel_rfl) ?_)
    refine Xg.ops_op (by kernel_rfl) (Xg.opx_pure ((Value.int IntKind.i64 (0 : Int))) rfl (fun _ => by kernel_rfl) ?_)
    refine Xg.ops_op (by kernel_rfl) (Xg.opx_pure ((Value.bool false)) rfl (fun _ => by kernel_rfl) ?_)
    refine Xg.ops_op (by kernel_rfl) (Xg.opx_pure ((Value.bool false)) rfl (fun _ => by kernel_rfl) ?_)
    refine Xg.ops_op (by kernel_rfl) (Xg.opx_pure ((Value.bool false)) rfl (fun _ => by kernel_rfl) ?_)
    refine Xg.ops_op (by kernel_rfl) (Xg.opx_pure ((Value.int IntKind.i64 (0 : Int))) rfl (fun _ => by kernel_rfl) ?_)
    refine Xg.ops_op (by kernel_rfl) (Xg.opx_pure ((Value.bool false)) rfl (fun _ => by kernel_rfl) ?_)
    refine Xg.ops_op (by kernel_rfl) (Xg.opx_pure ((Value.bool false)) rfl (fun _ => by kernel_rfl) ?_)
    refine Xg.ops_op (by kernel_rfl) (Xg.opx_pure ((Value.bool false)) rfl (fun _ => by kernel_rfl) ?_)
    refine Xg.ops_op (by kernel_rfl) (Xg.opx_pure ((Value.int IntKind.i64 (0 : Int))) rfl (fun _ => by kernel_rfl) ?_)
    refine Xg.ops_op (by kernel_rfl) (Xg.opx_pure ((Value.bool false)) rfl (fun _ => by kernel_rfl) ?_)
    refine Xg.ops_op (by kernel_rfl) (Xg.opx_pure ((Value.bool false)) rfl (fun _ => by kernel_rfl) ?_)
    refine Xg.ops_op (by kernel_rfl) (Xg.opx_pure ((Value.bool false)) rfl (fun _ => by kernel_rfl) ?_)
    refine Xg.ops_op (by kernel_rfl) (Xg.opx_pure ((Value.int IntKind.i64 (0 : Int))) rfl (fun _ => by kernel_rfl) ?_)
    refine Xg.ops_op (by kernel_rfl) (Xg.opx_pure ((Value.bool false)) rfl (fun _ => by kernel_rfl) ?_)
    refine Xg.ops_op (by kernel_rfl) (Xg.opx_pure ((Value.bool false)) rfl (fun _ => by kernel_rfl) ?_)
    refine Xg.ops_op (by kernel_rfl) (Xg.opx_pure ((Value.bool false)) rfl (fun _ => by kernel_rfl) ?_)
    refine Xg.ops_op (by kernel_rfl) (Xg.opx_pure ((Value.int IntKind.i64 (0 : Int))) rfl (fun _ => by kernel_rfl) ?_)
    refine Xg.ops_op (by kernel_rfl) (Xg.opx_pure ((Value.bool false)) rfl (fun _ => by kernel_rfl) ?_)
    refine Xg.ops_op (by kernel_rfl) (Xg.opx_pure ((Value.bool false)) rfl (fun _ => by kernel_rfl) ?_)
    refine Xg.ops_op (by kernel_rfl) (Xg.opx_pure ((Value.bool false)) rfl (fun _ => by kernel_rfl) ?_)
    refine Xg.ops_op (by kernel_rfl) (Xg.opx_pure ((Value.pointer (some (Addr.mk xx1.fst (0 : Nat) none)))) rfl (fun _ => by kernel_rfl) ?_)
    refine Xg.ops_op (by kernel_rfl) (Xg.opx_call1' [0] [PoR xx1.fst xx8.fst (Value.slice xx8.snd.fst xx8.snd.snd.snd.length xx8.snd.snd.fst), bts xx8.snd.fst xx8.snd.snd.fst xx8.snd.snd.snd, Drv te, row xb1 (3 : TypeId) [Value.int IntKind.i64 (1024 : Int), Value.int IntKind.i64 (16 : Int), Value.int IntKind.i64 (64 : Int), Value.int IntKind.i64 (256 : Int)], A] (fun _ => by kernel_rfl) (@Go.Proofs.YtncdmccdclhokaaDoor.requests_d (xx1.fst) (xx8.fst) ((Value.slice xx8.snd.fst xx8.snd.snd.snd.length xx8.snd.snd.fst)) (by omega)) (by kernel_rfl) (by kernel_rfl) (by kernel_rfl) ?_)
    refine Xg.ops_op (by kernel_rfl) (Xg.opx_pure (.int .i64 (Xg.band .i64 (xx8.fst.requests) (((4 : Int))))) rfl (fun _ => by kernel_rfl) ?_)
    refine Xg.ops_op (by kernel_rfl) (Xg.opx_pure (.bool (!decide (((band IntKind.i64 xx8.fst.requests (4 : Int)) : Int) = ((0 : Int))))) rfl (fun _ => by kernel_rfl) ?_)
    refine Xg.ops_op (by kernel_rfl) (Xg.opx_pure ((Value.bool !decide (band IntKind.i64 xx8.fst.requests (4 : Int) = (0 : Int)))) rfl (fun _ => by kernel_rfl) ?_)
    refine Xg.ops_nil ?_
    refine Xg.at_false (t := !decide ((band IntKind.i64 xx8.fst.requests (4 : Int) = (0 : Int)))) (by kernel_rfl) (by rw [decide_eq_true (by omega)]; rfl) ?_
    refine Xg.at_skip ?_
    refine Xg.at_seq ?_
    refine Xg.at_region ?_
    refine Xg.ops_op (by kernel_rfl) (Xg.opx_pure ((Value.pointer (some (Addr.mk xx1.fst (0 : Nat) none)))) rfl (fun _ => by kernel_rfl) ?_)
    refine Xg.ops_op (by kernel_rfl) (Xg.opx_callE' [0, 1, 2] (fun xx9 => [PoS xx1.fst xx9.fst xx9.snd.fst xx9.snd.snd.fst xx9.snd.snd.snd, bts xx9.snd.fst xx9.snd.snd.fst xx9.snd.snd.snd, Drv te, row xb1 (3 : TypeId) [Value.int IntKind.i64 (1024 : Int), Value.int IntKind.i64 (16 : Int), Value.int IntKind.i64 (64 : Int), Value.int IntKind.i64 (256 : Int)], A]) (fun _ => by kernel_rfl) (@hs3 (xx1.fst) (xx8.fst) (xx8.snd.fst) (xx8.snd.snd.fst) (xx8.snd.snd.snd) (by omega) (by omega) (by omega)) (by kernel_rfl) (by kernel_rfl) (by kernel_rfl) fun xx9 xh9 => ?_)
    try dsimp only at xh9
    obtain ⟨xh9_0, xh9_1, xh9_2, xh9_3, xh9_4, xh9_5, xh9_6, xh9_7, xh9_8⟩ := xh9
    refine Xg.ops_op (by kernel_rfl) (Xg.opx_pure ((Value.int IntKind.i64 (0 : Int))) rfl (fun _ => by kernel_rfl) ?_)
    refine Xg.ops_nil ?_
    refine Xg.at_seq ?_
    refine Xg.at_region ?_
    refine Xg.ops_op (by kernel_rfl) (Xg.opx_pure ((Value.int IntKind.i64 ([(1024 : Int), (16 : Int), (64 : Int), (256 : Int)].getD k (0 : Int)))) rfl (fun _ => by kernel_rfl) ?_)
    refine Xg.ops_op (by kernel_rfl) (Xg.opx_int .i64 (IntKind.wrap .i64 (([(1024 : Int), (16 : Int), (64 : Int), (256 : Int)].getD k (0 : Int) + (4 : Int)))) rfl (fun _ => by kernel_rfl) (Xg.wrap_i64_in (by omega)) ?_)
    refine Xg.ops_op (by kernel_rfl) (Xg.opx_pure ((Value.int IntKind.i64 ([(1024 : Int), (16 : Int), (64 : Int), (256 : Int)].getD k (0 : Int) + (4 : Int)))) rfl (fun _ => by kernel_rfl) ?_)
    refine Xg.ops_nil ?_
    refine Xg.at_seq ?_
    refine Xg.at_region ?_
    refine Xg.ops_op (by kernel_rfl) (Xg.opx_pure ((Value.pointer (some (Addr.mk xx1.fst (0 : Nat) none)))) rfl (fun _ => by kernel_rfl) ?_)
    refine Xg.ops_op (by kernel_rfl) (Xg.opx_call1' [0] [PoR xx1.fst xx9.fst (Value.slice xx9.snd.fst xx9.snd.snd.snd.length xx9.snd.snd.fst), bts xx9.snd.fst xx9.snd.snd.fst xx9.snd.snd.snd, Drv te, row xb1 (3 : TypeId) [Value.int IntKind.i64 (1024 : Int), Value.int IntKind.i64 (16 : Int), Value.int IntKind.i64 (64 : Int), Value.int IntKind.i64 (256 : Int)], A] (fun _ => by kernel_rfl) (@hrd4 (xx1.fst) (xx9.fst) ((Value.slice xx9.snd.fst xx9.snd.snd.snd.length xx9.snd.snd.fst)) (by omega)) (by kernel_rfl) (by kernel_rfl) (by kernel_rfl) ?_)
    refine Xg.ops_op (by kernel_rfl) (Xg.opx_pure ((Value.tuple #[Value.int IntKind.i64 xx9.fst.timer, Value.int IntKind.i64 (0 : Int)])) rfl (fun _ => by kernel_rfl) ?_)
    refine Xg.ops_op (by kernel_rfl) (Xg.opx_pure ((Value.int IntKind.i64 xx9.fst.timer)) rfl (fun _ => by kernel_rfl) ?_)
    refine Xg.ops_op (by kernel_rfl) (Xg.opx_pure ((Value.int IntKind.i64 (0 : Int))) rfl (fun _ => by kernel_rfl) ?_)
    refine Xg.ops_op (by kernel_rfl) (Xg.opx_pure ((Value.int IntKind.i64 xx9.fst.timer)) rfl (fun _ => by kernel_rfl) ?_)
    refine Xg.ops_op (by kernel_rfl) (Xg.opx_pure ((Value.int IntKind.i64 (0 : Int))) rfl (fun _ => by kernel_rfl) ?_)
    refine Xg.ops_nil ?_
    refine Xg.at_seq ?_
    refine Xg.at_seq ?_
    refine Xg.at_region ?_
    refine Xg.ops_op (by kernel_rfl) (Xg.opx_pure ((Value.int IntKind.i64 (0 : Int))) rfl (fun _ => by kernel_rfl) ?_)
    refine Xg.ops_op (by kernel_rfl) (Xg.opx_pure ((Value.bool false)) rfl (fun _ => by kernel_rfl) ?_)
    refine Xg.ops_op (by kernel_rfl) (Xg.opx_pure ((Value.bool false)) rfl (fun _ => by kernel_rfl) ?_)
    refine Xg.ops_op (by kernel_rfl) (Xg.opx_pure ((Value.int IntKind.i64 (0 : Int))) rfl (fun _ => by kernel_rfl) ?_)
    refine Xg.ops_op (by kernel_rfl) (Xg.opx_pure ((Value.bool false)) rfl (fun _ => by kernel_rfl) ?_)
    refine Xg.ops_op (by kernel_rfl) (Xg.opx_pure ((Value.bool false)) rfl (fun _ => by kernel_rfl) ?_)
    refine Xg.ops_op (by kernel_rfl) (Xg.opx_pure ((Value.bool false)) rfl (fun _ => by kernel_rfl) ?_)
    refine Xg.ops_op (by kernel_rfl) (Xg.opx_pure ((Value.int IntKind.i64 xx9.fst.timer)) rfl (fun _ => by kernel_rfl) ?_)
    refine Xg.ops_op (by kernel_rfl) (Xg.opx_pure ((Value.int IntKind.i64 (↑a : Int))) rfl (fun _ => by kernel_rfl) ?_)
    refine Xg.ops_op (by kernel_rfl) (Xg.opx_pure (.bool (!decide ((xx9.fst.timer : Int) = ((↑a : Int))))) rfl (fun _ => by kernel_rfl) ?_)
    refine Xg.ops_op (by kernel_rfl) (Xg.opx_pure ((Value.bool !decide (xx9.fst.timer = (↑a : Int)))) rfl (fun _ => by kernel_rfl) ?_)
    refine Xg.ops_op (by kernel_rfl) (Xg.opx_pure ((Value.bool !decide (xx9.fst.timer = (↑a : Int)))) rfl (fun _ => by kernel_rfl) ?_)
    refine Xg.ops_flag (j := 108) (c := (!decide (xx9.fst.timer = (↑a : Int)))) (by kernel_rfl) (fun xh10 => absurd xh10 (by rw [decide_eq_true (p := (xx9.fst.timer = (↑a : Int))) (by omega)]; decide)) (fun _ => ?_)
    refine Xg.ops_op (by kernel_rfl) (Xg.opx_pure ((Value.pointer (some (Addr.mk xx1.fst (0 : Nat) none)))) rfl (fun _ => by kernel_rfl) ?_)
    refine Xg.ops_op (by kernel_rfl) (Xg.opx_call1' [0] [PoR xx1.fst xx9.fst (Value.slice xx9.snd.fst xx9.snd.snd.snd.length xx9.snd.snd.fst), bts xx9.snd.fst xx9.snd.snd.fst xx9.snd.snd.snd, Drv te, row xb1 (3 : TypeId) [Value.int IntKind.i64 (1024 : Int), Value.int IntKind.i64 (16 : Int), Value.int IntKind.i64 (64 : Int), Value.int IntKind.i64 (256 : Int)], A] (fun _ => by kernel_rfl) (@Go.Proofs.YtncdmccdclhokaaDoor.requests_d (xx1.fst) (xx9.fst) ((Value.slice xx9.snd.fst xx9.snd.snd.snd.length xx9.snd.snd.fst)) (by omega)) (by kernel_rfl) (by kernel_rfl) (by kernel_rfl) ?_)
    refine Xg.ops_op (by kernel_rfl) (Xg.opx_pure (.int .i64 (Xg.band .i64 (xx9.fst.requests) (((4 : Int))))) rfl (fun _ => by kernel_rfl) ?_)
    refine Xg.ops_op (by kernel_rfl) (Xg.opx_pure (.bool (decide (((band IntKind.i64 xx9.fst.requests (4 : Int)) : Int) = ((0 : Int))))) rfl (fun _ => by kernel_rfl) ?_)
    refine Xg.ops_op (by kernel_rfl) (Xg.opx_pure ((Value.bool (decide (band IntKind.i64 xx9.fst.requests (4 : Int) = (0 : Int))))) rfl (fun _ => by kernel_rfl) ?_)
    refine Xg.ops_nil ?_
    refine Xg.at_false (t := decide ((band IntKind.i64 xx9.fst.requests (4 : Int) = (0 : Int)))) (by kernel_rfl) (decide_eq_false (by omega)) ?_
    refine Xg.at_skip ?_
    refine Xg.at_seq ?_
    refine Xg.at_seq ?_
    refine Xg.at_region ?_
    refine Xg.ops_op (by kernel_rfl) (Xg.opx_pure ((Value.int IntKind.i64 (0 : Int))) rfl (fun _ => by kernel_rfl) ?_)
    refine Xg.ops_nil ?_
    refine Xg.at_block ?_)
  clear hs1
  (focus
    refine Xg.at_keep [0, 1, 2, 4] (by kernel_rfl) ?_
    refine Xg.at_rounds_inv (α := (Nat × Int × Po × Option Addr × Nat × List Int) × (Nat → Value)) (fun x => ((fun x => x.1 ≤ 1 + m ∧ Tm k a a 0 x.2.2.1.counter 4 x.2.2.1 ∧ x.2.2.1.counter % dU k = 4 ∧ x.2.2.1.counter = x.2.1 % 65536 ∧ 0 ≤ x.2.1 ∧ x.2.1 ≤ 1028 + x.1 * 262144 ∧ x.2.2.2.2.2.length ≤ 256) : (Nat × Int × Po × Option Addr × Nat × List Int) → Prop) x.1) (fun x => ((fun x => 1 + m - x.1) : (Nat × Int × Po × Option Addr × Nat × List Int) → Nat) x.1) (fun x => Xg.headT [Value.slice la n lc, Value.int IntKind.i64 v, Value.int IntKind.i64 v2, Value.int IntKind.i64 v3, Value.tuple #[], Value.tuple #[], Value.tuple #[], Value.tuple #[], Value.bool false, Value.pointer (some (Addr.mk xx1.fst (0 : Nat) none)), Value.int IntKind.i64 (↑k : Int), Value.int IntKind.i64 (↑a : Int), Value.int IntKind.i64 ([(1024 : Int), (16 : Int), (64 : Int), (256 : Int)].getD k (0 : Int)), Value.int IntKind.i64 (0 : Int), Value.int IntKind.i64 (0 : Int), Value.int IntKind.i64 (0 : Int), Value.int IntKind.i64 (0 : Int), Value.int IntKind.i64 (0 : Int), Value.int IntKind.i64 (0 : Int), Value.int IntKind.i64 (0 : Int), Value.int IntKind.i64 ([(1024 : Int), (16 : Int), (64 : Int), (256 : Int)].getD k (0 : Int) + (4 : Int)), Value.int IntKind.i64 xx9.fst.timer, Value.int IntKind.i64 (0 : Int), Value.tuple #[], Value.tuple #[], Value.slice la n lc, Value.pointer (some (Addr.mk xx1.fst (0 : Nat) none)), Value.pointer (some (Addr.mk xx1.fst (0 : Nat) none)), Value.bool false, Value.int IntKind.i64 v, Value.int IntKind.i64 (↑k : Int), Value.int IntKind.i64 v2, Value.int IntKind.i64 (↑a : Int), Value.slice (some (Addr.mk xb1 (0 : Nat) none)) (4 : Nat) (4 : Nat), Value.int IntKind.i64 (↑k : Int), Value.pointer (some (Addr.mk xb1 k none)), Value.int IntKind.i64 ([(1024 : Int), (16 : Int), (64 : Int), (256 : Int)].getD k (0 : Int)), Value.pointer (some (Addr.mk xx1.fst (0 : Nat) none)), Value.int IntKind.i64 (0 : Int), Value.pointer (some (Addr.mk xx1.fst (0 : Nat) none)), Value.int IntKind.i64 (0 : Int), Value.pointer (some (Addr.mk xx1.fst (0 : Nat) none)), Value.int IntKind.i64 (0 : Int), Value.pointer (some (Addr.mk xx1.fst (0 : Nat) none)), Value.int IntKind.i64 (↑a : Int), Value.int IntKind.i64 (0 : Int), Value.pointer (some (Addr.mk xx1.fst (0 : Nat) none)), Value.int IntKind.i64 (↑k : Int), Value.int IntKind.i64 ((4 : Int) + (↑k : Int)), Value.int IntKind.i64 (0 : Int), Value.pointer (some (Addr.mk xx1.fst (0 : Nat) none)), Value.int IntKind.i64 (0 : Int), Value.pointer (some (Addr.mk xx1.fst (0 : Nat) none)), Value.int IntKind.i64 ([(1024 : Int), (16 : Int), (64 : Int), (256 : Int)].getD k (0 : Int)), Value.int IntKind.i64 ([(1024 : Int), (16 : Int), (64 : Int), (256 : Int)].getD k (0 : Int) + (3 : Int)), Value.int IntKind.i64 (0 : Int), Value.int IntKind.i64 (0 : Int), Value.bool false, Value.bool false, Value.int IntKind.i64 (0 : Int), Value.bool false, Value.bool false, Value.bool false, Value.int IntKind.i64 (0 : Int), Value.bool false, Value.bool false, Value.bool false, Value.int IntKind.i64 (0 : Int), Value.bool false, Value.bool false, Value.bool false, Value.int IntKind.i64 (0 : Int), Value.bool false, Value.bool false, Value.bool false, Value.int IntKind.i64 (0 : Int), Value.bool false, Value.bool false, Value.bool false, Value.int IntKind.i64 (0 : Int), Value.bool false, Value.bool false, Value.bool false, Value.pointer (some (Addr.mk xx1.fst (0 : Nat) none)), Value.int IntKind.i64 xx8.fst.requests, Value.int IntKind.i64 (band IntKind.i64 xx8.fst.requests (4 : Int)), Value.bool !decide (band IntKind.i64 xx8.fst.requests (4 : Int) = (0 : Int)), Value.bool !decide (band IntKind.i64 xx8.fst.requests (4 : Int) = (0 : Int)), Value.pointer (some (Addr.mk xx1.fst (0 : Nat) none)), Value.int IntKind.i64 (0 : Int), Value.int IntKind.i64 ([(1024 : Int), (16 : Int), (64 : Int), (256 : Int)].getD k (0 : Int)), Value.int IntKind.i64 ([(1024 : Int), (16 : Int), (64 : Int), (256 : Int)].getD k (0 : Int) + (4 : Int)), Value.tuple #[Value.int IntKind.i64 xx9.fst.timer, Value.int IntKind.i64 (0 : Int)], Value.pointer (some (Addr.mk xx1.fst (0 : Nat) none)), Value.tuple #[Value.int IntKind.i64 xx9.fst.timer, Value.int IntKind.i64 (0 : Int)], Value.int IntKind.i64 xx9.fst.timer, Value.int IntKind.i64 (0 : Int), Value.int IntKind.i64 (0 : Int), Value.bool false, Value.bool false, Value.int IntKind.i64 (0 : Int), Value.bool false, Value.bool false, Value.bool false, Value.int IntKind.i64 xx9.fst.timer, Value.int IntKind.i64 (↑a : Int), Value.bool !decide (xx9.fst.timer = (↑a : Int)), Value.bool !decide (xx9.fst.timer = (↑a : Int)), Value.bool false, Value.pointer (some (Addr.mk xx1.fst (0 : Nat) none)), Value.int IntKind.i64 xx9.fst.requests, Value.int IntKind.i64 (band IntKind.i64 xx9.fst.requests (4 : Int)), Value.bool (decide (band IntKind.i64 xx9.fst.requests (4 : Int) = (0 : Int))), Value.bool (decide (band IntKind.i64 xx9.fst.requests (4 : Int) = (0 : Int))), Value.tuple #[], Value.tuple #[], Value.tuple #[], Value.tuple #[], Value.tuple #[], Value.tuple #[], Value.tuple #[], Value.tuple #[], Value.tuple #[], Value.tuple #[], Value.tuple #[], Value.tuple #[], Value.tuple #[], Value.tuple #[], Value.tuple #[], Value.tuple #[], Value.tuple #[], Value.tuple #[], Value.tuple #[], Value.tuple #[], Value.tuple #[], Value.tuple #[], Value.tuple #[], Value.tuple #[], Value.tuple #[], Value.tuple #[], Value.tuple #[], Value.tuple #[], Value.tuple #[], Value.tuple #[], Value.tuple #[], Value.tuple #[], Value.tuple #[], Value.tuple #[], Value.tuple #[], Value.tuple #[], Value.tuple #[], Value.tuple #[], Value.tuple #[], Value.tuple #[], Value.tuple #[], Value.tuple #[], Value.tuple #[], Value.tuple #[], Value.tuple #[], Value.tuple #[], Value.tuple #[], Value.tuple #[], Value.tuple #[], Value.tuple #[], Value.tuple #[], Value.tuple #[], Value.tuple #[], Value.tuple #[], Value.tuple #[], Value.tuple #[], Value.tuple #[], Value.tuple #[], Value.tuple #[], Value.tuple #[], Value.tuple #[]] [8, 14, 15, 16, 23, 114, 115, 116, 117, 118, 119, 120, 121, 122, 123, 124, 125, 126, 127, 128, 129, 130, 131, 132, 133, 134, 135, 136, 137, 138, 139, 140, 141, 142, 143, 144, 145, 146, 147, 148, 149, 150, 151, 152, 153, 154, 155, 156, 157, 158, 159, 160] (((fun x => [(20, .int .i64 x.2.1), (22, .int .i64 (x.1 : Nat))]) : (Nat × Int × Po × Option Addr × Nat × List Int) → List (Nat × Go.Value)) x.1) x.2) (fun x => ((fun x => [PoS xx1.1 x.2.2.1 x.2.2.2.1 x.2.2.2.2.1 x.2.2.2.2.2, bts x.2.2.2.1 x.2.2.2.2.1 x.2.2.2.2.2, (Drv te), A]) : (Nat × Int × Po × Option Addr × Nat × List Int) → List Go.Sl.HP) x.1) (((0, List.getD [(1024 : Int), 16, 64, 256] k 0 + 4, xx9)), fun j => ([Value.slice la n lc, Value.int IntKind.i64 v, Value.int IntKind.i64 v2, Value.int IntKind.i64 v3, Value.tuple #[], Value.tuple #[], Value.tuple #[], Value.tuple #[], Value.bool false, Value.pointer (some (Addr.mk xx1.fst (0 : Nat) none)), Value.int IntKind.i64 (↑k : Int), Value.int IntKind.i64 (↑a : Int), Value.int IntKind.i64 ([(1024 : Int), (16 : Int), (64 : Int), (256 : Int)].getD k (0 : Int)), Value.int IntKind.i64 (0 : Int), Value.int IntKind.i64 (0 : Int), Value.int IntKind.i64 (0 : Int), Value.int IntKind.i64 (0 : Int), Value.int IntKind.i64 (0 : Int), Value.int IntKind.i64 (0 : Int), Value.int IntKind.i64 (0 : Int), Value.int IntKind.i64 ([(1024 : Int), (16 : Int), (64 : Int), (256 : Int)].getD k (0 : Int) + (4 : Int)), Value.int IntKind.i64 xx9.fst.timer, Value.int IntKind.i64 (0 : Int), Value.tuple #[], Value.tuple #[], Value.slice la n lc, Value.pointer (some (Addr.mk xx1.fst (0 : Nat) none)), Value.pointer (some (Addr.mk xx1.fst (0 : Nat) none)), Value.bool false, Value.int IntKind.i64 v, Value.int IntKind.i64 (↑k : Int), Value.int IntKind.i64 v2, Value.int IntKind.i64 (↑a : Int), Value.slice (some (Addr.mk xb1 (0 : Nat) none)) (4 : Nat) (4 : Nat), Value.int IntKind.i64 (↑k : Int), Value.pointer (some (Addr.mk xb1 k none)), Value.int IntKind.i64 ([(1024 : Int), (16 : Int), (64 : Int), (256 : Int)].getD k (0 : Int)), Value.pointer (some (Addr.mk xx1.fst (0 : Nat) none)), Value.int IntKind.i64 (0 : Int), Value.pointer (some (Addr.mk xx1.fst (0 : Nat) none)), Value.int IntKind.i64 (0 : Int), Value.pointer (some (Addr.mk xx1.fst (0 : Nat) none)), Value.int IntKind.i64 (0 : Int), Value.pointer (some (Addr.mk xx1.fst (0 : Nat) none)), Value.int IntKind.i64 (↑a : Int), Value.int IntKind.i64 (0 : Int), Value.pointer (some (Addr.mk xx1.fst (0 : Nat) none)), Value.int IntKind.i64 (↑k : Int), Value.int IntKind.i64 ((4 : Int) + (↑k : Int)), Value.int IntKind.i64 (0 : Int), Value.pointer (some (Addr.mk xx1.fst (0 : Nat) none)), Value.int IntKind.i64 (0 : Int), Value.pointer (some (Addr.mk xx1.fst (0 : Nat) none)), Value.int IntKind.i64 ([(1024 : Int), (16 : Int), (64 : Int), (256 : Int)].getD k (0 : Int)), Value.int IntKind.i64 ([(1024 : Int), (16 : Int), (64 : Int), (256 : Int)].getD k (0 : Int) + (3 : Int)), Value.int IntKind.i64 (0 : Int), Value.int IntKind.i64 (0 : Int), Value.bool false, Value.bool false, Value.int IntKind.i64 (0 : Int), Value.bool false, Value.bool false, Value.bool false, Value.int IntKind.i64 (0 : Int), Value.bool false, Value.bool false, Value.bool false, Value.int IntKind.i64 (0 : Int), Value.bool false, Value.bool false, Value.bool false, Value.int IntKind.i64 (0 : Int), Value.bool false, Value.bool false, Value.bool false, Value.int IntKind.i64 (0 : Int), Value.bool false, Value.bool false, Value.bool false, Value.int IntKind.i64 (0 : Int), Value.bool false, Value.bool false, Value.bool false, Value.pointer (some (Addr.mk xx1.fst (0 : Nat) none)), Value.int IntKind.i64 xx8.fst.requests, Value.int IntKind.i64 (band IntKind.i64 xx8.fst.requests (4 : Int)), Value.bool !decide (band IntKind.i64 xx8.fst.requests (4 : Int) = (0 : Int)), Value.bool !decide (band IntKind.i64 xx8.fst.requests (4 : Int) = (0 : Int)), Value.pointer (some (Addr.mk xx1.fst (0 : Nat) none)), Value.int IntKind.i64 (0 : Int), Value.int IntKind.i64 ([(1024 : Int), (16 : Int), (64 : Int), (256 : Int)].getD k (0 : Int)), Value.int IntKind.i64 ([(1024 : Int), (16 : Int), (64 : Int), (256 : Int)].getD k (0 : Int) + (4 : Int)), Value.tuple #[Value.int IntKind.i64 xx9.fst.timer, Value.int IntKind.i64 (0 : Int)], Value.pointer (some (Addr.mk xx1.fst (0 : Nat) none)), Value.tuple #[Value.int IntKind.i64 xx9.fst.timer, Value.int IntKind.i64 (0 : Int)], Value.int IntKind.i64 xx9.fst.timer, Value.int IntKind.i64 (0 : Int), Value.int IntKind.i64 (0 : Int), Value.bool false, Value.bool false, Value.int IntKind.i64 (0 : Int), Value.bool false, Value.bool false, Value.bool false, Value.int IntKind.i64 xx9.fst.timer, Value.int IntKind.i64 (↑a : Int), Value.bool !decide (xx9.fst.timer = (↑a : Int)), Value.bool !decide (xx9.fst.timer = (↑a : Int)), Value.bool false, Value.pointer (some (Addr.mk xx1.fst (0 : Nat) none)), Value.int IntKind.i64 xx9.fst.requests, Value.int IntKind.i64 (band IntKind.i64 xx9.fst.requests (4 : Int)), Value.bool (decide (band IntKind.i64 xx9.fst.requests (4 : Int) = (0 : Int))), Value.bool (decide (band IntKind.i64 xx9.fst.requests (4 : Int) = (0 : Int))), Value.tuple #[], Value.tuple #[], Value.tuple #[], Value.tuple #[], Value.tuple #[], Value.tuple #[], Value.tuple #[], Value.tuple #[], Value.tuple #[], Value.tuple #[], Value.tuple #[], Value.tuple #[], Value.tuple #[], Value.tuple #[], Value.tuple #[], Value.tuple #[], Value.tuple #[], Value.tuple #[], Value.tuple #[], Value.tuple #[], Value.tuple #[], Value.tuple #[], Value.tuple #[], Value.tuple #[], Value.tuple #[], Value.tuple #[], Value.tuple #[], Value.tuple #[], Value.tuple #[], Value.tuple #[], Value.tuple #[], Value.tuple #[], Value.tuple #[], Value.tuple #[], Value.tuple #[], Value.tuple #[], Value.tuple #[], Value.tuple #[], Value.tuple #[], Value.tuple #[], Value.tuple #[], Value.tuple #[], Value.tuple #[], Value.tuple #[], Value.tuple #[], Value.tuple #[], Value.tuple #[], Value.tuple #[], Value.tuple #[], Value.tuple #[], Value.tuple #[], Value.tuple #[], Value.tuple #[], Value.tuple #[], Value.tuple #[], Value.tuple #[], Value.tuple #[], Value.tuple #[], Value.tuple #[], Value.tuple #[], Value.tuple #[]] : List Value).getD j undef) (by kernel_rfl) (by kernel_rfl) ?_ ?_)
  · exact ⟨Nat.zero_le _, by assumption, by assumption, by dsimp only; omega, by dsimp only; omega, by dsimp only; omega, by assumption⟩
  rintro ⟨⟨i, cl, σ', a', c', xs'⟩, J⟩ ⟨hi, ht', hd, hcl, hc0, hc1, hxl'⟩ ih
  dsimp only at hi ht' hd hcl hc0 hc1 hxl'
  have hw' := ht'.wf
  have hq' := hw'.counter
  (focus
    refine Xg.At.same (T' := [Value.slice la n lc, Value.int IntKind.i64 v, Value.int IntKind.i64 v2, Value.int IntKind.i64 v3, Value.tuple #[], Value.tuple #[], Value.tuple #[], Value.tuple #[], ((i, cl, σ', a', c', xs'), J).snd (8 : Nat), Value.pointer (some (Addr.mk xx1.fst (0 : Nat) none)), Value.int IntKind.i64 (↑k : Int), Value.int IntKind.i64 (↑a : Int), Value.int IntKind.i64 ([(1024 : Int), (16 : Int), (64 : Int), (256 : Int)].getD k (0 : Int)), Value.int IntKind.i64 (0 : Int), ((i, cl, σ', a', c', xs'), J).snd (14 : Nat), ((i, cl, σ', a', c', xs'), J).snd (15 : Nat), ((i, cl, σ', a', c', xs'), J).snd (16 : Nat), Value.int IntKind.i64 (0 : Int), Value.int IntKind.i64 (0 : Int), Value.int IntKind.i64 (0 : Int), Value.int IntKind.i64 cl, Value.int IntKind.i64 xx9.fst.timer, Value.int IntKind.i64 (↑i : Int), ((i, cl, σ', a', c', xs'), J).snd (23 : Nat), Value.tuple #[], Value.slice la n lc, Value.pointer (some (Addr.mk xx1.fst (0 : Nat) none)), Value.pointer (some (Addr.mk xx1.fst (0 : Nat) none)), Value.bool false, Value.int IntKind.i64 v, Value.int IntKind.i64 (↑k : Int), Value.int IntKind.i64 v2, Value.int IntKind.i64 (↑a : Int), Value.slice (some (Addr.mk xb1 (0 : Nat) none)) (4 : Nat) (4 : Nat), Value.int IntKind.i64 (↑k : Int), Value.pointer (some (Addr.mk xb1 k none)), Value.int IntKind.i64 ([(1024 : Int), (16 : Int), (64 : Int), (256 : Int)].getD k (0 : Int)), Value.pointer (some (Addr.mk xx1.fst (0 : Nat) none)), Value.int IntKind.i64 (0 : Int), Value.pointer (some (Addr.mk xx1.fst (0 : Nat) none)), Value.int IntKind.i64 (0 : Int), Value.pointer (some (Addr.mk xx1.fst (0 : Nat) none)), Value.int IntKind.i64 (0 : Int), Value.pointer (some (Addr.mk xx1.fst (0 : Nat) none)), Value.int IntKind.i64 (↑a : Int), Value.int IntKind.i64 (0 : Int), Value.pointer (some (Addr.mk xx1.fst (0 : Nat) none)), Value.int IntKind.i64 (↑k : Int), Value.int IntKind.i64 ((4 : Int) + (↑k : Int)), Value.int IntKind.i64 (0 : Int), Value.pointer (some (Addr.mk xx1.fst (0 : Nat) none)), Value.int IntKind.i64 (0 : Int), Value.pointer (some (Addr.mk xx1.fst (0 : Nat) none)), Value.int IntKind.i64 ([(1024 : Int), (16 : Int), (64 : Int), (256 : Int)].getD k (0 : Int)), Value.int IntKind.i64 ([(1024 : Int), (16 : Int), (64 : Int), (256 : Int)].getD k (0 : Int) + (3 : Int)), Value.int IntKind.i64 (0 : Int), Value.int IntKind.i64 (0 : Int), Value.bool false, Value.bool false, Value.int IntKind.i64 (0 : Int), Value.bool false, Value.bool false, Value.bool false, Value.int IntKind.i64 (0 : Int), Value.bool false, Value.bool false, Value.bool false, Value.int IntKind.i64 (0 : Int), Value.bool false, Value.bool false, Value.bool false, Value.int IntKind.i64 (0 : Int), Value.bool false, Value.bool false, Value.bool false, Value.int IntKind.i64 (0 : Int), Value.bool false, Value.bool false, Value.bool false, Value.int IntKind.i64 (0 : Int), Value.bool false, Value.bool false, Value.bool false, Value.pointer (some (Addr.mk xx1.fst (0 : Nat) none)), Value.int IntKind.i64 xx8.fst.requests, Value.int IntKind.i64 (band IntKind.i64 xx8.fst.requests (4 : Int)), Value.bool !decide (band IntKind.i64 xx8.fst.requests (4 : Int) = (0 : Int)), Value.bool !decide (band IntKind.i64 xx8.fst.requests (4 : Int) = (0 : Int)), Value.pointer (some (Addr.mk xx1.fst (0 : Nat) none)), Value.int IntKind.i64 (0 : Int), Value.int IntKind.i64 ([(1024 : Int), (16 : Int), (64 : Int), (256 : Int)].getD k (0 : Int)), Value.int IntKind.i64 ([(1024 : Int), (16 : Int), (64 : Int), (256 : Int)].getD k (0 : Int) + (4 : Int)), Value.tuple #[Value.int IntKind.i64 xx9.fst.timer, Value.int IntKind.i64 (0 : Int)], Value.pointer (some (Addr.mk xx1.fst (0 : Nat) none)), Value.tuple #[Value.int IntKind.i64 xx9.fst.timer, Value.int IntKind.i64 (0 : Int)], Value.int IntKind.i64 xx9.fst.timer, Value.int IntKind.i64 (0 : Int), Value.int IntKind.i64 (0 : Int), Value.bool false, Value.bool false, Value.int IntKind.i64 (0 : Int), Value.bool false, Value.bool false, Value.bool false, Value.int IntKind.i64 xx9.fst.timer, Value.int IntKind.i64 (↑a : Int), Value.bool !decide (xx9.fst.timer = (↑a : Int)), Value.bool !decide (xx9.fst.timer = (↑a : Int)), Value.bool false, Value.pointer (some (Addr.mk xx1.fst (0 : Nat) none)), Value.int IntKind.i64 xx9.fst.requests, Value.int IntKind.i64 (band IntKind.i64 xx9.fst.requests (4 : Int)), Value.bool (decide (band IntKind.i64 xx9.fst.requests (4 : Int) = (0 : Int))), Value.bool (decide (band IntKind.i64 xx9.fst.requests (4 : Int) = (0 : Int))), ((i, cl, σ', a', c', xs'), J).snd (114 : Nat), ((i, cl, σ', a', c', xs'), J).snd (115 : Nat), ((i, cl, σ', a', c', xs'), J).snd (116 : Nat), ((i, cl, σ', a', c', xs'), J).snd (117 : Nat), ((i, cl, σ', a', c', xs'), J).snd (118 : Nat), ((i, cl, σ', a', c', xs'), J).snd (119 : Nat), ((i, cl, σ', a', c', xs'), J).snd (120 : Nat), ((i, cl, σ', a', c', xs'), J).snd (121 : Nat), ((i, cl, σ', a', c', xs'), J).snd (122 : Nat), ((i, cl, σ', a', c', xs'), J).snd (123 : Nat), ((i, cl, σ', a', c', xs'), J).snd (124 : Nat), ((i, cl, σ', a', c', xs'), J).snd (125 : Nat), ((i, cl, σ', a', c', xs'), J).snd (126 : Nat), ((i, cl, σ', a', c', xs'), J).snd (127 : Nat), ((i, cl, σ', a', c', xs'), J).snd (128 : Nat), ((i, cl, σ', a', c', xs'), J).snd (129 : Nat), ((i, cl, σ', a', c', xs'), J).snd (130 : Nat), ((i, cl, σ', a', c', xs'), J).snd (131 : Nat), ((i, cl, σ', a', c', xs'), J).snd (132 : Nat), ((i, cl, σ', a', c', xs'), J).snd (133 : Nat), ((i, cl, σ', a', c', xs'), J).snd (134 : Nat), ((i, cl, σ', a', c', xs'), J).snd (135 : Nat), ((i, cl, σ', a', c', xs'), J).snd (136 : Nat), ((i, cl, σ', a', c', xs'), J).snd (137 : Nat), ((i, cl, σ', a', c', xs'), J).snd (138 : Nat), ((i, cl, σ', a', c', xs'), J).snd (139 : Nat), ((i, cl, σ', a', c', xs'), J).snd (140 : Nat), ((i, cl, σ', a', c', xs'), J).snd (141 : Nat), ((i, cl, σ', a', c', xs'), J).snd (142 : Nat), ((i, cl, σ', a', c', xs'), J).snd (143 : Nat), ((i, cl, σ', a', c', xs'), J).snd (144 : Nat), ((i, cl, σ', a', c', xs'), J).snd (145 : Nat), ((i, cl, σ', a', c', xs'), J).snd (146 : Nat), ((i, cl, σ', a', c', xs'), J).snd (147 : Nat), ((i, cl, σ', a', c', xs'), J).snd (148 : Nat), ((i, cl, σ', a', c', xs'), J).snd (149 : Nat), ((i, cl, σ', a', c', xs'), J).snd (150 : Nat), ((i, cl, σ', a', c', xs'), J).snd (151 : Nat), ((i, cl, σ', a', c', xs'), J).snd (152 : Nat), ((i, cl, σ', a', c', xs'), J).snd (153 : Nat), ((i, cl, σ', a', c', xs'), J).snd (154 : Nat), ((i, cl, σ', a', c', xs'), J).snd (155 : Nat), ((i, cl, σ', a', c', xs'), J).snd (156 : Nat), ((i, cl, σ', a', c', xs'), J).snd (157 : Nat), ((i, cl, σ', a', c', xs'), J).snd (158 : Nat), ((i, cl, σ', a', c', xs'), J).snd (159 : Nat), ((i, cl, σ', a', c', xs'), J).snd (160 : Nat), Value.tuple #[], Value.tuple #[], Value.tuple #[], Value.tuple #[], Value.tuple #[], Value.tuple #[], Value.tuple #[], Value.tuple #[], Value.tuple #[], Value.tuple #[], Value.tuple #[], Value.tuple #[], Value.tuple #[], Value.tuple #[]]) (L' := [PoS xx1.fst ((i, cl, σ', a', c', xs'), J).fst.snd.snd.fst ((i, cl, σ', a', c', xs'), J).fst.snd.snd.snd.fst ((i, cl, σ', a', c', xs'), J).fst.snd.snd.snd.snd.fst ((i, cl, σ', a', c', xs'), J).fst.snd.snd.snd.snd.snd, bts ((i, cl, σ', a', c', xs'), J).fst.snd.snd.snd.fst ((i, cl, σ', a', c', xs'), J).fst.snd.snd.snd.snd.fst ((i, cl, σ', a', c', xs'), J).fst.snd.snd.snd.snd.snd, Drv te, A]) (by kernel_rfl) rfl ?_)
  by_cases hlt : i < 1 + m
  · (focus
      refine Xg.at_seq ?_
      refine Xg.at_seq ?_
      refine Xg.at_region ?_
      refine Xg.ops_op (by kernel_rfl) (Xg.opx_pure ((Value.int IntKind.i64 (↑i : Int))) rfl (fun _ => by kernel_rfl) ?_)
      refine Xg.ops_op (by kernel_rfl) (Xg.opx_pure ((Value.int IntKind.i64 v3)) rfl (fun _ => by kernel_rfl) ?_)
      refine Xg.ops_op (by kernel_rfl) (Xg.opx_call1' [] [PoS xx1.fst σ' a' c' xs', bts a' c' xs', Drv te, A] (fun _ => by kernel_rfl) (@hpm ) (by kernel_rfl) (by kernel_rfl) (by kernel_rfl) ?_)
      refine Xg.ops_op (by kernel_rfl) (Xg.opx_int .i64 (IntKind.wrap .i64 (((1 : Int) + (↑m : Int)))) rfl (fun _ => by kernel_rfl) (Xg.wrap_i64_in (by omega)) ?_)
      refine Xg.ops_op (by kernel_rfl) (Xg.opx_pure (.bool (decide ((((↑i : Int)) : Int) < ((1 : Int) + (↑m : Int))))) rfl (fun _ => by kernel_rfl) ?_)
      refine Xg.ops_nil ?_
      refine Xg.at_true (t := decide (((↑i : Int) < (1 : Int) + (↑m : Int)))) (by kernel_rfl) (decide_eq_true (by omega)) ?_
      refine Xg.at_skip ?_
      refine Xg.at_seq ?_
      refine Xg.at_block ?_
      refine Xg.at_seq ?_
      refine Xg.at_region ?_
      refine Xg.ops_op (by kernel_rfl) (Xg.opx_pure ((Value.pointer (some (Addr.mk xx1.fst (0 : Nat) none)))) rfl (fun _ => by kernel_rfl) ?_)
      refine Xg.ops_op (by kernel_rfl) (Xg.opx_callE' [0] (fun xx10 => [PoR xx1.fst xx10 (Value.slice a' xs'.length c'), bts a' c' xs', Drv te, A]) (fun _ => by kernel_rfl) (@hs0 (xx1.fst) (σ') ((Value.slice a' xs'.length c')) (by omega) (by omega)) (by kernel_rfl) (by kernel_rfl) (by kernel_rfl) fun xx10 xh10 => ?_)
      try dsimp only at xh10
      obtain ⟨xh10_0, xh10_1, xh10_2, xh10_3⟩ := xh10
      refine Xg.ops_op (by kernel_rfl) (Xg.opx_pure ((Value.int IntKind.i64 (0 : Int))) rfl (fun _ => by kernel_rfl) ?_)
      refine Xg.ops_nil ?_
      refine Xg.at_seq ?_
      refine Xg.at_region ?_
      refine Xg.ops_op (by kernel_rfl) (Xg.opx_pure ((Value.pointer (some (Addr.mk xx1.fst (0 : Nat) none)))) rfl (fun _ => by kernel_rfl) ?_)
      refine Xg.ops_op (by kernel_rfl) (Xg.opx_pure ((Value.int IntKind.i64 (↑a : Int))) rfl (fun _ => by kernel_rfl) ?_)
      refine Xg.ops_op (by kernel_rfl) (Xg.opx_int .i64 (IntKind.wrap .i64 (((256 : Int) - (↑a : Int)))) rfl (fun _ => by kernel_rfl) (Xg.wrap_i64_in (by omega)) ?_)
      refine Xg.ops_op (by kernel_rfl) (Xg.opx_pure ((Value.int IntKind.i64 ([(1024 : Int), (16 : Int), (64 : Int), (256 : Int)].getD k (0 : Int)))) rfl (fun _ => by kernel_rfl) ?_)
      refine Xg.ops_op (by kernel_rfl) (Xg.opx_int .i64 (IntKind.wrap .i64 ((((256 : Int) - (↑a : Int)) * [(1024 : Int), (16 : Int), (64 : Int), (256 : Int)].getD k (0 : Int)))) rfl (fun _ => by kernel_rfl) (Xg.wrap_i64_in (by omega)) ?_)
      refine Xg.ops_op (by kernel_rfl) (Xg.opx_int .i64 (IntKind.wrap .i64 ((((256 : Int) - (↑a : Int)) * [(1024 : Int), (16 : Int), (64 : Int), (256 : Int)].getD k (0 : Int) - (1 : Int)))) rfl (fun _ => by kernel_rfl) (Xg.wrap_i64_in (by omega)) ?_)
      refine Xg.ops_op (by kernel_rfl) (Xg.opx_callE' [0, 1, 2] (fun xx11 => [PoS xx1.fst xx11.fst xx11.snd.fst xx11.snd.snd.fst xx11.snd.snd.snd, bts xx11.snd.fst xx11.snd.snd.fst xx11.snd.snd.snd, Drv te, A]) (fun _ => by kernel_rfl) (@hs2 (xx1.fst) (xx10) (a') (c') (xs') (by omega) (by omega) (by omega)) (by kernel_rfl) (by kernel_rfl) (by kernel_rfl) fun xx11 xh11 => ?_)
      try dsimp only at xh11
      obtain ⟨xh11_0, xh11_1, xh11_2, xh11_3, xh11_4, xh11_5, xh11_6⟩ := xh11
      refine Xg.ops_op (by kernel_rfl) (Xg.opx_pure ((Value.int IntKind.i64 (0 : Int))) rfl (fun _ => by kernel_rfl) ?_)
      refine Xg.ops_nil ?_
      refine Xg.at_seq ?_
      refine Xg.at_region ?_
      refine Xg.ops_op (by kernel_rfl) (Xg.opx_pure ((Value.int IntKind.i64 cl)) rfl (fun _ => by kernel_rfl) ?_)
      refine Xg.ops_op (by kernel_rfl) (Xg.opx_pure ((Value.int IntKind.i64 (↑a : Int))) rfl (fun _ => by kernel_rfl) ?_)
      refine Xg.ops_op (by kernel_rfl) (Xg.opx_int .i64 (IntKind.wrap .i64 (((256 : Int) - (↑a : Int)))) rfl (fun _ => by kernel_rfl) (Xg.wrap_i64_in (by omega)) ?_)
      refine Xg.ops_op (by kernel_rfl) (Xg.opx_pure ((Value.int IntKind.i64 ([(1024 : Int), (16 : Int), (64 : Int), (256 : Int)].getD k (0 : Int)))) rfl (fun _ => by kernel_rfl) ?_)
      refine Xg.ops_op (by kernel_rfl) (Xg.opx_int .i64 (IntKind.wrap .i64 ((((256 : Int) - (↑a : Int)) * [(1024 : Int), (16 : Int), (64 : Int), (256 : Int)].getD k (0 : Int)))) rfl (fun _ => by kernel_rfl) (Xg.wrap_i64_in (by omega)) ?_)
      refine Xg.ops_op (by kernel_rfl) (Xg.opx_int .i64 (IntKind.wrap .i64 ((cl + ((256 : Int) - (↑a : Int)) * [(1024 : Int), (16 : Int), (64 : Int), (256 : Int)].getD k (0 : Int)))) rfl (fun _ => by kernel_rfl) (Xg.wrap_i64_in (by omega)) ?_)
      refine Xg.ops_op (by kernel_rfl) (Xg.opx_pure ((Value.int IntKind.i64 (cl + ((256 : Int) - (↑a : Int)) * [(1024 : Int), (16 : Int), (64 : Int), (256 : Int)].getD k (0 : Int)))) rfl (fun _ => by kernel_rfl) ?_)
      refine Xg.ops_nil ?_
      refine Xg.at_seq ?_
      refine Xg.at_region ?_
      refine Xg.ops_op (by kernel_rfl) (Xg.opx_pure ((Value.pointer (some (Addr.mk xx1.fst (0 : Nat) none)))) rfl (fun _ => by kernel_rfl) ?_)
      refine Xg.ops_op (by kernel_rfl) (Xg.opx_call1' [0] [PoR xx1.fst xx11.fst (Value.slice xx11.snd.fst xx11.snd.snd.snd.length xx11.snd.snd.fst), bts xx11.snd.fst xx11.snd.snd.fst xx11.snd.snd.snd, Drv te, A] (fun _ => by kernel_rfl) (@Go.Proofs.YtncdmccdclhokaaDoor.requests_d (xx1.fst) (xx11.fst) ((Value.slice xx11.snd.fst xx11.snd.snd.snd.length xx11.snd.snd.fst)) (by omega)) (by kernel_rfl) (by kernel_rfl) (by kernel_rfl) ?_)
      refine Xg.ops_op (by kernel_rfl) (Xg.opx_pure (.int .i64 (Xg.band .i64 (xx11.fst.requests) (((4 : Int))))) rfl (fun _ => by kernel_rfl) ?_)
      refine Xg.ops_op (by kernel_rfl) (Xg.opx_pure ((Value.int IntKind.i64 (band IntKind.i64 xx11.fst.requests (4 : Int)))) rfl (fun _ => by kernel_rfl) ?_)
      refine Xg.ops_nil ?_
      refine Xg.at_seq ?_
      refine Xg.at_region ?_
      refine Xg.ops_op (by kernel_rfl) (Xg.opx_pure ((Value.pointer (some (Addr.mk xx1.fst (0 : Nat) none)))) rfl (fun _ => by kernel_rfl) ?_)
      refine Xg.ops_op (by kernel_rfl) (Xg.opx_callE' [0, 1, 2] (fun xx12 => [PoS xx1.fst xx12.fst xx12.snd.fst xx12.snd.snd.fst xx12.snd.snd.snd, bts xx12.snd.fst xx12.snd.snd.fst xx12.snd.snd.snd, Drv te, A]) (fun _ => by kernel_rfl) (@hs3 (xx1.fst) (xx11.fst) (xx11.snd.fst) (xx11.snd.snd.fst) (xx11.snd.snd.snd) (by omega) (by omega) (by omega)) (by kernel_rfl) (by kernel_rfl) (by kernel_rfl) fun xx12 xh12 => ?_)
      try dsimp only at xh12
      obtain ⟨xh12_0, xh12_1, xh12_2, xh12_3, xh12_4, xh12_5, xh12_6, xh12_7, xh12_8⟩ := xh12
      refine Xg.ops_op (by kernel_rfl) (Xg.opx_pure ((Value.int IntKind.i64 (0 : Int))) rfl (fun _ => by kernel_rfl) ?_)
      refine Xg.ops_nil ?_
      refine Xg.at_seq ?_
      refine Xg.at_region ?_
      refine Xg.ops_op (by kernel_rfl) (Xg.opx_pure ((Value.int IntKind.i64 (0 : Int))) rfl (fun _ => by kernel_rfl) ?_)
      refine Xg.ops_op (by kernel_rfl) (Xg.opx_pure ((Value.bool false)) rfl (fun _ => by kernel_rfl) ?_)
      refine Xg.ops_op (by kernel_rfl) (Xg.opx_pure ((Value.bool false)) rfl (fun _ => by kernel_rfl) ?_)
      refine Xg.ops_op (by kernel_rfl) (Xg.opx_pure ((Value.int IntKind.i64 (0 : Int))) rfl (fun _ => by kernel_rfl) ?_)
      refine Xg.ops_op (by kernel_rfl) (Xg.opx_pure ((Value.bool false)) rfl (fun _ => by kernel_rfl) ?_)
      refine Xg.ops_op (by kernel_rfl) (Xg.opx_pure ((Value.bool false)) rfl (fun _ => by kernel_rfl) ?_)
      refine Xg.ops_op (by kernel_rfl) (Xg.opx_pure ((Value.bool false)) rfl (fun _ => by kernel_rfl) ?_)
      refine Xg.ops_op (by kernel_rfl) (Xg.opx_pure ((Value.int IntKind.i64 (0 : Int))) rfl (fun _ => by kernel_rfl) ?_)
      refine Xg.ops_op (by kernel_rfl) (Xg.opx_pure ((Value.bool false)) rfl (fun _ => by kernel_rfl) ?_)
      refine Xg.ops_op (by kernel_rfl) (Xg.opx_pure ((Value.bool false)) rfl (fun _ => by kernel_rfl) ?_)
      refine Xg.ops_op (by kernel_rfl) (Xg.opx_pure ((Value.bool false)) rfl (fun _ => by kernel_rfl) ?_)
      refine Xg.ops_op (by kernel_rfl) (Xg.opx_pure ((Value.int IntKind.i64 (band IntKind.i64 xx11.fst.requests (4 : Int)))) rfl (fun _ => by kernel_rfl) ?_)
      refine Xg.ops_op (by kernel_rfl) (Xg.opx_pure (.bool (!decide (((band IntKind.i64 xx11.fst.requests (4 : Int)) : Int) = ((0 : Int))))) rfl (fun _ => by kernel_rfl) ?_)
      refine Xg.ops_op (by kernel_rfl) (Xg.opx_pure ((Value.bool !decide (band IntKind.i64 xx11.fst.requests (4 : Int) = (0 : Int)))) rfl (fun _ => by kernel_rfl) ?_)
      refine Xg.ops_op (by kernel_rfl) (Xg.opx_pure ((Value.bool !decide (band IntKind.i64 xx11.fst.requests (4 : Int) = (0 : Int)))) rfl (fun _ => by kernel_rfl) ?_)
      refine Xg.ops_flag (j := 155) (c := (!decide (band IntKind.i64 xx11.fst.requests (4 : Int) = (0 : Int)))) (by kernel_rfl) (fun xh13 => absurd xh13 (by rw [decide_eq_true (p := (band IntKind.i64 xx11.fst.requests (4 : Int) = (0 : Int))) (by omega)]; decide)) (fun _ => ?_)
      refine Xg.ops_op (by kernel_rfl) (Xg.opx_pure ((Value.pointer (some (Addr.mk xx1.fst (0 : Nat) none)))) rfl (fun _ => by kernel_rfl) ?_)
      refine Xg.ops_op (by kernel_rfl) (Xg.opx_call1' [0] [PoR xx1.fst xx12.fst (Value.slice xx12.snd.fst xx12.snd.snd.snd.length xx12.snd.snd.fst), bts xx12.snd.fst xx12.snd.snd.fst xx12.snd.snd.snd, Drv te, A] (fun _ => by kernel_rfl) (@Go.Proofs.YtncdmccdclhokaaDoor.requests_d (xx1.fst) (xx12.fst) ((Value.slice xx12.snd.fst xx12.snd.snd.snd.length xx12.snd.snd.fst)) (by omega)) (by kernel_rfl) (by kernel_rfl) (by kernel_rfl) ?_)
      refine Xg.ops_op (by kernel_rfl) (Xg.opx_pure (.int .i64 (Xg.band .i64 (xx12.fst.requests) (((4 : Int))))) rfl (fun _ => by kernel_rfl) ?_)
      refine Xg.ops_op (by kernel_rfl) (Xg.opx_pure (.bool (decide (((band IntKind.i64 xx12.fst.requests (4 : Int)) : Int) = ((0 : Int))))) rfl (fun _ => by kernel_rfl) ?_)
      refine Xg.ops_op (by kernel_rfl) (Xg.opx_pure ((Value.bool (decide (band IntKind.i64 xx12.fst.requests (4 : Int) = (0 : Int))))) rfl (fun _ => by kernel_rfl) ?_)
      refine Xg.ops_nil ?_
      refine Xg.at_false (t := decide ((band IntKind.i64 xx12.fst.requests (4 : Int) = (0 : Int)))) (by kernel_rfl) (decide_eq_false (by omega)) ?_
      refine Xg.at_skip ?_
      refine Xg.at_inBlock ?_
      refine Xg.at_region ?_
      refine Xg.ops_op (by kernel_rfl) (Xg.opx_pure ((Value.int IntKind.i64 (↑i : Int))) rfl (fun _ => by kernel_rfl) ?_)
      refine Xg.ops_op (by kernel_rfl) (Xg.opx_int .i64 (IntKind.wrap .i64 (((↑i : Int) + (1 : Int)))) rfl (fun _ => by kernel_rfl) (Xg.wrap_i64_in (by omega)) ?_)
      refine Xg.ops_op (by kernel_rfl) (Xg.opx_pure ((Value.int IntKind.i64 ((↑i : Int) + (1 : Int)))) rfl (fun _ => by kernel_rfl) ?_)
      refine Xg.ops_nil ?_
      refine Xg.at_inLoop ?_)
    (focus
      refine Xg.at_keep [0, 1, 2, 3] (by kernel_rfl) ?_
      refine Xg.At.same (by kernel_rfl) ?_ (ih (((i + 1, cl + (256 - (a : Int)) * List.getD [(1024 : Int), 16, 64, 256] k 0, xx12)), fun j => ([Value.slice la n lc, Value.int IntKind.i64 v, Value.int IntKind.i64 v2, Value.int IntKind.i64 v3, Value.tuple #[], Value.tuple #[], Value.tuple #[], Value.tuple #[], ((i, cl, σ', a', c', xs'), J).snd (8 : Nat), Value.pointer (some (Addr.mk xx1.fst (0 : Nat) none)), Value.int IntKind.i64 (↑k : Int), Value.int IntKind.i64 (↑a : Int), Value.int IntKind.i64 ([(1024 : Int), (16 : Int), (64 : Int), (256 : Int)].getD k (0 : Int)), Value.int IntKind.i64 (0 : Int), Value.int IntKind.i64 (0 : Int), Value.int IntKind.i64 (0 : Int), Value.int IntKind.i64 (0 : Int), Value.int IntKind.i64 (0 : Int), Value.int IntKind.i64 (0 : Int), Value.int IntKind.i64 (0 : Int), Value.int IntKind.i64 (cl + ((256 : Int) - (↑a : Int)) * [(1024 : Int), (16 : Int), (64 : Int), (256 : Int)].getD k (0 : Int)), Value.int IntKind.i64 xx9.fst.timer, Value.int IntKind.i64 ((↑i : Int) + (1 : Int)), Value.int IntKind.i64 (band IntKind.i64 xx11.fst.requests (4 : Int)), Value.tuple #[], Value.slice la n lc, Value.pointer (some (Addr.mk xx1.fst (0 : Nat) none)), Value.pointer (some (Addr.mk xx1.fst (0 : Nat) none)), Value.bool false, Value.int IntKind.i64 v, Value.int IntKind.i64 (↑k : Int), Value.int IntKind.i64 v2, Value.int IntKind.i64 (↑a : Int), Value.slice (some (Addr.mk xb1 (0 : Nat) none)) (4 : Nat) (4 : Nat), Value.int IntKind.i64 (↑k : Int), Value.pointer (some (Addr.mk xb1 k none)), Value.int IntKind.i64 ([(1024 : Int), (16 : Int), (64 : Int), (256 : Int)].getD k (0 : Int)), Value.pointer (some (Addr.mk xx1.fst (0 : Nat) none)), Value.int IntKind.i64 (0 : Int), Value.pointer (some (Addr.mk xx1.fst (0 : Nat) none)), Value.int IntKind.i64 (0 : Int), Value.pointer (some (Addr.mk xx1.fst (0 : Nat) none)), Value.int IntKind.i64 (0 : Int), Value.pointer (some (Addr.mk xx1.fst (0 : Nat) none)), Value.int IntKind.i64 (↑a : Int), Value.int IntKind.i64 (0 : Int), Value.pointer (some (Addr.mk xx1.fst (0 : Nat) none)), Value.int IntKind.i64 (↑k : Int), Value.int IntKind.i64 ((4 : Int) + (↑k : Int)), Value.int IntKind.i64 (0 : Int), Value.pointer (some (Addr.mk xx1.fst (0 : Nat) none)), Value.int IntKind.i64 (0 : Int), Value.pointer (some (Addr.mk xx1.fst (0 : Nat) none)), Value.int IntKind.i64 ([(1024 : Int), (16 : Int), (64 : Int), (256 : Int)].getD k (0 : Int)), Value.int IntKind.i64 ([(1024 : Int), (16 : Int), (64 : Int), (256 : Int)].getD k (0 : Int) + (3 : Int)), Value.int IntKind.i64 (0 : Int), Value.int IntKind.i64 (0 : Int), Value.bool false, Value.bool false, Value.int IntKind.i64 (0 : Int), Value.bool false, Value.bool false, Value.bool false, Value.int IntKind.i64 (0 : Int), Value.bool false, Value.bool false, Value.bool false, Value.int IntKind.i64 (0 : Int), Value.bool false, Value.bool false, Value.bool false, Value.int IntKind.i64 (0 : Int), Value.bool false, Value.bool false, Value.bool false, Value.int IntKind.i64 (0 : Int), Value.bool false, Value.bool false, Value.bool false, Value.int IntKind.i64 (0 : Int), Value.bool false, Value.bool false, Value.bool false, Value.pointer (some (Addr.mk xx1.fst (0 : Nat) none)), Value.int IntKind.i64 xx8.fst.requests, Value.int IntKind.i64 (band IntKind.i64 xx8.fst.requests (4 : Int)), Value.bool !decide (band IntKind.i64 xx8.fst.requests (4 : Int) = (0 : Int)), Value.bool !decide (band IntKind.i64 xx8.fst.requests (4 : Int) = (0 : Int)), Value.pointer (some (Addr.mk xx1.fst (0 : Nat) none)), Value.int IntKind.i64 (0 : Int), Value.int IntKind.i64 ([(1024 : Int), (16 : Int), (64 : Int), (256 : Int)].getD k (0 : Int)), Value.int IntKind.i64 ([(1024 : Int), (16 : Int), (64 : Int), (256 : Int)].getD k (0 : Int) + (4 : Int)), Value.tuple #[Value.int IntKind.i64 xx9.fst.timer, Value.int IntKind.i64 (0 : Int)], Value.pointer (some (Addr.mk xx1.fst (0 : Nat) none)), Value.tuple #[Value.int IntKind.i64 xx9.fst.timer, Value.int IntKind.i64 (0 : Int)], Value.int IntKind.i64 xx9.fst.timer, Value.int IntKind.i64 (0 : Int), Value.int IntKind.i64 (0 : Int), Value.bool false, Value.bool false, Value.int IntKind.i64 (0 : Int), Value.bool false, Value.bool false, Value.bool false, Value.int IntKind.i64 xx9.fst.timer, Value.int IntKind.i64 (↑a : Int), Value.bool !decide (xx9.fst.timer = (↑a : Int)), Value.bool !decide (xx9.fst.timer = (↑a : Int)), Value.bool false, Value.pointer (some (Addr.mk xx1.fst (0 : Nat) none)), Value.int IntKind.i64 xx9.fst.requests, Value.int IntKind.i64 (band IntKind.i64 xx9.fst.requests (4 : Int)), Value.bool (decide (band IntKind.i64 xx9.fst.requests (4 : Int) = (0 : Int))), Value.bool (decide (band IntKind.i64 xx9.fst.requests (4 : Int) = (0 : Int))), Value.int IntKind.i64 (↑i : Int), Value.int IntKind.i64 v3, Value.int IntKind.i64 (↑m : Int), Value.int IntKind.i64 ((1 : Int) + (↑m : Int)), Value.bool (decide ((↑i : Int) < (1 : Int) + (↑m : Int))), Value.int IntKind.i64 (↑i : Int), Value.int IntKind.i64 ((↑i : Int) + (1 : Int)), Value.pointer (some (Addr.mk xx1.fst (0 : Nat) none)), Value.int IntKind.i64 (0 : Int), Value.pointer (some (Addr.mk xx1.fst (0 : Nat) none)), Value.int IntKind.i64 (↑a : Int), Value.int IntKind.i64 ((256 : Int) - (↑a : Int)), Value.int IntKind.i64 ([(1024 : Int), (16 : Int), (64 : Int), (256 : Int)].getD k (0 : Int)), Value.int IntKind.i64 (((256 : Int) - (↑a : Int)) * [(1024 : Int), (16 : Int), (64 : Int), (256 : Int)].getD k (0 : Int)), Value.int IntKind.i64 (((256 : Int) - (↑a : Int)) * [(1024 : Int), (16 : Int), (64 : Int), (256 : Int)].getD k (0 : Int) - (1 : Int)), Value.int IntKind.i64 (0 : Int), Value.int IntKind.i64 cl, Value.int IntKind.i64 (↑a : Int), Value.int IntKind.i64 ((256 : Int) - (↑a : Int)), Value.int IntKind.i64 ([(1024 : Int), (16 : Int), (64 : Int), (256 : Int)].getD k (0 : Int)), Value.int IntKind.i64 (((256 : Int) - (↑a : Int)) * [(1024 : Int), (16 : Int), (64 : Int), (256 : Int)].getD k (0 : Int)), Value.int IntKind.i64 (cl + ((256 : Int) - (↑a : Int)) * [(1024 : Int), (16 : Int), (64 : Int), (256 : Int)].getD k (0 : Int)), Value.pointer (some (Addr.mk xx1.fst (0 : Nat) none)), Value.int IntKind.i64 xx11.fst.requests, Value.int IntKind.i64 (band IntKind.i64 xx11.fst.requests (4 : Int)), Value.pointer (some (Addr.mk xx1.fst (0 : Nat) none)), Value.int IntKind.i64 (0 : Int), Value.int IntKind.i64 (0 : Int), Value.bool false, Value.bool false, Value.int IntKind.i64 (0 : Int), Value.bool false, Value.bool false, Value.bool false, Value.int IntKind.i64 (0 : Int), Value.bool false, Value.bool false, Value.bool false, Value.int IntKind.i64 (band IntKind.i64 xx11.fst.requests (4 : Int)), Value.bool !decide (band IntKind.i64 xx11.fst.requests (4 : Int) = (0 : Int)), Value.bool !decide (band IntKind.i64 xx11.fst.requests (4 : Int) = (0 : Int)), Value.bool false, Value.pointer (some (Addr.mk xx1.fst (0 : Nat) none)), Value.int IntKind.i64 xx12.fst.requests, Value.int IntKind.i64 (band IntKind.i64 xx12.fst.requests (4 : Int)), Value.bool (decide (band IntKind.i64 xx12.fst.requests (4 : Int) = (0 : Int))), Value.bool (decide (band IntKind.i64 xx12.fst.requests (4 : Int) = (0 : Int))), Value.tuple #[], Value.tuple #[], Value.tuple #[], Value.tuple #[], Value.tuple #[], Value.tuple #[], Value.tuple #[], Value.tuple #[], Value.tuple #[], Value.tuple #[], Value.tuple #[], Value.tuple #[], Value.tuple #[], Value.tuple #[]] : List Value).getD j undef) ?_ ?_))
    · rfl
    · refine ⟨by dsimp only; omega, by assumption, by assumption, by dsimp only; omega, by dsimp only; omega, by dsimp only; omega, by assumption⟩
    · dsimp only; omega
  · clear ih
    (focus
      refine Xg.at_seq ?_
      refine Xg.at_seq ?_
      refine Xg.at_region ?_
      refine Xg.ops_op (by kernel_rfl) (Xg.opx_pure ((Value.int IntKind.i64 (↑i : Int))) rfl (fun _ => by kernel_rfl) ?_)
      refine Xg.ops_op (by kernel_rfl) (Xg.opx_pure ((Value.int IntKind.i64 v3)) rfl (fun _ => by kernel_rfl) ?_)
      refine Xg.ops_op (by kernel_rfl) (Xg.opx_call1' [] [PoS xx1.fst σ' a' c' xs', bts a' c' xs', Drv te, A] (fun _ => by kernel_rfl) (@hpm ) (by kernel_rfl) (by kernel_rfl) (by kernel_rfl) ?_)
      refine Xg.ops_op (by kernel_rfl) (Xg.opx_int .i64 (IntKind.wrap .i64 (((1 : Int) + (↑m : Int)))) rfl (fun _ => by kernel_rfl) (Xg.wrap_i64_in (by omega)) ?_)
      refine Xg.ops_op (by kernel_rfl) (Xg.opx_pure (.bool (decide ((((↑i : Int)) : Int) < ((1 : Int) + (↑m : Int))))) rfl (fun _ => by kernel_rfl) ?_)
      refine Xg.ops_nil ?_
      refine Xg.at_false (t := decide (((↑i : Int) < (1 : Int) + (↑m : Int)))) (by kernel_rfl) (decide_eq_false (by omega)) ?_
      refine Xg.at_exit rfl ?_
      refine Xg.at_seq ?_
      refine Xg.at_region ?_
      refine Xg.ops_op (by kernel_rfl) (Xg.opx_pure ((Value.pointer (some (Addr.mk xx1.fst (0 : Nat) none)))) rfl (fun _ => by kernel_rfl) ?_)
      refine Xg.ops_op (by kernel_rfl) (Xg.opx_call1' [0] [PoR xx1.fst σ' (Value.slice a' xs'.length c'), bts a' c' xs', Drv te, A] (fun _ => by kernel_rfl) (@hrd3 (xx1.fst) (σ') ((Value.slice a' xs'.length c')) (by omega)) (by kernel_rfl) (by kernel_rfl) (by kernel_rfl) ?_)
      refine Xg.ops_op (by kernel_rfl) (Xg.opx_pure ((Value.tuple #[Value.int IntKind.i64 (σ'.counter / (256 : Int)), Value.int IntKind.i64 (0 : Int)])) rfl (fun _ => by kernel_rfl) ?_)
      refine Xg.ops_op (by kernel_rfl) (Xg.opx_pure ((Value.int IntKind.i64 (σ'.counter / (256 : Int)))) rfl (fun _ => by kernel_rfl) ?_)
      refine Xg.ops_op (by kernel_rfl) (Xg.opx_pure ((Value.int IntKind.i64 (0 : Int))) rfl (fun _ => by kernel_rfl) ?_)
      refine Xg.ops_op (by kernel_rfl) (Xg.opx_pure ((Value.int IntKind.i64 (σ'.counter / (256 : Int)))) rfl (fun _ => by kernel_rfl) ?_)
      refine Xg.ops_op (by kernel_rfl) (Xg.opx_pure ((Value.int IntKind.i64 (0 : Int))) rfl (fun _ => by kernel_rfl) ?_)
      refine Xg.ops_nil ?_
      refine Xg.at_seq ?_
      refine Xg.at_region ?_
      refine Xg.ops_op (by kernel_rfl) (Xg.opx_pure ((Value.int IntKind.i64 (0 : Int))) rfl (fun _ => by kernel_rfl) ?_)
      refine Xg.ops_op (by kernel_rfl) (Xg.opx_pure ((Value.bool true)) rfl (fun _ => by kernel_rfl) ?_)
      refine Xg.ops_op (by kernel_rfl) (Xg.opx_pure ((Value.bool true)) rfl (fun _ => by kernel_rfl) ?_)
      refine Xg.ops_op (by kernel_rfl) (Xg.opx_pure ((Value.int IntKind.i64 (σ'.counter / (256 : Int)))) rfl (fun _ => by kernel_rfl) ?_)
      refine Xg.ops_op (by kernel_rfl) (Xg.opx_pure ((Value.int IntKind.i64 cl)) rfl (fun _ => by kernel_rfl) ?_)
      refine Xg.ops_op (by kernel_rfl) (Xg.opx_int .i64 (IntKind.wrap .i64 (Int.tdiv (cl) (((256 : Int))))) rfl (fun _ => by kernel_rfl) (Xg.wrap_i64_quo (by omega)) ?_)
      refine Xg.ops_op (by kernel_rfl) (Xg.opx_int .i64 (Int.tmod ((cl / (256 : Int))) (((256 : Int)))) rfl (fun _ => by kernel_rfl) (Xg.rem_mod _ _ (by omega)) ?_)
      refine Xg.ops_op (by kernel_rfl) (Xg.opx_pure (.bool (decide (((σ'.counter / (256 : Int)) : Int) = (cl / (256 : Int) % (256 : Int))))) rfl (fun _ => by kernel_rfl) ?_)
      refine Xg.ops_op (by kernel_rfl) (Xg.opx_pure ((Value.bool (decide (σ'.counter / (256 : Int) = cl / (256 : Int) % (256 : Int))))) rfl (fun _ => by kernel_rfl) ?_)
      refine Xg.ops_op (by kernel_rfl) (Xg.opx_pure ((Value.bool (decide (σ'.counter / (256 : Int) = cl / (256 : Int) % (256 : Int))))) rfl (fun _ => by kernel_rfl) ?_)
      refine Xg.ops_nil ?_
      refine Xg.at_ret_ps (v := (Value.bool (decide (σ'.counter / (256 : Int) = cl / (256 : Int) % (256 : Int))))) [2, 3] [Drv te, A] Go.Proofs.Tryd.func3 (fun _ => by kernel_rfl) (by kernel_rfl) (by kernel_rfl) ?_)
    exact ⟨by rw [decide_eq_true (by omega)], rfl⟩

end Go.Proofs.YtncdmccdclhokaaDoor
