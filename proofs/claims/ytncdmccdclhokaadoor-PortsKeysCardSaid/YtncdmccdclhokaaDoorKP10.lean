/- The ports' laws: masks. -/
import Derived.Test.YtncdmccdclhokaaDoorKP9
namespace Go.Proofs.YtncdmccdclhokaaDoor
open Go.Sl Go.Xg
set_option linter.unusedVariables false
set_option linter.unusedSimpArgs false
set_option maxHeartbeats 4000000
set_option maxRecDepth 100000
variable {te : TypeId}

theorem new0_wf : new0.Wf := ⟨by decide, by decide, by decide, by decide, by decide, by decide, by decide, by decide, by decide, by decide, by decide, by decide⟩

theorem made_e (A : HP) (la : Option Addr) (n lc : Nat) (l : List Act) (hn : l.length = n) (hn2 : n ≤ maxLen) (hr : Reads A 3 (.slice la n lc) n (recs actC l)) (hl : ∀ i, i < n → (l.getD i default).ok) :
    Does Tryd.prog 13 [.slice la n lc] [(Drv te), A]
      (RetE (fun x : Nat × Po × Option Addr × Nat × List Int => (x.2.1, x.2.2.2.2) = doN l (min n 200) (new0, []) ∧ x.2.1.Wf ∧ x.2.2.2.2.length ≤ 256) (fun x => pt x.1) (fun x => [PoS x.1 x.2.1 x.2.2.1 x.2.2.2.1 x.2.2.2.2, bts x.2.2.1 x.2.2.2.1 x.2.2.2.2, (Drv te), A])) := by
  refine (made_d A la n lc l hn hn2 hr hl).mono fun v ps ⟨x, h1, h2, h3⟩ => ⟨x, ⟨h1, ?_⟩, h2, h3⟩
  have := doN_ok (x := (new0, [])) ⟨new0_wf, by decide⟩ l (min n 200)
  rw [← h1] at this
  exact this

theorem band64 {x y : Nat} (hx : x < 4611686018427387904) (hy : y < 4611686018427387904) : band .i64 x y = ((x &&& y : Nat) : Int) := by
  show IntKind.i64.wrap _ = _
  have e : (BitVec.ofInt IntKind.i64.bits (x : Int) &&& BitVec.ofInt IntKind.i64.bits (y : Int)).toNat = x &&& y := by
    show (BitVec.ofInt 64 (x : Int) &&& BitVec.ofInt 64 (y : Int)).toNat = _
    rw [ofInt_nat, ofInt_nat, BitVec.toNat_and, BitVec.toNat_ofNat, BitVec.toNat_ofNat, Nat.mod_eq_of_lt (by omega), Nat.mod_eq_of_lt (by omega)]
  rw [e]
  have : x &&& y ≤ x := Nat.and_le_left
  exact wrap_i64_in (by omega)

theorem or_and (a x : Nat) : (a ||| x) &&& a = a := by
  apply Nat.eq_of_testBit_eq
  intro i
  rw [Nat.testBit_and, Nat.testBit_or]
  cases a.testBit i <;> simp

theorem bor_nat {x y : Int} (hx : 0 ≤ x ∧ x ≤ 255) (hy : 0 ≤ y ∧ y ≤ 255) : bor .u8 x y = ((x.toNat ||| y.toNat : Nat) : Int) := by
  obtain ⟨x, rfl⟩ := nat_of hx.1
  obtain ⟨y, rfl⟩ := nat_of hy.1
  exact bor8 (by omega) (by omega)

theorem mask0 {σ : Po} (h : σ.Wf) : band .i64 (rdI 0 σ) 192 = 192 := by
  have hk := keysI_bd σ.buttons σ.rows
  have h2 := h.rows
  have hb := bor8_bd (x := 192) (by omega) h2
  show band .i64 (bor .u8 (bor .u8 192 σ.rows) (keysI σ.buttons σ.rows)) 192 = 192
  rw [bor_nat hb (by omega), bor_nat (x := 192) (by omega) h2]
  have e : (((192 : Int).toNat ||| σ.rows.toNat : Nat) : Int).toNat = 192 ||| σ.rows.toNat := rfl
  rw [e]
  have hl : (192 ||| σ.rows.toNat) ||| (keysI σ.buttons σ.rows).toNat < 2 ^ 8 := Nat.or_lt_two_pow (Nat.or_lt_two_pow (by omega) (by omega)) (by omega)
  have := band64 (x := (192 ||| σ.rows.toNat) ||| (keysI σ.buttons σ.rows).toNat) (y := 192) (by omega) (by omega)
  rw [Nat.or_assoc] at this ⊢
  rw [or_and] at this
  exact this

theorem maskN {m x : Nat} (hm : m < 256) (hx : x < 256) : band .i64 (bor .u8 m x) m = m := by
  rw [bor8 hm hx]
  have hl : m ||| x < 2 ^ 8 := Nat.or_lt_two_pow (by omega) (by omega)
  rw [band64 (by omega) (by omega), or_and]

theorem mask2 {σ : Po} (h : σ.Wf) : band .i64 (rdI 2 σ) 126 = 126 := by
  have h2 := h.line
  obtain ⟨x, hx⟩ := nat_of h2.1
  show band .i64 (bor .u8 126 σ.line) 126 = 126
  rw [hx]; exact maskN (m := 126) (by omega) (by omega)
theorem mask6 {σ : Po} (h : σ.Wf) : band .i64 (rdI 6 σ) 248 = 248 := by
  have h2 := h.control
  obtain ⟨x, hx⟩ := nat_of h2.1
  show band .i64 (bor .u8 248 σ.control) 248 = 248
  rw [hx]; exact maskN (m := 248) (by omega) (by omega)
theorem mask7 {σ : Po} (h : σ.Wf) : band .i64 (rdI 7 σ) 224 = 224 := by
  have h2 := h.requests
  obtain ⟨x, hx⟩ := nat_of h2.1
  show band .i64 (bor .u8 224 σ.requests) 224 = 224
  rw [hx]; exact maskN (m := 224) (by omega) (by omega)
theorem mask31 {σ : Po} (h : σ.Wf) : band .i64 (rdI 7 σ) 31 = σ.requests := by
  have h2 := h.requests
  obtain ⟨x, hx⟩ := nat_of h2.1
  show band .i64 (bor .u8 224 σ.requests) 31 = σ.requests
  rw [hx] at h2 ⊢
  have e := bor8 (x := 224) (y := x) (by omega) (by omega)
  have hl : 224 ||| x < 2 ^ 8 := Nat.or_lt_two_pow (by omega) (by omega)
  have e2 := band64 (x := 224 ||| x) (y := 31) (by omega) (by omega)
  rw [show ((224 : Nat) : Int) = 224 from rfl] at e
  rw [show ((31 : Nat) : Int) = 31 from rfl] at e2
  rw [e, e2]
  have : ∀ y, y < 32 → (224 ||| y) &&& 31 = y := fun y hy => below_dec (p := fun y => (224 ||| y) &&& 31 = y) (n := 32) (by decide) hy
  rw [this x (by omega)]

theorem driven_co (b : Bool) (σ : Po) : (driven b σ).control = σ.control := by unfold driven ticked; split <;> (try split) <;> (try split) <;> rfl

theorem mask_control (σ : Po) {w : Nat} (hw : w < 256) : rdI 6 (wrI 6 σ w) = 248 + w % 8 := by
  show bor .u8 248 (wrI 6 σ w).control = _
  rw [show (wrI 6 σ w).control = band .u8 w 7 from driven_co _ _]
  rw [show band .u8 (w : Int) 7 = ((w &&& 7 : Nat) : Int) from band8 (y := 7) hw (by omega)]
  rw [show bor .u8 248 ((w &&& 7 : Nat) : Int) = ((248 ||| (w &&& 7) : Nat) : Int) from bor8 (x := 248) (by omega) (by have : w &&& 7 ≤ 7 := Nat.and_le_right; omega)]
  have : ∀ y, y < 256 → 248 ||| (y &&& 7) = 248 + y % 8 := fun y hy => below_dec (p := fun y => 248 ||| (y &&& 7) = 248 + y % 8) (n := 256) (by decide) hy
  rw [this w hw]; omega

theorem read_1_w (p : Nat) (σ : Po) (hσ : σ.Wf) (s : Value) (v : Int) (hv : 0 ≤ v ∧ v ≤ 255) : Does Tryd.prog 19 [pt p, .int .i64 65281] [PoR p (wrI 1 σ v) s] (Ret (.tuple #[.int .i64 v, .int .i64 0]) [PoR p (wrI 1 σ v) s]) := read_1 p _ (wrI_wf hσ 1 hv) s
theorem read_4_w (p : Nat) (σ : Po) (hσ : σ.Wf) (s : Value) (v : Int) (hv : 0 ≤ v ∧ v ≤ 255) : Does Tryd.prog 19 [pt p, .int .i64 65285] [PoR p (wrI 4 σ v) s] (Ret (.tuple #[.int .i64 v, .int .i64 0]) [PoR p (wrI 4 σ v) s]) := read_4 p _ (wrI_wf hσ 4 hv) s
theorem read_5_w (p : Nat) (σ : Po) (hσ : σ.Wf) (s : Value) (v : Int) (hv : 0 ≤ v ∧ v ≤ 255) : Does Tryd.prog 19 [pt p, .int .i64 65286] [PoR p (wrI 5 σ v) s] (Ret (.tuple #[.int .i64 v, .int .i64 0]) [PoR p (wrI 5 σ v) s]) := read_5 p _ (wrI_wf hσ 5 hv) s
theorem read_6_w (p : Nat) (σ : Po) (hσ : σ.Wf) (s : Value) (w : Nat) (hv : w < 256) : Does Tryd.prog 19 [pt p, .int .i64 65287] [PoR p (wrI 6 σ (w : Nat)) s] (Ret (.tuple #[.int .i64 (248 + (w : Nat) % 8), .int .i64 0]) [PoR p (wrI 6 σ (w : Nat)) s]) := by
  have h := read_6 p _ (wrI_wf hσ 6 (v := (w : Nat)) (by omega)) s
  rw [mask_control σ hv] at h
  exact h

theorem wf1 {σ : Po} (h : σ.Wf) {v : Int} (hv : 0 ≤ v ∧ v ≤ 255) : (wrI 1 σ v).Wf := wrI_wf h 1 hv
theorem wf4 {σ : Po} (h : σ.Wf) {v : Int} (hv : 0 ≤ v ∧ v ≤ 255) : (wrI 4 (wrI 1 σ v) v).Wf := wrI_wf (wf1 h hv) 4 hv
theorem wf5 {σ : Po} (h : σ.Wf) {v : Int} (hv : 0 ≤ v ∧ v ≤ 255) : (wrI 5 (wrI 4 (wrI 1 σ v) v) v).Wf := wrI_wf (wf4 h hv) 5 hv

set_option maxHeartbeats 0 in
theorem masks_d (A : HP) (la : Option Addr) (n lc : Nat) (l : List Act) (hn : l.length = n) (hn2 : n ≤ maxLen) (hr : Reads A 3 (.slice la n lc) n (recs actC l)) (hl : ∀ i, i < n → (l.getD i default).ok) (v : Int) (hv : i64ok v) :
    Does Tryd.prog 5 [.slice la n lc, .int .i64 v] [(Drv te), A] (Ret (.bool true) [(Drv te), A]) := by
  have hm := made_e (te := te) A la n lc l hn hn2 hr hl
  (focus
    refine Xg.spec_of Go.Proofs.Tryd.func5 rfl Go.Proofs.Tryd.ntmps5 fun g F => ?_)
  (focus
    refine Xg.at_seq ?_
    refine Xg.at_region ?_
    refine Xg.ops_op (by kernel_rfl) (Xg.opx_pure ((Value.bool false)) rfl (fun _ => by kernel_rfl) ?_)
    refine Xg.ops_nil ?_
    refine Xg.at_seq ?_
    refine Xg.at_region ?_
    refine Xg.ops_op (by kernel_rfl) (Xg.opx_pure ((Value.slice la n lc)) rfl (fun _ => by kernel_rfl) ?_)
    refine Xg.ops_op (by kernel_rfl) (Xg.opx_callE' [0, 1] (fun xx1 => [PoS xx1.fst xx1.snd.fst xx1.snd.snd.fst xx1.snd.snd.snd.fst xx1.snd.snd.snd.snd, bts xx1.snd.snd.fst xx1.snd.snd.snd.fst xx1.snd.snd.snd.snd, (Drv te), A]) (fun _ => by kernel_rfl) (@hm ) (by kernel_rfl) (by kernel_rfl) (by kernel_rfl) fun xx1 xh1 => ?_)
    try dsimp only at xh1
    obtain ⟨xh1_0, xh1_1, xh1_2⟩ := xh1
    refine Xg.ops_op (by kernel_rfl) (Xg.opx_pure ((Value.pointer (some (Addr.mk xx1.fst (0 : Nat) none)))) rfl (fun _ => by kernel_rfl) ?_)
    refine Xg.ops_nil ?_
    refine Xg.at_seq ?_
    refine Xg.at_seq ?_
    refine Xg.at_region ?_
    refine Xg.ops_op (by kernel_rfl) (Xg.opx_pure ((Value.pointer (some (Addr.mk xx1.fst (0 : Nat) none)))) rfl (fun _ => by kernel_rfl) ?_)
    refine Xg.ops_op (by kernel_rfl) (Xg.opx_pure ((Value.bool false)) rfl (fun _ => by kernel_rfl) ?_)
    refine Xg.ops_nil ?_
    refine Xg.at_false (t := false) (by kernel_rfl) rfl ?_
    refine Xg.at_skip ?_
    refine Xg.at_seq ?_
    refine Xg.at_region ?_
    refine Xg.ops_op (by kernel_rfl) (Xg.opx_pure ((Value.pointer (some (Addr.mk xx1.fst (0 : Nat) none)))) rfl (fun _ => by kernel_rfl) ?_))
  have m0 := mask0 xh1_1
  have m2 := mask2 xh1_1
  have m6 := mask6 xh1_1
  have m7 := mask7 xh1_1
  have m31 := mask31 xh1_1
  have hreq := xh1_1.requests
  (focus
    refine Xg.ops_op (by kernel_rfl) (Xg.opx_call1' [0] [PoR xx1.fst xx1.snd.fst (Value.slice xx1.snd.snd.fst xx1.snd.snd.snd.snd.length xx1.snd.snd.snd.fst), bts xx1.snd.snd.fst xx1.snd.snd.snd.fst xx1.snd.snd.snd.snd, (Drv te), A] (fun _ => by kernel_rfl) (@Go.Proofs.YtncdmccdclhokaaDoor.read_0 (xx1.fst) (xx1.snd.fst) (by omega) ((Value.slice xx1.snd.snd.fst xx1.snd.snd.snd.snd.length xx1.snd.snd.snd.fst))) (by kernel_rfl) (by kernel_rfl) (by kernel_rfl) ?_)
    refine Xg.ops_op (by kernel_rfl) (Xg.opx_pure ((Value.tuple #[Value.int IntKind.i64 (rdI (0 : Nat) xx1.snd.fst), Value.int IntKind.i64 (0 : Int)])) rfl (fun _ => by kernel_rfl) ?_)
    refine Xg.ops_op (by kernel_rfl) (Xg.opx_pure ((Value.int IntKind.i64 (rdI (0 : Nat) xx1.snd.fst))) rfl (fun _ => by kernel_rfl) ?_)
    refine Xg.ops_op (by kernel_rfl) (Xg.opx_pure ((Value.int IntKind.i64 (0 : Int))) rfl (fun _ => by kernel_rfl) ?_)
    refine Xg.ops_op (by kernel_rfl) (Xg.opx_pure ((Value.int IntKind.i64 (rdI (0 : Nat) xx1.snd.fst))) rfl (fun _ => by kernel_rfl) ?_)
    refine Xg.ops_op (by kernel_rfl) (Xg.opx_pure ((Value.int IntKind.i64 (0 : Int))) rfl (fun _ => by kernel_rfl) ?_)
    refine Xg.ops_nil ?_
    refine Xg.at_seq ?_
    refine Xg.at_region ?_
    refine Xg.ops_op (by kernel_rfl) (Xg.opx_pure ((Value.pointer (some (Addr.mk xx1.fst (0 : Nat) none)))) rfl (fun _ => by kernel_rfl) ?_)
    refine Xg.ops_op (by kernel_rfl) (Xg.opx_call1' [0] [PoR xx1.fst xx1.snd.fst (Value.slice xx1.snd.snd.fst xx1.snd.snd.snd.snd.length xx1.snd.snd.snd.fst), bts xx1.snd.snd.fst xx1.snd.snd.snd.fst xx1.snd.snd.snd.snd, (Drv te), A] (fun _ => by kernel_rfl) (@Go.Proofs.YtncdmccdclhokaaDoor.read_2 (xx1.fst) (xx1.snd.fst) (by omega) ((Value.slice xx1.snd.snd.fst xx1.snd.snd.snd.snd.length xx1.snd.snd.snd.fst))) (by kernel_rfl) (by kernel_rfl) (by kernel_rfl) ?_)
    refine Xg.ops_op (by kernel_rfl) (Xg.opx_pure ((Value.tuple #[Value.int IntKind.i64 (rdI (2 : Nat) xx1.snd.fst), Value.int IntKind.i64 (0 : Int)])) rfl (fun _ => by kernel_rfl) ?_)
    refine Xg.ops_op (by kernel_rfl) (Xg.opx_pure ((Value.int IntKind.i64 (rdI (2 : Nat) xx1.snd.fst))) rfl (fun _ => by kernel_rfl) ?_)
    refine Xg.ops_op (by kernel_rfl) (Xg.opx_pure ((Value.int IntKind.i64 (0 : Int))) rfl (fun _ => by kernel_rfl) ?_)
    refine Xg.ops_op (by kernel_rfl) (Xg.opx_pure ((Value.int IntKind.i64 (rdI (2 : Nat) xx1.snd.fst))) rfl (fun _ => by kernel_rfl) ?_)
    refine Xg.ops_op (by kernel_rfl) (Xg.opx_pure ((Value.int IntKind.i64 (0 : Int))) rfl (fun _ => by kernel_rfl) ?_)
    refine Xg.ops_nil ?_
    refine Xg.at_seq ?_
    refine Xg.at_region ?_
    refine Xg.ops_op (by kernel_rfl) (Xg.opx_pure ((Value.pointer (some (Addr.mk xx1.fst (0 : Nat) none)))) rfl (fun _ => by kernel_rfl) ?_)
    refine Xg.ops_op (by kernel_rfl) (Xg.opx_call1' [0] [PoR xx1.fst xx1.snd.fst (Value.slice xx1.snd.snd.fst xx1.snd.snd.snd.snd.length xx1.snd.snd.snd.fst), bts xx1.snd.snd.fst xx1.snd.snd.snd.fst xx1.snd.snd.snd.snd, (Drv te), A] (fun _ => by kernel_rfl) (@Go.Proofs.YtncdmccdclhokaaDoor.read_6 (xx1.fst) (xx1.snd.fst) (by omega) ((Value.slice xx1.snd.snd.fst xx1.snd.snd.snd.snd.length xx1.snd.snd.snd.fst))) (by kernel_rfl) (by kernel_rfl) (by kernel_rfl) ?_)
    refine Xg.ops_op (by kernel_rfl) (Xg.opx_pure ((Value.tuple #[Value.int IntKind.i64 (rdI (6 : Nat) xx1.snd.fst), Value.int IntKind.i64 (0 : Int)])) rfl (fun _ => by kernel_rfl) ?_)
    refine Xg.ops_op (by kernel_rfl) (Xg.opx_pure ((Value.int IntKind.i64 (rdI (6 : Nat) xx1.snd.fst))) rfl (fun _ => by kernel_rfl) ?_)
    refine Xg.ops_op (by kernel_rfl) (Xg.opx_pure ((Value.int IntKind.i64 (0 : Int))) rfl (fun _ => by kernel_rfl) ?_)
    refine Xg.ops_op (by kernel_rfl) (Xg.opx_pure ((Value.int IntKind.i64 (rdI (6 : Nat) xx1.snd.fst))) rfl (fun _ => by kernel_rfl) ?_)
    refine Xg.ops_op (by kernel_rfl) (Xg.opx_pure ((Value.int IntKind.i64 (0 : Int))) rfl (fun _ => by kernel_rfl) ?_)
    refine Xg.ops_nil ?_
    refine Xg.at_seq ?_
    refine Xg.at_region ?_
    refine Xg.ops_op (by kernel_rfl) (Xg.opx_pure ((Value.pointer (some (Addr.mk xx1.fst (0 : Nat) none)))) rfl (fun _ => by kernel_rfl) ?_)
    refine Xg.ops_op (by kernel_rfl) (Xg.opx_call1' [0] [PoR xx1.fst xx1.snd.fst (Value.slice xx1.snd.snd.fst xx1.snd.snd.snd.snd.length xx1.snd.snd.snd.fst), bts xx1.snd.snd.fst xx1.snd.snd.snd.fst xx1.snd.snd.snd.snd, (Drv te), A] (fun _ => by kernel_rfl) (@Go.Proofs.YtncdmccdclhokaaDoor.read_7 (xx1.fst) (xx1.snd.fst) (by omega) ((Value.slice xx1.snd.snd.fst xx1.snd.snd.snd.snd.length xx1.snd.snd.snd.fst))) (by kernel_rfl) (by kernel_rfl) (by kernel_rfl) ?_)
    refine Xg.ops_op (by kernel_rfl) (Xg.opx_pure ((Value.tuple #[Value.int IntKind.i64 (rdI (7 : Nat) xx1.snd.fst), Value.int IntKind.i64 (0 : Int)])) rfl (fun _ => by kernel_rfl) ?_)
    refine Xg.ops_op (by kernel_rfl) (Xg.opx_pure ((Value.int IntKind.i64 (rdI (7 : Nat) xx1.snd.fst))) rfl (fun _ => by kernel_rfl) ?_)
    refine Xg.ops_op (by kernel_rfl) (Xg.opx_pure ((Value.int IntKind.i64 (0 : Int))) rfl (fun _ => by kernel_rfl) ?_)
    refine Xg.ops_op (by kernel_rfl) (Xg.opx_pure ((Value.int IntKind.i64 (rdI (7 : Nat) xx1.snd.fst))) rfl (fun _ => by kernel_rfl) ?_)
    refine Xg.ops_op (by kernel_rfl) (Xg.opx_pure ((Value.int IntKind.i64 (0 : Int))) rfl (fun _ => by kernel_rfl) ?_)
    refine Xg.ops_nil ?_
    refine Xg.at_seq ?_
    refine Xg.at_seq ?_
    refine Xg.at_region ?_
    refine Xg.ops_op (by kernel_rfl) (Xg.opx_pure ((Value.int IntKind.i64 (0 : Int))) rfl (fun _ => by kernel_rfl) ?_)
    refine Xg.ops_op (by kernel_rfl) (Xg.opx_pure ((Value.bool false)) rfl (fun _ => by kernel_rfl) ?_)
    refine Xg.ops_op (by kernel_rfl) (Xg.opx_pure ((Value.bool false)) rfl (fun _ => by kernel_rfl) ?_)
    refine Xg.ops_op (by kernel_rfl) (Xg.opx_pure ((Value.int IntKind.i64 (0 : Int))) rfl (fun _ => by kernel_rfl) ?_)
    refine Xg.ops_op (by kernel_rfl) (Xg.opx_pure ((Value.bool false)) rfl (fun _ => by kernel_rfl) ?_)
    refine Xg.ops_op (by kernel_rfl) (Xg.opx_pure ((Value.bool false)) rfl (fun _ => by kernel_rfl) ?_)
    refine Xg.ops_op (by kernel_rfl) (Xg.opx_pure ((Value.bool false)) rfl (fun _ => by kernel_rfl) ?_)
    refine Xg.ops_op (by kernel_rfl) (Xg.opx_pure ((Value.int IntKind.i64 (0 : Int))) rfl (fun _ => by kernel_rfl) ?_)
    refine Xg.ops_op (by kernel_rfl) (Xg.opx_pure ((Value.bool false)) rfl (fun _ => by kernel_rfl) ?_)
    refine Xg.ops_op (by kernel_rfl) (Xg.opx_pure ((Value.bool false)) rfl (fun _ => by kernel_rfl) ?_)
    refine Xg.ops_op (by kernel_rfl) (Xg.opx_pure ((Value.bool false)) rfl (fun _ => by kernel_rfl) ?_)
    refine Xg.ops_op (by kernel_rfl) (Xg.opx_pure ((Value.int IntKind.i64 (0 : Int))) rfl (fun _ => by kernel_rfl) ?_)
    refine Xg.ops_op (by kernel_rfl) (Xg.opx_pure ((Value.bool false)) rfl (fun _ => by kernel_rfl) ?_)
    refine Xg.ops_op (by kernel_rfl) (Xg.opx_pure ((Value.bool false)) rfl (fun _ => by kernel_rfl) ?_)
    refine Xg.ops_op (by kernel_rfl) (Xg.opx_pure ((Value.bool false)) rfl (fun _ => by kernel_rfl) ?_)
    refine Xg.ops_op (by kernel_rfl) (Xg.opx_pure ((Value.int IntKind.i64 (rdI (0 : Nat) xx1.snd.fst))) rfl (fun _ => by kernel_rfl) ?_)
    refine Xg.ops_op (by kernel_rfl) (Xg.opx_pure (.int .i64 (Xg.band .i64 ((rdI (0 : Nat) xx1.snd.fst)) (((192 : Int))))) rfl (fun _ => by kernel_rfl) ?_)
    refine Xg.ops_op (by kernel_rfl) (Xg.opx_pure (.bool (!decide (((band IntKind.i64 (rdI (0 : Nat) xx1.snd.fst) (192 : Int)) : Int) = ((192 : Int))))) rfl (fun _ => by kernel_rfl) ?_)
    refine Xg.ops_op (by kernel_rfl) (Xg.opx_pure ((Value.bool !decide (band IntKind.i64 (rdI (0 : Nat) xx1.snd.fst) (192 : Int) = (192 : Int)))) rfl (fun _ => by kernel_rfl) ?_)
    refine Xg.ops_op (by kernel_rfl) (Xg.opx_pure ((Value.bool !decide (band IntKind.i64 (rdI (0 : Nat) xx1.snd.fst) (192 : Int) = (192 : Int)))) rfl (fun _ => by kernel_rfl) ?_)
    refine Xg.ops_flag (j := 63) (c := (!decide (band IntKind.i64 (rdI (0 : Nat) xx1.snd.fst) (192 : Int) = (192 : Int)))) (by kernel_rfl) (fun xh1 => absurd xh1 (by rw [decide_eq_true (p := (band IntKind.i64 (rdI (0 : Nat) xx1.snd.fst) (192 : Int) = (192 : Int))) (by omega)]; decide)) (fun _ => ?_)
    refine Xg.ops_op (by kernel_rfl) (Xg.opx_pure ((Value.int IntKind.i64 (rdI (2 : Nat) xx1.snd.fst))) rfl (fun _ => by kernel_rfl) ?_)
    refine Xg.ops_op (by kernel_rfl) (Xg.opx_pure (.int .i64 (Xg.band .i64 ((rdI (2 : Nat) xx1.snd.fst)) (((126 : Int))))) rfl (fun _ => by kernel_rfl) ?_)
    refine Xg.ops_op (by kernel_rfl) (Xg.opx_pure (.bool (!decide (((band IntKind.i64 (rdI (2 : Nat) xx1.snd.fst) (126 : Int)) : Int) = ((126 : Int))))) rfl (fun _ => by kernel_rfl) ?_)
    refine Xg.ops_op (by kernel_rfl) (Xg.opx_pure ((Value.bool !decide (band IntKind.i64 (rdI (2 : Nat) xx1.snd.fst) (126 : Int) = (126 : Int)))) rfl (fun _ => by kernel_rfl) ?_)
    refine Xg.ops_op (by kernel_rfl) (Xg.opx_pure ((Value.bool !decide (band IntKind.i64 (rdI (2 : Nat) xx1.snd.fst) (126 : Int) = (126 : Int)))) rfl (fun _ => by kernel_rfl) ?_)
    refine Xg.ops_flag (j := 68) (c := (!decide (band IntKind.i64 (rdI (2 : Nat) xx1.snd.fst) (126 : Int) = (126 : Int)))) (by kernel_rfl) (fun xh1 => absurd xh1 (by rw [decide_eq_true (p := (band IntKind.i64 (rdI (2 : Nat) xx1.snd.fst) (126 : Int) = (126 : Int))) (by omega)]; decide)) (fun _ => ?_)
    refine Xg.ops_op (by kernel_rfl) (Xg.opx_pure ((Value.int IntKind.i64 (rdI (6 : Nat) xx1.snd.fst))) rfl (fun _ => by kernel_rfl) ?_)
    refine Xg.ops_op (by kernel_rfl) (Xg.opx_pure (.int .i64 (Xg.band .i64 ((rdI (6 : Nat) xx1.snd.fst)) (((248 : Int))))) rfl (fun _ => by kernel_rfl) ?_)
    refine Xg.ops_op (by kernel_rfl) (Xg.opx_pure (.bool (!decide (((band IntKind.i64 (rdI (6 : Nat) xx1.snd.fst) (248 : Int)) : Int) = ((248 : Int))))) rfl (fun _ => by kernel_rfl) ?_)
    refine Xg.ops_op (by kernel_rfl) (Xg.opx_pure ((Value.bool !decide (band IntKind.i64 (rdI (6 : Nat) xx1.snd.fst) (248 : Int) = (248 : Int)))) rfl (fun _ => by kernel_rfl) ?_)
    refine Xg.ops_op (by kernel_rfl) (Xg.opx_pure ((Value.bool !decide (band IntKind.i64 (rdI (6 : Nat) xx1.snd.fst) (248 : Int) = (248 : Int)))) rfl (fun _ => by kernel_rfl) ?_)
    refine Xg.ops_flag (j := 73) (c := (!decide (band IntKind.i64 (rdI (6 : Nat) xx1.snd.fst) (248 : Int) = (248 : Int)))) (by kernel_rfl) (fun xh1 => absurd xh1 (by rw [decide_eq_true (p := (band IntKind.i64 (rdI (6 : Nat) xx1.snd.fst) (248 : Int) = (248 : Int))) (by omega)]; decide)) (fun _ => ?_)
    refine Xg.ops_op (by kernel_rfl) (Xg.opx_pure ((Value.int IntKind.i64 (rdI (7 : Nat) xx1.snd.fst))) rfl (fun _ => by kernel_rfl) ?_)
    refine Xg.ops_op (by kernel_rfl) (Xg.opx_pure (.int .i64 (Xg.band .i64 ((rdI (7 : Nat) xx1.snd.fst)) (((224 : Int))))) rfl (fun _ => by kernel_rfl) ?_)
    refine Xg.ops_op (by kernel_rfl) (Xg.opx_pure (.bool (!decide (((band IntKind.i64 (rdI (7 : Nat) xx1.snd.fst) (224 : Int)) : Int) = ((224 : Int))))) rfl (fun _ => by kernel_rfl) ?_)
    refine Xg.ops_op (by kernel_rfl) (Xg.opx_pure ((Value.bool !decide (band IntKind.i64 (rdI (7 : Nat) xx1.snd.fst) (224 : Int) = (224 : Int)))) rfl (fun _ => by kernel_rfl) ?_)
    refine Xg.ops_op (by kernel_rfl) (Xg.opx_pure ((Value.bool !decide (band IntKind.i64 (rdI (7 : Nat) xx1.snd.fst) (224 : Int) = (224 : Int)))) rfl (fun _ => by kernel_rfl) ?_)
    refine Xg.ops_flag (j := 78) (c := (!decide (band IntKind.i64 (rdI (7 : Nat) xx1.snd.fst) (224 : Int) = (224 : Int)))) (by kernel_rfl) (fun xh1 => absurd xh1 (by rw [decide_eq_true (p := (band IntKind.i64 (rdI (7 : Nat) xx1.snd.fst) (224 : Int) = (224 : Int))) (by omega)]; decide)) (fun _ => ?_)
    refine Xg.ops_op (by kernel_rfl) (Xg.opx_pure ((Value.int IntKind.i64 (rdI (7 : Nat) xx1.snd.fst))) rfl (fun _ => by kernel_rfl) ?_)
    refine Xg.ops_op (by kernel_rfl) (Xg.opx_pure (.int .i64 (Xg.band .i64 ((rdI (7 : Nat) xx1.snd.fst)) (((31 : Int))))) rfl (fun _ => by kernel_rfl) ?_)
    refine Xg.ops_op (by kernel_rfl) (Xg.opx_pure ((Value.pointer (some (Addr.mk xx1.fst (0 : Nat) none)))) rfl (fun _ => by kernel_rfl) ?_)
    refine Xg.ops_op (by kernel_rfl) (Xg.opx_call1' [0] [PoR xx1.fst xx1.snd.fst (Value.slice xx1.snd.snd.fst xx1.snd.snd.snd.snd.length xx1.snd.snd.snd.fst), bts xx1.snd.snd.fst xx1.snd.snd.snd.fst xx1.snd.snd.snd.snd, (Drv te), A] (fun _ => by kernel_rfl) (@Go.Proofs.YtncdmccdclhokaaDoor.requests_d (xx1.fst) (xx1.snd.fst) ((Value.slice xx1.snd.snd.fst xx1.snd.snd.snd.snd.length xx1.snd.snd.snd.fst)) (by omega)) (by kernel_rfl) (by kernel_rfl) (by kernel_rfl) ?_)
    refine Xg.ops_op (by kernel_rfl) (Xg.opx_pure (.bool (!decide (((band IntKind.i64 (rdI (7 : Nat) xx1.snd.fst) (31 : Int)) : Int) = xx1.snd.fst.requests))) rfl (fun _ => by kernel_rfl) ?_)
    refine Xg.ops_op (by kernel_rfl) (Xg.opx_pure ((Value.bool !decide (band IntKind.i64 (rdI (7 : Nat) xx1.snd.fst) (31 : Int) = xx1.snd.fst.requests))) rfl (fun _ => by kernel_rfl) ?_)
    refine Xg.ops_nil ?_
    refine Xg.at_false (t := !decide ((band IntKind.i64 (rdI (7 : Nat) xx1.snd.fst) (31 : Int) = xx1.snd.fst.requests))) (by kernel_rfl) (by rw [decide_eq_true (by omega)]; rfl) ?_
    refine Xg.at_skip ?_
    refine Xg.at_seq ?_
    refine Xg.at_region ?_
    refine Xg.ops_op (by kernel_rfl) (Xg.opx_pure ((Value.int IntKind.i64 v)) rfl (fun _ => by kernel_rfl) ?_)
    refine Xg.ops_op (by kernel_rfl) (Xg.opx_callE' [] (fun xx2 => [PoR xx1.fst xx1.snd.fst (Value.slice xx1.snd.snd.fst xx1.snd.snd.snd.snd.length xx1.snd.snd.snd.fst), bts xx1.snd.snd.fst xx1.snd.snd.snd.fst xx1.snd.snd.snd.snd, (Drv te), A]) (fun _ => by kernel_rfl) (@Go.Proofs.YtncdmccdclhokaaDoor.pick_d (v) ((nat_lit 256)) (by omega) (by first | rfl | decide | (constructor <;> omega) | (simp; done) | (simp; omega))) (by kernel_rfl) (by kernel_rfl) (by kernel_rfl) fun xx2 xh1 => ?_)
    try dsimp only at xh1
    obtain ⟨xh1_0, xh1_1⟩ := xh1
    refine Xg.ops_op (by kernel_rfl) (Xg.opx_pure ((Value.int IntKind.i64 (↑xx2 : Int))) rfl (fun _ => by kernel_rfl) ?_)
    refine Xg.ops_nil ?_
    refine Xg.at_seq ?_
    refine Xg.at_region ?_
    refine Xg.ops_op (by kernel_rfl) (Xg.opx_bs (elem := 3) 1 [Value.int IntKind.i64 (65281 : Int), Value.int IntKind.i64 (65285 : Int), Value.int IntKind.i64 (65286 : Int)] [Value.int IntKind.i64 (65281 : Int), Value.int IntKind.i64 (65285 : Int), Value.int IntKind.i64 (65286 : Int)] (by kernel_rfl) (by kernel_rfl) (by decide) rfl (by kernel_rfl) (by kernel_rfl) (by kernel_rfl) (by kernel_rfl) fun xb1 => ?_)
    refine Xg.ops_op (by kernel_rfl) (Xg.opx_pure ((Value.slice (some (Addr.mk xb1 (0 : Nat) none)) (3 : Nat) (3 : Nat))) rfl (fun _ => by kernel_rfl) ?_)
    refine Xg.ops_nil ?_
    refine Xg.at_seq ?_
    refine Xg.at_seq ?_
    refine Xg.at_region ?_
    refine Xg.ops_op (by kernel_rfl) (Xg.opx_pure ((Value.int IntKind.i64 (0 : Int))) rfl (fun _ => by kernel_rfl) ?_)
    refine Xg.ops_nil ?_
    refine Xg.at_block ?_
    refine Xg.at_loop ?_
    refine Xg.at_seq ?_
    refine Xg.at_seq ?_
    refine Xg.at_region ?_
    refine Xg.ops_op (by kernel_rfl) (Xg.opx_pure ((Value.int IntKind.i64 (0 : Int))) rfl (fun _ => by kernel_rfl) ?_)
    refine Xg.ops_op (by kernel_rfl) (Xg.opx_pure ((Value.bool true)) rfl (fun _ => by kernel_rfl) ?_)
    refine Xg.ops_nil ?_
    refine Xg.at_true (t := true) (by kernel_rfl) rfl ?_
    refine Xg.at_skip ?_
    refine Xg.at_seq ?_
    refine Xg.at_block ?_
    refine Xg.at_seq ?_
    refine Xg.at_region ?_
    refine Xg.ops_op (by kernel_rfl) (Xg.opx_pure ((Value.pointer (some (Addr.mk xx1.fst (0 : Nat) none)))) rfl (fun _ => by kernel_rfl) ?_)
    refine Xg.ops_op (by kernel_rfl) (Xg.opx_pure ((Value.slice (some (Addr.mk xb1 (0 : Nat) none)) (3 : Nat) (3 : Nat))) rfl (fun _ => by kernel_rfl) ?_)
    refine Xg.ops_op (by kernel_rfl) (Xg.opx_pure ((Value.int IntKind.i64 (0 : Int))) rfl (fun _ => by kernel_rfl) ?_)
    refine Xg.ops_op (by kernel_rfl) (Xg.opx_pure (Value.pointer (some (Addr.mk xb1 (0 : Nat) none))) rfl (fun _ => by kernel_rfl) ?_)
    refine Xg.ops_op (by kernel_rfl) (Xg.opx_load (b := xb1) (off := ((0 : Nat))) 0 (Value.int IntKind.i64 (65281 : Int)) rfl (by kernel_rfl) (by kernel_rfl) (by kernel_rfl) ?_)
    refine Xg.ops_op (by kernel_rfl) (Xg.opx_pure ((Value.int IntKind.i64 (↑xx2 : Int))) rfl (fun _ => by kernel_rfl) ?_)
    refine Xg.ops_op (by kernel_rfl) (Xg.opx_call1' [1, 3] [PoR xx1.fst (wrI (1 : Nat) xx1.snd.fst (↑xx2 : Int)) (Value.slice xx1.snd.snd.fst xx1.snd.snd.snd.snd.length xx1.snd.snd.snd.fst), (Drv te), row xb1 (3 : TypeId) [Value.int IntKind.i64 (65281 : Int), Value.int IntKind.i64 (65285 : Int), Value.int IntKind.i64 (65286 : Int)], bts xx1.snd.snd.fst xx1.snd.snd.snd.fst xx1.snd.snd.snd.snd, A] (fun _ => by kernel_rfl) (@Go.Proofs.YtncdmccdclhokaaDoor.write_1 (te) (xx1.fst) (xx1.snd.fst) ((Value.slice xx1.snd.snd.fst xx1.snd.snd.snd.snd.length xx1.snd.snd.snd.fst)) (((↑xx2 : Int))) (by omega)) (by kernel_rfl) (by kernel_rfl) (by kernel_rfl) ?_)
    refine Xg.ops_op (by kernel_rfl) (Xg.opx_pure ((Value.int IntKind.i64 (0 : Int))) rfl (fun _ => by kernel_rfl) ?_)
    refine Xg.ops_nil ?_
    refine Xg.at_seq ?_
    refine Xg.at_region ?_
    refine Xg.ops_op (by kernel_rfl) (Xg.opx_pure ((Value.pointer (some (Addr.mk xx1.fst (0 : Nat) none)))) rfl (fun _ => by kernel_rfl) ?_)
    refine Xg.ops_op (by kernel_rfl) (Xg.opx_pure ((Value.slice (some (Addr.mk xb1 (0 : Nat) none)) (3 : Nat) (3 : Nat))) rfl (fun _ => by kernel_rfl) ?_)
    refine Xg.ops_op (by kernel_rfl) (Xg.opx_pure ((Value.int IntKind.i64 (0 : Int))) rfl (fun _ => by kernel_rfl) ?_)
    refine Xg.ops_op (by kernel_rfl) (Xg.opx_pure (Value.pointer (some (Addr.mk xb1 (0 : Nat) none))) rfl (fun _ => by kernel_rfl) ?_)
    refine Xg.ops_op (by kernel_rfl) (Xg.opx_load (b := xb1) (off := ((0 : Nat))) 2 (Value.int IntKind.i64 (65281 : Int)) rfl (by kernel_rfl) (by kernel_rfl) (by kernel_rfl) ?_)
    refine Xg.ops_op (by kernel_rfl) (Xg.opx_call1' [0] [PoR xx1.fst (wrI (1 : Nat) xx1.snd.fst (↑xx2 : Int)) (Value.slice xx1.snd.snd.fst xx1.snd.snd.snd.snd.length xx1.snd.snd.snd.fst), (Drv te), row xb1 (3 : TypeId) [Value.int IntKind.i64 (65281 : Int), Value.int IntKind.i64 (65285 : Int), Value.int IntKind.i64 (65286 : Int)], bts xx1.snd.snd.fst xx1.snd.snd.snd.fst xx1.snd.snd.snd.snd, A] (fun _ => by kernel_rfl) (@Go.Proofs.YtncdmccdclhokaaDoor.read_1_w (xx1.fst) (xx1.snd.fst) (by omega) ((Value.slice xx1.snd.snd.fst xx1.snd.snd.snd.snd.length xx1.snd.snd.snd.fst)) (((↑xx2 : Int))) (by omega)) (by kernel_rfl) (by kernel_rfl) (by kernel_rfl) ?_)
    refine Xg.ops_op (by kernel_rfl) (Xg.opx_pure ((Value.tuple #[Value.int IntKind.i64 (↑xx2 : Int), Value.int IntKind.i64 (0 : Int)])) rfl (fun _ => by kernel_rfl) ?_)
    refine Xg.ops_op (by kernel_rfl) (Xg.opx_pure ((Value.int IntKind.i64 (↑xx2 : Int))) rfl (fun _ => by kernel_rfl) ?_)
    refine Xg.ops_op (by kernel_rfl) (Xg.opx_pure ((Value.int IntKind.i64 (0 : Int))) rfl (fun _ => by kernel_rfl) ?_)
    refine Xg.ops_op (by kernel_rfl) (Xg.opx_pure ((Value.int IntKind.i64 (↑xx2 : Int))) rfl (fun _ => by kernel_rfl) ?_)
    refine Xg.ops_op (by kernel_rfl) (Xg.opx_pure ((Value.int IntKind.i64 (0 : Int))) rfl (fun _ => by kernel_rfl) ?_)
    refine Xg.ops_nil ?_
    refine Xg.at_seq ?_
    refine Xg.at_region ?_
    refine Xg.ops_op (by kernel_rfl) (Xg.opx_pure ((Value.int IntKind.i64 (0 : Int))) rfl (fun _ => by kernel_rfl) ?_)
    refine Xg.ops_op (by kernel_rfl) (Xg.opx_pure ((Value.bool false)) rfl (fun _ => by kernel_rfl) ?_)
    refine Xg.ops_op (by kernel_rfl) (Xg.opx_pure ((Value.bool false)) rfl (fun _ => by kernel_rfl) ?_)
    refine Xg.ops_op (by kernel_rfl) (Xg.opx_pure ((Value.int IntKind.i64 (0 : Int))) rfl (fun _ => by kernel_rfl) ?_)
    refine Xg.ops_op (by kernel_rfl) (Xg.opx_pure ((Value.bool false)) rfl (fun _ => by kernel_rfl) ?_)
    refine Xg.ops_op (by kernel_rfl) (Xg.opx_pure ((Value.bool false)) rfl (fun _ => by kernel_rfl) ?_)
    refine Xg.ops_op (by kernel_rfl) (Xg.opx_pure ((Value.bool false)) rfl (fun _ => by kernel_rfl) ?_)
    refine Xg.ops_op (by kernel_rfl) (Xg.opx_pure ((Value.int IntKind.i64 (↑xx2 : Int))) rfl (fun _ => by kernel_rfl) ?_)
    refine Xg.ops_op (by kernel_rfl) (Xg.opx_pure ((Value.int IntKind.i64 (↑xx2 : Int))) rfl (fun _ => by kernel_rfl) ?_)
    refine Xg.ops_op (by kernel_rfl) (Xg.opx_pure (.bool (!decide ((((↑xx2 : Int)) : Int) = ((↑xx2 : Int))))) rfl (fun _ => by kernel_rfl) ?_)
    refine Xg.ops_op (by kernel_rfl) (Xg.opx_pure ((Value.bool !decide ((↑xx2 : Int) = (↑xx2 : Int)))) rfl (fun _ => by kernel_rfl) ?_)
    refine Xg.ops_nil ?_
    refine Xg.at_false (t := !decide (((↑xx2 : Int) = (↑xx2 : Int)))) (by kernel_rfl) (by rw [decide_eq_true (by omega)]; rfl) ?_
    refine Xg.at_skip ?_
    refine Xg.at_inBlock ?_
    refine Xg.at_region ?_
    refine Xg.ops_op (by kernel_rfl) (Xg.opx_pure ((Value.int IntKind.i64 (0 : Int))) rfl (fun _ => by kernel_rfl) ?_)
    refine Xg.ops_op (by kernel_rfl) (Xg.opx_pure ((Value.int IntKind.i64 (1 : Int))) rfl (fun _ => by kernel_rfl) ?_)
    refine Xg.ops_op (by kernel_rfl) (Xg.opx_pure ((Value.int IntKind.i64 (1 : Int))) rfl (fun _ => by kernel_rfl) ?_)
    refine Xg.ops_nil ?_
    refine Xg.at_inLoop ?_
    refine Xg.at_seq ?_
    refine Xg.at_seq ?_
    refine Xg.at_region ?_
    refine Xg.ops_op (by kernel_rfl) (Xg.opx_pure ((Value.int IntKind.i64 (1 : Int))) rfl (fun _ => by kernel_rfl) ?_)
    refine Xg.ops_op (by kernel_rfl) (Xg.opx_pure ((Value.bool true)) rfl (fun _ => by kernel_rfl) ?_)
    refine Xg.ops_nil ?_
    refine Xg.at_true (t := true) (by kernel_rfl) rfl ?_
    refine Xg.at_skip ?_
    refine Xg.at_seq ?_
    refine Xg.at_block ?_
    refine Xg.at_seq ?_
    refine Xg.at_region ?_
    refine Xg.ops_op (by kernel_rfl) (Xg.opx_pure ((Value.pointer (some (Addr.mk xx1.fst (0 : Nat) none)))) rfl (fun _ => by kernel_rfl) ?_)
    refine Xg.ops_op (by kernel_rfl) (Xg.opx_pure ((Value.slice (some (Addr.mk xb1 (0 : Nat) none)) (3 : Nat) (3 : Nat))) rfl (fun _ => by kernel_rfl) ?_)
    refine Xg.ops_op (by kernel_rfl) (Xg.opx_pure ((Value.int IntKind.i64 (1 : Int))) rfl (fun _ => by kernel_rfl) ?_)
    refine Xg.ops_op (by kernel_rfl) (Xg.opx_pure (Value.pointer (some (Addr.mk xb1 (1 : Nat) none))) rfl (fun _ => by kernel_rfl) ?_)
    refine Xg.ops_op (by kernel_rfl) (Xg.opx_load (b := xb1) (off := ((1 : Nat))) 2 (Value.int IntKind.i64 (65285 : Int)) rfl (by kernel_rfl) (by kernel_rfl) (by kernel_rfl) ?_)
    refine Xg.ops_op (by kernel_rfl) (Xg.opx_pure ((Value.int IntKind.i64 (↑xx2 : Int))) rfl (fun _ => by kernel_rfl) ?_)
    refine Xg.ops_op (by kernel_rfl) (Xg.opx_call1' [0, 1] [PoR xx1.fst (wrI (4 : Nat) (wrI (1 : Nat) xx1.snd.fst (↑xx2 : Int)) (↑xx2 : Int)) (Value.slice xx1.snd.snd.fst xx1.snd.snd.snd.snd.length xx1.snd.snd.snd.fst), (Drv te), row xb1 (3 : TypeId) [Value.int IntKind.i64 (65281 : Int), Value.int IntKind.i64 (65285 : Int), Value.int IntKind.i64 (65286 : Int)], bts xx1.snd.snd.fst xx1.snd.snd.snd.fst xx1.snd.snd.snd.snd, A] (fun _ => by kernel_rfl) (@Go.Proofs.YtncdmccdclhokaaDoor.write_4 (te) (xx1.fst) ((wrI (1 : Nat) xx1.snd.fst (↑xx2 : Int))) ((Value.slice xx1.snd.snd.fst xx1.snd.snd.snd.snd.length xx1.snd.snd.snd.fst)) (((↑xx2 : Int))) (by omega)) (by kernel_rfl) (by kernel_rfl) (by kernel_rfl) ?_)
    refine Xg.ops_op (by kernel_rfl) (Xg.opx_pure ((Value.int IntKind.i64 (0 : Int))) rfl (fun _ => by kernel_rfl) ?_)
    refine Xg.ops_nil ?_
    refine Xg.at_seq ?_
    refine Xg.at_region ?_
    refine Xg.ops_op (by kernel_rfl) (Xg.opx_pure ((Value.pointer (some (Addr.mk xx1.fst (0 : Nat) none)))) rfl (fun _ => by kernel_rfl) ?_)
    refine Xg.ops_op (by kernel_rfl) (Xg.opx_pure ((Value.slice (some (Addr.mk xb1 (0 : Nat) none)) (3 : Nat) (3 : Nat))) rfl (fun _ => by kernel_rfl) ?_)
    refine Xg.ops_op (by kernel_rfl) (Xg.opx_pure ((Value.int IntKind.i64 (1 : Int))) rfl (fun _ => by kernel_rfl) ?_)
    refine Xg.ops_op (by kernel_rfl) (Xg.opx_pure (Value.pointer (some (Addr.mk xb1 (1 : Nat) none))) rfl (fun _ => by kernel_rfl) ?_)
    refine Xg.ops_op (by kernel_rfl) (Xg.opx_load (b := xb1) (off := ((1 : Nat))) 2 (Value.int IntKind.i64 (65285 : Int)) rfl (by kernel_rfl) (by kernel_rfl) (by kernel_rfl) ?_)
    refine Xg.ops_op (by kernel_rfl) (Xg.opx_call1' [0] [PoR xx1.fst (wrI (4 : Nat) (wrI (1 : Nat) xx1.snd.fst (↑xx2 : Int)) (↑xx2 : Int)) (Value.slice xx1.snd.snd.fst xx1.snd.snd.snd.snd.length xx1.snd.snd.snd.fst), (Drv te), row xb1 (3 : TypeId) [Value.int IntKind.i64 (65281 : Int), Value.int IntKind.i64 (65285 : Int), Value.int IntKind.i64 (65286 : Int)], bts xx1.snd.snd.fst xx1.snd.snd.snd.fst xx1.snd.snd.snd.snd, A] (fun _ => by kernel_rfl) (@Go.Proofs.YtncdmccdclhokaaDoor.read_4_w (xx1.fst) ((wrI (1 : Nat) xx1.snd.fst (↑xx2 : Int))) (by apply Go.Proofs.YtncdmccdclhokaaDoor.wf1 <;> first | assumption | omega | (constructor <;> omega)) ((Value.slice xx1.snd.snd.fst xx1.snd.snd.snd.snd.length xx1.snd.snd.snd.fst)) (((↑xx2 : Int))) (by omega)) (by kernel_rfl) (by kernel_rfl) (by kernel_rfl) ?_)
    refine Xg.ops_op (by kernel_rfl) (Xg.opx_pure ((Value.tuple #[Value.int IntKind.i64 (↑xx2 : Int), Value.int IntKind.i64 (0 : Int)])) rfl (fun _ => by kernel_rfl) ?_)
    refine Xg.ops_op (by kernel_rfl) (Xg.opx_pure ((Value.int IntKind.i64 (↑xx2 : Int))) rfl (fun _ => by kernel_rfl) ?_)
    refine Xg.ops_op (by kernel_rfl) (Xg.opx_pure ((Value.int IntKind.i64 (0 : Int))) rfl (fun _ => by kernel_rfl) ?_)
    refine Xg.ops_op (by kernel_rfl) (Xg.opx_pure ((Value.int IntKind.i64 (↑xx2 : Int))) rfl (fun _ => by kernel_rfl) ?_)
    refine Xg.ops_op (by kernel_rfl) (Xg.opx_pure ((Value.int IntKind.i64 (0 : Int))) rfl (fun _ => by kernel_rfl) ?_)
    refine Xg.ops_nil ?_
    refine Xg.at_seq ?_
    refine Xg.at_region ?_
    refine Xg.ops_op (by kernel_rfl) (Xg.opx_pure ((Value.int IntKind.i64 (0 : Int))) rfl (fun _ => by kernel_rfl) ?_)
    refine Xg.ops_op (by kernel_rfl) (Xg.opx_pure ((Value.bool false)) rfl (fun _ => by kernel_rfl) ?_)
    refine Xg.ops_op (by kernel_rfl) (Xg.opx_pure ((Value.bool false)) rfl (fun _ => by kernel_rfl) ?_)
    refine Xg.ops_op (by kernel_rfl) (Xg.opx_pure ((Value.int IntKind.i64 (0 : Int))) rfl (fun _ => by kernel_rfl) ?_)
    refine Xg.ops_op (by kernel_rfl) (Xg.opx_pure ((Value.bool false)) rfl (fun _ => by kernel_rfl) ?_)
    refine Xg.ops_op (by kernel_rfl) (Xg.opx_pure ((Value.bool false)) rfl (fun _ => by kernel_rfl) ?_)
    refine Xg.ops_op (by kernel_rfl) (Xg.opx_pure ((Value.bool false)) rfl (fun _ => by kernel_rfl) ?_)
    refine Xg.ops_op (by kernel_rfl) (Xg.opx_pure ((Value.int IntKind.i64 (↑xx2 : Int))) rfl (fun _ => by kernel_rfl) ?_)
    refine Xg.ops_op (by kernel_rfl) (Xg.opx_pure ((Value.int IntKind.i64 (↑xx2 : Int))) rfl (fun _ => by kernel_rfl) ?_)
    refine Xg.ops_op (by kernel_rfl) (Xg.opx_pure (.bool (!decide ((((↑xx2 : Int)) : Int) = ((↑xx2 : Int))))) rfl (fun _ => by kernel_rfl) ?_)
    refine Xg.ops_op (by kernel_rfl) (Xg.opx_pure ((Value.bool !decide ((↑xx2 : Int) = (↑xx2 : Int)))) rfl (fun _ => by kernel_rfl) ?_)
    refine Xg.ops_nil ?_
    refine Xg.at_false (t := !decide (((↑xx2 : Int) = (↑xx2 : Int)))) (by kernel_rfl) (by rw [decide_eq_true (by omega)]; rfl) ?_
    refine Xg.at_skip ?_
    refine Xg.at_inBlock ?_
    refine Xg.at_region ?_
    refine Xg.ops_op (by kernel_rfl) (Xg.opx_pure ((Value.int IntKind.i64 (1 : Int))) rfl (fun _ => by kernel_rfl) ?_)
    refine Xg.ops_op (by kernel_rfl) (Xg.opx_pure ((Value.int IntKind.i64 (2 : Int))) rfl (fun _ => by kernel_rfl) ?_)
    refine Xg.ops_op (by kernel_rfl) (Xg.opx_pure ((Value.int IntKind.i64 (2 : Int))) rfl (fun _ => by kernel_rfl) ?_)
    refine Xg.ops_nil ?_
    refine Xg.at_inLoop ?_
    refine Xg.at_seq ?_
    refine Xg.at_seq ?_
    refine Xg.at_region ?_
    refine Xg.ops_op (by kernel_rfl) (Xg.opx_pure ((Value.int IntKind.i64 (2 : Int))) rfl (fun _ => by kernel_rfl) ?_)
    refine Xg.ops_op (by kernel_rfl) (Xg.opx_pure ((Value.bool true)) rfl (fun _ => by kernel_rfl) ?_)
    refine Xg.ops_nil ?_
    refine Xg.at_true (t := true) (by kernel_rfl) rfl ?_
    refine Xg.at_skip ?_
    refine Xg.at_seq ?_
    refine Xg.at_block ?_
    refine Xg.at_seq ?_
    refine Xg.at_region ?_
    refine Xg.ops_op (by kernel_rfl) (Xg.opx_pure ((Value.pointer (some (Addr.mk xx1.fst (0 : Nat) none)))) rfl (fun _ => by kernel_rfl) ?_)
    refine Xg.ops_op (by kernel_rfl) (Xg.opx_pure ((Value.slice (some (Addr.mk xb1 (0 : Nat) none)) (3 : Nat) (3 : Nat))) rfl (fun _ => by kernel_rfl) ?_)
    refine Xg.ops_op (by kernel_rfl) (Xg.opx_pure ((Value.int IntKind.i64 (2 : Int))) rfl (fun _ => by kernel_rfl) ?_)
    refine Xg.ops_op (by kernel_rfl) (Xg.opx_pure (Value.pointer (some (Addr.mk xb1 (2 : Nat) none))) rfl (fun _ => by kernel_rfl) ?_)
    refine Xg.ops_op (by kernel_rfl) (Xg.opx_load (b := xb1) (off := ((2 : Nat))) 2 (Value.int IntKind.i64 (65286 : Int)) rfl (by kernel_rfl) (by kernel_rfl) (by kernel_rfl) ?_)
    refine Xg.ops_op (by kernel_rfl) (Xg.opx_pure ((Value.int IntKind.i64 (↑xx2 : Int))) rfl (fun _ => by kernel_rfl) ?_)
    refine Xg.ops_op (by kernel_rfl) (Xg.opx_call1' [0, 1] [PoR xx1.fst (wrI (5 : Nat) (wrI (4 : Nat) (wrI (1 : Nat) xx1.snd.fst (↑xx2 : Int)) (↑xx2 : Int)) (↑xx2 : Int)) (Value.slice xx1.snd.snd.fst xx1.snd.snd.snd.snd.length xx1.snd.snd.snd.fst), (Drv te), row xb1 (3 : TypeId) [Value.int IntKind.i64 (65281 : Int), Value.int IntKind.i64 (65285 : Int), Value.int IntKind.i64 (65286 : Int)], bts xx1.snd.snd.fst xx1.snd.snd.snd.fst xx1.snd.snd.snd.snd, A] (fun _ => by kernel_rfl) (@Go.Proofs.YtncdmccdclhokaaDoor.write_5 (te) (xx1.fst) ((wrI (4 : Nat) (wrI (1 : Nat) xx1.snd.fst (↑xx2 : Int)) (↑xx2 : Int))) ((Value.slice xx1.snd.snd.fst xx1.snd.snd.snd.snd.length xx1.snd.snd.snd.fst)) (((↑xx2 : Int))) (by omega)) (by kernel_rfl) (by kernel_rfl) (by kernel_rfl) ?_)
    refine Xg.ops_op (by kernel_rfl) (Xg.opx_pure ((Value.int IntKind.i64 (0 : Int))) rfl (fun _ => by kernel_rfl) ?_)
    refine Xg.ops_nil ?_
    refine Xg.at_seq ?_
    refine Xg.at_region ?_
    refine Xg.ops_op (by kernel_rfl) (Xg.opx_pure ((Value.pointer (some (Addr.mk xx1.fst (0 : Nat) none)))) rfl (fun _ => by kernel_rfl) ?_)
    refine Xg.ops_op (by kernel_rfl) (Xg.opx_pure ((Value.slice (some (Addr.mk xb1 (0 : Nat) none)) (3 : Nat) (3 : Nat))) rfl (fun _ => by kernel_rfl) ?_)
    refine Xg.ops_op (by kernel_rfl) (Xg.opx_pure ((Value.int IntKind.i64 (2 : Int))) rfl (fun _ => by kernel_rfl) ?_)
    refine Xg.ops_op (by kernel_rfl) (Xg.opx_pure (Value.pointer (some (Addr.mk xb1 (2 : Nat) none))) rfl (fun _ => by kernel_rfl) ?_)
    refine Xg.ops_op (by kernel_rfl) (Xg.opx_load (b := xb1) (off := ((2 : Nat))) 2 (Value.int IntKind.i64 (65286 : Int)) rfl (by kernel_rfl) (by kernel_rfl) (by kernel_rfl) ?_)
    refine Xg.ops_op (by kernel_rfl) (Xg.opx_call1' [0] [PoR xx1.fst (wrI (5 : Nat) (wrI (4 : Nat) (wrI (1 : Nat) xx1.snd.fst (↑xx2 : Int)) (↑xx2 : Int)) (↑xx2 : Int)) (Value.slice xx1.snd.snd.fst xx1.snd.snd.snd.snd.length xx1.snd.snd.snd.fst), (Drv te), row xb1 (3 : TypeId) [Value.int IntKind.i64 (65281 : Int), Value.int IntKind.i64 (65285 : Int), Value.int IntKind.i64 (65286 : Int)], bts xx1.snd.snd.fst xx1.snd.snd.snd.fst xx1.snd.snd.snd.snd, A] (fun _ => by kernel_rfl) (@Go.Proofs.YtncdmccdclhokaaDoor.read_5_w (xx1.fst) ((wrI (4 : Nat) (wrI (1 : Nat) xx1.snd.fst (↑xx2 : Int)) (↑xx2 : Int))) (by apply Go.Proofs.YtncdmccdclhokaaDoor.wf4 <;> first | assumption | omega | (constructor <;> omega)) ((Value.slice xx1.snd.snd.fst xx1.snd.snd.snd.snd.length xx1.snd.snd.snd.fst)) (((↑xx2 : Int))) (by omega)) (by kernel_rfl) (by kernel_rfl) (by kernel_rfl) ?_)
    refine Xg.ops_op (by kernel_rfl) (Xg.opx_pure ((Value.tuple #[Value.int IntKind.i64 (↑xx2 : Int), Value.int IntKind.i64 (0 : Int)])) rfl (fun _ => by kernel_rfl) ?_)
    refine Xg.ops_op (by kernel_rfl) (Xg.opx_pure ((Value.int IntKind.i64 (↑xx2 : Int))) rfl (fun _ => by kernel_rfl) ?_)
    refine Xg.ops_op (by kernel_rfl) (Xg.opx_pure ((Value.int IntKind.i64 (0 : Int))) rfl (fun _ => by kernel_rfl) ?_)
    refine Xg.ops_op (by kernel_rfl) (Xg.opx_pure ((Value.int IntKind.i64 (↑xx2 : Int))) rfl (fun _ => by kernel_rfl) ?_)
    refine Xg.ops_op (by kernel_rfl) (Xg.opx_pure ((Value.int IntKind.i64 (0 : Int))) rfl (fun _ => by kernel_rfl) ?_)
    refine Xg.ops_nil ?_
    refine Xg.at_seq ?_
    refine Xg.at_region ?_
    refine Xg.ops_op (by kernel_rfl) (Xg.opx_pure ((Value.int IntKind.i64 (0 : Int))) rfl (fun _ => by kernel_rfl) ?_)
    refine Xg.ops_op (by kernel_rfl) (Xg.opx_pure ((Value.bool false)) rfl (fun _ => by kernel_rfl) ?_)
    refine Xg.ops_op (by kernel_rfl) (Xg.opx_pure ((Value.bool false)) rfl (fun _ => by kernel_rfl) ?_)
    refine Xg.ops_op (by kernel_rfl) (Xg.opx_pure ((Value.int IntKind.i64 (0 : Int))) rfl (fun _ => by kernel_rfl) ?_)
    refine Xg.ops_op (by kernel_rfl) (Xg.opx_pure ((Value.bool false)) rfl (fun _ => by kernel_rfl) ?_)
    refine Xg.ops_op (by kernel_rfl) (Xg.opx_pure ((Value.bool false)) rfl (fun _ => by kernel_rfl) ?_)
    refine Xg.ops_op (by kernel_rfl) (Xg.opx_pure ((Value.bool false)) rfl (fun _ => by kernel_rfl) ?_)
    refine Xg.ops_op (by kernel_rfl) (Xg.opx_pure ((Value.int IntKind.i64 (↑xx2 : Int))) rfl (fun _ => by kernel_rfl) ?_)
    refine Xg.ops_op (by kernel_rfl) (Xg.opx_pure ((Value.int IntKind.i64 (↑xx2 : Int))) rfl (fun _ => by kernel_rfl) ?_)
    refine Xg.ops_op (by kernel_rfl) (Xg.opx_pure (.bool (!decide ((((↑xx2 : Int)) : Int) = ((↑xx2 : Int))))) rfl (fun _ => by kernel_rfl) ?_)
    refine Xg.ops_op (by kernel_rfl) (Xg.opx_pure ((Value.bool !decide ((↑xx2 : Int) = (↑xx2 : Int)))) rfl (fun _ => by kernel_rfl) ?_)
    refine Xg.ops_nil ?_
    refine Xg.at_false (t := !decide (((↑xx2 : Int) = (↑xx2 : Int)))) (by kernel_rfl) (by rw [decide_eq_true (by omega)]; rfl) ?_
    refine Xg.at_skip ?_
    refine Xg.at_inBlock ?_
    refine Xg.at_region ?_
    refine Xg.ops_op (by kernel_rfl) (Xg.opx_pure ((Value.int IntKind.i64 (2 : Int))) rfl (fun _ => by kernel_rfl) ?_)
    refine Xg.ops_op (by kernel_rfl) (Xg.opx_pure ((Value.int IntKind.i64 (3 : Int))) rfl (fun _ => by kernel_rfl) ?_)
    refine Xg.ops_op (by kernel_rfl) (Xg.opx_pure ((Value.int IntKind.i64 (3 : Int))) rfl (fun _ => by kernel_rfl) ?_)
    refine Xg.ops_nil ?_
    refine Xg.at_inLoop ?_
    refine Xg.at_seq ?_
    refine Xg.at_seq ?_
    refine Xg.at_region ?_
    refine Xg.ops_op (by kernel_rfl) (Xg.opx_pure ((Value.int IntKind.i64 (3 : Int))) rfl (fun _ => by kernel_rfl) ?_)
    refine Xg.ops_op (by kernel_rfl) (Xg.opx_pure ((Value.bool false)) rfl (fun _ => by kernel_rfl) ?_)
    refine Xg.ops_nil ?_
    refine Xg.at_false (t := false) (by kernel_rfl) rfl ?_
    refine Xg.at_exit rfl ?_
    refine Xg.at_seq ?_
    refine Xg.at_region ?_
    refine Xg.ops_op (by kernel_rfl) (Xg.opx_pure ((Value.pointer (some (Addr.mk xx1.fst (0 : Nat) none)))) rfl (fun _ => by kernel_rfl) ?_)
    refine Xg.ops_op (by kernel_rfl) (Xg.opx_pure ((Value.int IntKind.i64 (↑xx2 : Int))) rfl (fun _ => by kernel_rfl) ?_)
    refine Xg.ops_op (by kernel_rfl) (Xg.opx_call1' [0, 1] [PoR xx1.fst (wrI (6 : Nat) (wrI (5 : Nat) (wrI (4 : Nat) (wrI (1 : Nat) xx1.snd.fst (↑xx2 : Int)) (↑xx2 : Int)) (↑xx2 : Int)) (↑xx2 : Int)) (Value.slice xx1.snd.snd.fst xx1.snd.snd.snd.snd.length xx1.snd.snd.snd.fst), (Drv te), row xb1 (3 : TypeId) [Value.int IntKind.i64 (65281 : Int), Value.int IntKind.i64 (65285 : Int), Value.int IntKind.i64 (65286 : Int)], bts xx1.snd.snd.fst xx1.snd.snd.snd.fst xx1.snd.snd.snd.snd, A] (fun _ => by kernel_rfl) (@Go.Proofs.YtncdmccdclhokaaDoor.write_6 (te) (xx1.fst) ((wrI (5 : Nat) (wrI (4 : Nat) (wrI (1 : Nat) xx1.snd.fst (↑xx2 : Int)) (↑xx2 : Int)) (↑xx2 : Int))) ((Value.slice xx1.snd.snd.fst xx1.snd.snd.snd.snd.length xx1.snd.snd.snd.fst)) (((↑xx2 : Int))) (by omega)) (by kernel_rfl) (by kernel_rfl) (by kernel_rfl) ?_)
    refine Xg.ops_op (by kernel_rfl) (Xg.opx_pure ((Value.int IntKind.i64 (0 : Int))) rfl (fun _ => by kernel_rfl) ?_)
    refine Xg.ops_nil ?_
    refine Xg.at_seq ?_
    refine Xg.at_region ?_
    refine Xg.ops_op (by kernel_rfl) (Xg.opx_pure ((Value.pointer (some (Addr.mk xx1.fst (0 : Nat) none)))) rfl (fun _ => by kernel_rfl) ?_)
    refine Xg.ops_op (by kernel_rfl) (Xg.opx_call1' [0] [PoR xx1.fst (wrI (6 : Nat) (wrI (5 : Nat) (wrI (4 : Nat) (wrI (1 : Nat) xx1.snd.fst (↑xx2 : Int)) (↑xx2 : Int)) (↑xx2 : Int)) (↑xx2 : Int)) (Value.slice xx1.snd.snd.fst xx1.snd.snd.snd.snd.length xx1.snd.snd.snd.fst), (Drv te), row xb1 (3 : TypeId) [Value.int IntKind.i64 (65281 : Int), Value.int IntKind.i64 (65285 : Int), Value.int IntKind.i64 (65286 : Int)], bts xx1.snd.snd.fst xx1.snd.snd.snd.fst xx1.snd.snd.snd.snd, A] (fun _ => by kernel_rfl) (@Go.Proofs.YtncdmccdclhokaaDoor.read_6_w (xx1.fst) ((wrI (5 : Nat) (wrI (4 : Nat) (wrI (1 : Nat) xx1.snd.fst (↑xx2 : Int)) (↑xx2 : Int)) (↑xx2 : Int))) (by apply Go.Proofs.YtncdmccdclhokaaDoor.wf5 <;> first | assumption | omega | (constructor <;> omega)) ((Value.slice xx1.snd.snd.fst xx1.snd.snd.snd.snd.length xx1.snd.snd.snd.fst)) (xx2) (by omega)) (by kernel_rfl) (by kernel_rfl) (by kernel_rfl) ?_)
    refine Xg.ops_op (by kernel_rfl) (Xg.opx_pure ((Value.tuple #[Value.int IntKind.i64 ((248 : Int) + (↑xx2 : Int) % (8 : Int)), Value.int IntKind.i64 (0 : Int)])) rfl (fun _ => by kernel_rfl) ?_)
    refine Xg.ops_op (by kernel_rfl) (Xg.opx_pure ((Value.int IntKind.i64 ((248 : Int) + (↑xx2 : Int) % (8 : Int)))) rfl (fun _ => by kernel_rfl) ?_)
    refine Xg.ops_op (by kernel_rfl) (Xg.opx_pure ((Value.int IntKind.i64 (0 : Int))) rfl (fun _ => by kernel_rfl) ?_)
    refine Xg.ops_op (by kernel_rfl) (Xg.opx_pure ((Value.int IntKind.i64 ((248 : Int) + (↑xx2 : Int) % (8 : Int)))) rfl (fun _ => by kernel_rfl) ?_)
    refine Xg.ops_op (by kernel_rfl) (Xg.opx_pure ((Value.int IntKind.i64 (0 : Int))) rfl (fun _ => by kernel_rfl) ?_)
    refine Xg.ops_nil ?_
    refine Xg.at_seq ?_
    refine Xg.at_region ?_
    refine Xg.ops_op (by kernel_rfl) (Xg.opx_pure ((Value.int IntKind.i64 (0 : Int))) rfl (fun _ => by kernel_rfl) ?_)
    refine Xg.ops_op (by kernel_rfl) (Xg.opx_pure ((Value.bool true)) rfl (fun _ => by kernel_rfl) ?_)
    refine Xg.ops_op (by kernel_rfl) (Xg.opx_pure ((Value.bool true)) rfl (fun _ => by kernel_rfl) ?_)
    refine Xg.ops_op (by kernel_rfl) (Xg.opx_pure ((Value.int IntKind.i64 (0 : Int))) rfl (fun _ => by kernel_rfl) ?_)
    refine Xg.ops_op (by kernel_rfl) (Xg.opx_pure ((Value.bool true)) rfl (fun _ => by kernel_rfl) ?_)
    refine Xg.ops_op (by kernel_rfl) (Xg.opx_pure ((Value.bool true)) rfl (fun _ => by kernel_rfl) ?_)
    refine Xg.ops_op (by kernel_rfl) (Xg.opx_pure ((Value.bool true)) rfl (fun _ => by kernel_rfl) ?_)
    refine Xg.ops_op (by kernel_rfl) (Xg.opx_pure ((Value.int IntKind.i64 ((248 : Int) + (↑xx2 : Int) % (8 : Int)))) rfl (fun _ => by kernel_rfl) ?_)
    refine Xg.ops_op (by kernel_rfl) (Xg.opx_pure ((Value.int IntKind.i64 (↑xx2 : Int))) rfl (fun _ => by kernel_rfl) ?_)
    refine Xg.ops_op (by kernel_rfl) (Xg.opx_int .i64 (Int.tmod (((↑xx2 : Int))) (((8 : Int)))) rfl (fun _ => by kernel_rfl) (Xg.rem_mod _ _ (by omega)) ?_)
    refine Xg.ops_op (by kernel_rfl) (Xg.opx_int .i64 (IntKind.wrap .i64 (((248 : Int) + (↑xx2 : Int) % (8 : Int)))) rfl (fun _ => by kernel_rfl) (Xg.wrap_i64_in (by omega)) ?_)
    refine Xg.ops_op (by kernel_rfl) (Xg.opx_pure (.bool (decide ((((248 : Int) + (↑xx2 : Int) % (8 : Int)) : Int) = ((248 : Int) + (↑xx2 : Int) % (8 : Int))))) rfl (fun _ => by kernel_rfl) ?_)
    refine Xg.ops_op (by kernel_rfl) (Xg.opx_pure ((Value.bool (decide ((248 : Int) + (↑xx2 : Int) % (8 : Int) = (248 : Int) + (↑xx2 : Int) % (8 : Int))))) rfl (fun _ => by kernel_rfl) ?_)
    refine Xg.ops_op (by kernel_rfl) (Xg.opx_pure ((Value.bool (decide ((248 : Int) + (↑xx2 : Int) % (8 : Int) = (248 : Int) + (↑xx2 : Int) % (8 : Int))))) rfl (fun _ => by kernel_rfl) ?_)
    refine Xg.ops_nil ?_
    refine Xg.at_ret_ps (v := (Value.bool (decide ((248 : Int) + (↑xx2 : Int) % (8 : Int) = (248 : Int) + (↑xx2 : Int) % (8 : Int))))) [1, 4] [(Drv te), A] Go.Proofs.Tryd.func5 (fun _ => by kernel_rfl) (by kernel_rfl) (by kernel_rfl) ?_)
  all_goals exact ⟨by simp, rfl⟩

end Go.Proofs.YtncdmccdclhokaaDoor
