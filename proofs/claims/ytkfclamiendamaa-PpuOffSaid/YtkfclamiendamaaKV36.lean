/- The law PpuOff: the walk. -/
import Derived.Test.YtkfclamiendamaaKV34
import Derived.Test.YtkfclamiendamaaKS
namespace Go.Proofs.Ytkfclamiendamaa
open Go.Sl Go.Xg
set_option linter.unusedVariables false
set_option linter.unusedSimpArgs false
set_option maxHeartbeats 4000000
set_option maxRecDepth 100000

theorem frame_z (s : Sn) (p : Nat) (σ : Pp) (h : Of s σ) : Does Try.prog 43 [pt p] [PpR p σ]
    (RetE (fun x : Option Addr × Nat × List Int => x.2.2.length = 23040 ∧ ∀ i, i < 23040 → x.2.2.getD i 0 = 0) (fun x => .slice x.1 x.2.2.length x.2.1) (fun x => [ints 5 .u8 x.1 x.2.1 x.2.2, PpR p σ])) :=
  (frame_d p σ).mono fun _ _ ⟨x, ⟨h1, h2⟩, e1, e2⟩ => ⟨x, ⟨h1, fun i hi => (h2 i hi).trans (h.last i)⟩, e1, e2⟩

set_option maxHeartbeats 0 in
theorem poff_d (A : HP) (s : Sn) (hs : s.Ok A) (n : Int) (hn : i64ok n) (m : Int) (hm : i64ok m) : Does Try.prog 15 [snV s, .int .i64 n, .int .i64 m] [A] (Ret (.bool true) [A]) := by
  have hsh := shot_d A s hs
  have hnew : Does Try.prog 21 [] [] (RetE (fun x : Nat => True) (fun x => pt x) (fun x => [PpR x newP])) := new_d
  have hset : ∀ p, Does Try.prog 37 [snV s, pt p] [A, PpR p newP] (RetE (fun x : Pp => Done s newP.vram x) (fun x => .tuple #[]) (fun x => [A, PpR p x])) := fun p => set_s A s hs p newP ok_new newP.vram rfl
  have hL := reg0_bd s
  have h127 := band127 s
  obtain ⟨L, hLL⟩ : ∃ L, regI s 0 = L := ⟨_, rfl⟩
  rw [hLL] at hL h127
  (focus
    refine Xg.spec_of Go.Proofs.Try.func15 rfl Go.Proofs.Try.ntmps15 fun g F => ?_)
  (focus
    refine Xg.at_seq ?_
    refine Xg.at_region ?_
    refine Xg.ops_op (by kernel_rfl) (Xg.opx_box (v := (Value.agg #[Value.slice s.ra s.rn s.rc, Value.slice s.oa s.on s.oc, Value.slice s.pa s.pn s.pc])) [Value.slice s.ra s.rn s.rc, Value.slice s.oa s.on s.oc, Value.slice s.pa s.pn s.pc] (by kernel_rfl) (by kernel_rfl) fun xb1 => ?_)
    refine Xg.ops_op (by kernel_rfl) (Xg.opx_pure ((Value.bool false)) rfl (fun _ => by kernel_rfl) ?_)
    refine Xg.ops_nil ?_
    refine Xg.at_seq ?_
    refine Xg.at_region ?_
    refine Xg.ops_op (by kernel_rfl) (Xg.opx_call1' [] [row xb1 (36 : Nat) [Value.slice s.ra s.rn s.rc, Value.slice s.oa s.on s.oc, Value.slice s.pa s.pn s.pc], A] (fun _ => by kernel_rfl) (@Go.Proofs.Ytkfclamiendamaa.known_d ) (by kernel_rfl) (by kernel_rfl) (by kernel_rfl) ?_)
    refine Xg.ops_op (by kernel_rfl) (Xg.opx_pure ((Value.bool true)) rfl (fun _ => by kernel_rfl) ?_)
    refine Xg.ops_nil ?_
    refine Xg.at_seq ?_
    refine Xg.at_region ?_
    refine Xg.ops_op (by kernel_rfl) (Xg.opx_callE' [] (fun xx1 => [PpR xx1 newP, row xb1 (36 : Nat) [Value.slice s.ra s.rn s.rc, Value.slice s.oa s.on s.oc, Value.slice s.pa s.pn s.pc], A]) (fun _ => by kernel_rfl) (@hnew ) (by kernel_rfl) (by kernel_rfl) (by kernel_rfl) fun xx1 xh1 => ?_)
    try dsimp only at xh1
    refine Xg.ops_op (by kernel_rfl) (Xg.opx_pure ((pv xx1 0)) rfl (fun _ => by kernel_rfl) ?_)
    refine Xg.ops_nil ?_
    refine Xg.at_seq ?_
    refine Xg.at_seq ?_
    refine Xg.at_region ?_
    refine Xg.ops_op (by kernel_rfl) (Xg.opx_pure ((Value.bool true)) rfl (fun _ => by kernel_rfl) ?_)
    refine Xg.ops_op (by kernel_rfl) (Xg.opx_pure (.bool false) rfl (fun _ => by kernel_rfl) ?_)
    refine Xg.ops_op (by kernel_rfl) (Xg.opx_pure ((Value.bool false)) rfl (fun _ => by kernel_rfl) ?_)
    refine Xg.ops_op (by kernel_rfl) (Xg.opx_pure ((pv xx1 0)) rfl (fun _ => by kernel_rfl) ?_)
    refine Xg.ops_op (by kernel_rfl) (Xg.opx_pure ((Value.bool false)) rfl (fun _ => by kernel_rfl) ?_)
    refine Xg.ops_op (by kernel_rfl) (Xg.opx_pure ((Value.bool false)) rfl (fun _ => by kernel_rfl) ?_)
    refine Xg.ops_nil ?_
    refine Xg.at_false (t := false) (by kernel_rfl) rfl ?_
    refine Xg.at_skip ?_
    refine Xg.at_seq ?_
    refine Xg.at_region ?_
    refine Xg.ops_op (by kernel_rfl) (Xg.opx_loadn (off := 0) 3 1 [Value.slice s.ra s.rn s.rc, Value.slice s.oa s.on s.oc, Value.slice s.pa s.pn s.pc] (by kernel_rfl) rfl (by kernel_rfl) rfl (Xg.cells_at (by kernel_rfl)) (by kernel_rfl) ?_)
    refine Xg.ops_op (by kernel_rfl) (Xg.opx_pure ((pv xx1 0)) rfl (fun _ => by kernel_rfl) ?_)
    refine Xg.ops_op (by kernel_rfl) (Xg.opx_callE' [2, 0] (fun xx2 => [A, PpR xx1 xx2, row xb1 (36 : Nat) [Value.slice s.ra s.rn s.rc, Value.slice s.oa s.on s.oc, Value.slice s.pa s.pn s.pc]]) (fun _ => by kernel_rfl) (@hset (xx1)) (by kernel_rfl) (by kernel_rfl) (by kernel_rfl) fun xx2 xh2 => ?_)
    try dsimp only at xh2
    refine Xg.ops_nil ?_
    refine Xg.at_seq ?_
    refine Xg.at_seq ?_
    refine Xg.at_region ?_
    refine Xg.ops_op (by kernel_rfl) (Xg.opx_pure ((iv n)) rfl (fun _ => by kernel_rfl) ?_)
    refine Xg.ops_op (by kernel_rfl) (Xg.opx_callE' [] (fun xx3 => [A, PpR xx1 xx2, row xb1 (36 : Nat) [Value.slice s.ra s.rn s.rc, Value.slice s.oa s.on s.oc, Value.slice s.pa s.pn s.pc]]) (fun _ => by kernel_rfl) (@Go.Proofs.Ytkfclamiendamaa.pick_d (n) ((nat_lit 40000)) (by omega) (by first | rfl | decide | (constructor <;> omega) | (simp; done) | (simp; omega))) (by kernel_rfl) (by kernel_rfl) (by kernel_rfl) fun xx3 xh3 => ?_)
    try dsimp only at xh3
    obtain ⟨xh3_0, xh3_1⟩ := xh3
    refine Xg.ops_op (by kernel_rfl) (Xg.opx_pure ((iv (↑xx3 : Int))) rfl (fun _ => by kernel_rfl) ?_)
    refine Xg.ops_nil ?_
    refine Xg.at_block ?_)
  have t0 : Kp s xx2 := kp_done (by assumption)
  (focus
    refine Xg.at_rounds_inv (α := (Int × Pp) × (Nat → Value)) (fun x => ((fun x => 0 ≤ x.1 ∧ x.1 ≤ 40000 ∧ Kp s x.2) : (Int × Pp) → Prop) x.1) (fun x => ((fun x => x.1.toNat) : (Int × Pp) → Nat) x.1) (fun x => Xg.headT [Value.agg #[Value.slice s.ra s.rn s.rc, Value.slice s.oa s.on s.oc, Value.slice s.pa s.pn s.pc], iv n, iv m, pv xb1 0, tu, tu, Value.bool false, Value.bool true, pv xx1 0, iv (↑xx3 : Int), tu, tu, tu, tu, tu, tu, tu, tu, tu, tu, Value.bool true, pv xx1 0, Value.bool true, Value.bool false, Value.bool false, pv xx1 0, Value.bool false, Value.bool false, Value.agg #[Value.slice s.ra s.rn s.rc, Value.slice s.oa s.on s.oc, Value.slice s.pa s.pn s.pc], pv xx1 0, tu, iv n, iv (↑xx3 : Int), tu, tu, tu, tu, tu, tu, tu, tu, tu, tu, tu, tu, tu, tu, tu, tu, tu, tu, tu, tu, tu, tu, tu, tu, tu, tu, tu, tu, tu, tu, tu, tu, tu, tu, tu, tu, tu, tu, tu, tu, tu, tu, tu, tu, tu, tu, tu, tu, tu, tu, tu, tu, tu, tu, tu, tu, tu, tu, tu, tu, tu, tu, tu, tu, tu, tu, tu, tu, tu, tu, tu, tu, tu, tu, tu, tu, tu, tu, tu, tu, tu, tu, tu, tu, tu, tu, tu, tu, tu, tu, tu, tu, tu, tu, tu, tu, tu, tu, tu, tu, tu, tu, tu, tu] [33, 34, 35, 36, 37, 38] (((fun x => [(9, .int .i64 x.1)]) : (Int × Pp) → List (Nat × Go.Value)) x.1) x.2) (fun x => ((fun x => [A, PpR xx1 x.2, row xb1 36 [.slice s.ra s.rn s.rc, .slice s.oa s.on s.oc, .slice s.pa s.pn s.pc]]) : (Int × Pp) → List Go.Sl.HP) x.1) ((((xx3 : Int), xx2)), fun j => ([Value.agg #[Value.slice s.ra s.rn s.rc, Value.slice s.oa s.on s.oc, Value.slice s.pa s.pn s.pc], iv n, iv m, pv xb1 0, tu, tu, Value.bool false, Value.bool true, pv xx1 0, iv (↑xx3 : Int), tu, tu, tu, tu, tu, tu, tu, tu, tu, tu, Value.bool true, pv xx1 0, Value.bool true, Value.bool false, Value.bool false, pv xx1 0, Value.bool false, Value.bool false, Value.agg #[Value.slice s.ra s.rn s.rc, Value.slice s.oa s.on s.oc, Value.slice s.pa s.pn s.pc], pv xx1 0, tu, iv n, iv (↑xx3 : Int), tu, tu, tu, tu, tu, tu, tu, tu, tu, tu, tu, tu, tu, tu, tu, tu, tu, tu, tu, tu, tu, tu, tu, tu, tu, tu, tu, tu, tu, tu, tu, tu, tu, tu, tu, tu, tu, tu, tu, tu, tu, tu, tu, tu, tu, tu, tu, tu, tu, tu, tu, tu, tu, tu, tu, tu, tu, tu, tu, tu, tu, tu, tu, tu, tu, tu, tu, tu, tu, tu, tu, tu, tu, tu, tu, tu, tu, tu, tu, tu, tu, tu, tu, tu, tu, tu, tu, tu, tu, tu, tu, tu, tu, tu, tu, tu, tu, tu, tu, tu, tu, tu, tu, tu] : List Value).getD j undef) (by kernel_rfl) (by kernel_rfl) ?_ ?_)
  · exact ⟨by dsimp only; omega, by dsimp only; omega, t0⟩
  rintro ⟨⟨i, σ⟩, J⟩ ⟨hi, hi2, hz⟩ ih
  dsimp only at hi hi2 hz
  have hok := hz.ok
  (focus
    refine Xg.At.same (T' := [Value.agg #[Value.slice s.ra s.rn s.rc, Value.slice s.oa s.on s.oc, Value.slice s.pa s.pn s.pc], iv n, iv m, pv xb1 0, tu, tu, Value.bool false, Value.bool true, pv xx1 0, iv i, tu, tu, tu, tu, tu, tu, tu, tu, tu, tu, Value.bool true, pv xx1 0, Value.bool true, Value.bool false, Value.bool false, pv xx1 0, Value.bool false, Value.bool false, Value.agg #[Value.slice s.ra s.rn s.rc, Value.slice s.oa s.on s.oc, Value.slice s.pa s.pn s.pc], pv xx1 0, tu, iv n, iv (↑xx3 : Int), J 33, J 34, J 35, J 36, J 37, J 38, tu, tu, tu, tu, tu, tu, tu, tu, tu, tu, tu, tu, tu, tu, tu, tu, tu, tu, tu, tu, tu, tu, tu, tu, tu, tu, tu, tu, tu, tu, tu, tu, tu, tu, tu, tu, tu, tu, tu, tu, tu, tu, tu, tu, tu, tu, tu, tu, tu, tu, tu, tu, tu, tu, tu, tu, tu, tu, tu, tu, tu, tu, tu, tu, tu, tu, tu, tu, tu, tu, tu, tu, tu, tu, tu, tu, tu, tu, tu, tu, tu, tu, tu, tu, tu, tu, tu, tu, tu, tu, tu, tu, tu, tu, tu, tu, tu, tu]) (L' := [A, PpR xx1 ((i, σ), J).fst.snd, row xb1 (36 : TypeId) [Value.slice s.ra s.rn s.rc, Value.slice s.oa s.on s.oc, Value.slice s.pa s.pn s.pc]]) (by kernel_rfl) rfl ?_)
  by_cases hlt : 0 < i
  · have htk : Does Try.prog 38 [pt xx1] [PpR xx1 σ] (RetE (fun x : Pp × Int => x.1 = tickP σ) (fun x => .int .i64 x.2) (fun x => [PpR xx1 x.1])) :=
      (tick_d xx1 σ hok).mono fun _ _ ⟨x, ⟨h1, _⟩, e1, e2⟩ => ⟨x, h1, e1, e2⟩
    (focus
      refine Xg.at_seq ?_
      refine Xg.at_seq ?_
      refine Xg.at_region ?_
      refine Xg.ops_op (by kernel_rfl) (Xg.opx_pure ((iv i)) rfl (fun _ => by kernel_rfl) ?_)
      refine Xg.ops_op (by kernel_rfl) (Xg.opx_pure (.bool (decide ((i : Int) > ((0 : Int))))) rfl (fun _ => by kernel_rfl) ?_)
      refine Xg.ops_nil ?_
      refine Xg.at_true (t := decide ((i > (0 : Int)))) (by kernel_rfl) (decide_eq_true (by omega)) ?_
      refine Xg.at_skip ?_
      refine Xg.at_seq ?_
      refine Xg.at_block ?_
      refine Xg.at_region ?_
      refine Xg.ops_op (by kernel_rfl) (Xg.opx_pure ((pv xx1 0)) rfl (fun _ => by kernel_rfl) ?_)
      refine Xg.ops_op (by kernel_rfl) (Xg.opx_callE' [1] (fun xx4 => [PpR xx1 xx4.fst, A, row xb1 (36 : TypeId) [Value.slice s.ra s.rn s.rc, Value.slice s.oa s.on s.oc, Value.slice s.pa s.pn s.pc]]) (fun _ => by kernel_rfl) (@htk ) (by kernel_rfl) (by kernel_rfl) (by kernel_rfl) fun xx4 xh4 => ?_)
      try dsimp only at xh4
      refine Xg.ops_nil ?_
      refine Xg.at_inBlock ?_
      refine Xg.at_region ?_
      refine Xg.ops_op (by kernel_rfl) (Xg.opx_pure ((iv i)) rfl (fun _ => by kernel_rfl) ?_)
      refine Xg.ops_op (by kernel_rfl) (Xg.opx_int .i64 (IntKind.wrap .i64 ((i - (1 : Int)))) rfl (fun _ => by kernel_rfl) (Xg.wrap_i64_in (by omega)) ?_)
      refine Xg.ops_op (by kernel_rfl) (Xg.opx_pure ((iv (i - (1 : Int)))) rfl (fun _ => by kernel_rfl) ?_)
      refine Xg.ops_nil ?_
      refine Xg.at_inLoop ?_)
    (focus
      refine Xg.at_keep [1, 0, 2] (by kernel_rfl) ?_
      refine Xg.At.same (by kernel_rfl) ?_ (ih (((i - 1, xx4.1)), fun j => ([Value.agg #[Value.slice s.ra s.rn s.rc, Value.slice s.oa s.on s.oc, Value.slice s.pa s.pn s.pc], iv n, iv m, pv xb1 0, tu, tu, Value.bool false, Value.bool true, pv xx1 0, iv (i - (1 : Int)), tu, tu, tu, tu, tu, tu, tu, tu, tu, tu, Value.bool true, pv xx1 0, Value.bool true, Value.bool false, Value.bool false, pv xx1 0, Value.bool false, Value.bool false, Value.agg #[Value.slice s.ra s.rn s.rc, Value.slice s.oa s.on s.oc, Value.slice s.pa s.pn s.pc], pv xx1 0, tu, iv n, iv (↑xx3 : Int), iv i, Value.bool (decide (i > (0 : Int))), iv i, iv (i - (1 : Int)), pv xx1 0, iv xx4.snd, tu, tu, tu, tu, tu, tu, tu, tu, tu, tu, tu, tu, tu, tu, tu, tu, tu, tu, tu, tu, tu, tu, tu, tu, tu, tu, tu, tu, tu, tu, tu, tu, tu, tu, tu, tu, tu, tu, tu, tu, tu, tu, tu, tu, tu, tu, tu, tu, tu, tu, tu, tu, tu, tu, tu, tu, tu, tu, tu, tu, tu, tu, tu, tu, tu, tu, tu, tu, tu, tu, tu, tu, tu, tu, tu, tu, tu, tu, tu, tu, tu, tu, tu, tu, tu, tu, tu, tu, tu, tu, tu, tu, tu, tu, tu, tu, tu, tu] : List Value).getD j undef) ?_ ?_))
    · rfl
    · exact ⟨by dsimp only; omega, by dsimp only; omega, by rw [show xx4.1 = tickP σ by assumption]; exact kp_tick hz⟩
    · dsimp only; omega
  · clear ih
    have hi0 : i = 0 := by omega
    subst hi0
    have rL := read_d xx1 σ hok.wf 65344 (by omega)
    rw [r0_read, hz.r0, hLL] at rL
    have ho := of_kp hz
    rw [hLL] at ho
    have hw1 := write_d xx1 σ hok.wf 65345 120 (by omega)
    have hw2 := write_d xx1 _ (ok_write hok 65345 120).wf 65344 (L - 128) (by omega)
    obtain ⟨τ1, hτ1⟩ : ∃ τ, writeP σ 65345 120 = τ := ⟨_, rfl⟩
    rw [hτ1] at ho hw1 hw2
    obtain ⟨τ, hτ⟩ : ∃ τ, writeP τ1 65344 (L - 128) = τ := ⟨_, rfl⟩
    rw [hτ] at ho hw2
    rw [← h127] at hw2
    (focus
      refine Xg.at_seq ?_
      refine Xg.at_seq ?_
      refine Xg.at_region ?_
      refine Xg.ops_op (by kernel_rfl) (Xg.opx_pure ((iv 0)) rfl (fun _ => by kernel_rfl) ?_)
      refine Xg.ops_op (by kernel_rfl) (Xg.opx_pure ((Value.bool false)) rfl (fun _ => by kernel_rfl) ?_)
      refine Xg.ops_nil ?_
      refine Xg.at_false (t := false) (by kernel_rfl) rfl ?_
      refine Xg.at_exit rfl ?_
      refine Xg.at_seq ?_
      refine Xg.at_region ?_
      refine Xg.ops_op (by kernel_rfl) (Xg.opx_pure ((pv xx1 0)) rfl (fun _ => by kernel_rfl) ?_)
      refine Xg.ops_op (by kernel_rfl) (Xg.opx_call1' [1] [PpR xx1 σ, A, row xb1 (36 : TypeId) [Value.slice s.ra s.rn s.rc, Value.slice s.oa s.on s.oc, Value.slice s.pa s.pn s.pc]] (fun _ => by kernel_rfl) (@rL ) (by kernel_rfl) (by kernel_rfl) (by kernel_rfl) ?_)
      refine Xg.ops_op (by kernel_rfl) (Xg.opx_pure ((iv L)) rfl (fun _ => by kernel_rfl) ?_)
      refine Xg.ops_nil ?_
      refine Xg.at_seq ?_
      refine Xg.at_region ?_
      refine Xg.ops_op (by kernel_rfl) (Xg.opx_pure ((pv xx1 0)) rfl (fun _ => by kernel_rfl) ?_)
      refine Xg.ops_op (by kernel_rfl) (Xg.opx_call1' [0] [PpR xx1 τ1, A, row xb1 (36 : TypeId) [Value.slice s.ra s.rn s.rc, Value.slice s.oa s.on s.oc, Value.slice s.pa s.pn s.pc]] (fun _ => by kernel_rfl) (@hw1 ) (by kernel_rfl) (by kernel_rfl) (by kernel_rfl) ?_)
      refine Xg.ops_nil ?_
      refine Xg.at_seq ?_
      refine Xg.at_region ?_
      refine Xg.ops_op (by kernel_rfl) (Xg.opx_pure ((pv xx1 0)) rfl (fun _ => by kernel_rfl) ?_)
      refine Xg.ops_op (by kernel_rfl) (Xg.opx_pure ((iv L)) rfl (fun _ => by kernel_rfl) ?_)
      refine Xg.ops_op (by kernel_rfl) (Xg.opx_pure (.int .i64 (Xg.band .i64 (L) (((127 : Int))))) rfl (fun _ => by kernel_rfl) ?_)
      refine Xg.ops_op (by kernel_rfl) (Xg.opx_call1' [0] [PpR xx1 τ, A, row xb1 (36 : TypeId) [Value.slice s.ra s.rn s.rc, Value.slice s.oa s.on s.oc, Value.slice s.pa s.pn s.pc]] (fun _ => by kernel_rfl) (@hw2 ) (by kernel_rfl) (by kernel_rfl) (by kernel_rfl) ?_)
      refine Xg.ops_nil ?_
      refine Xg.at_seq ?_
      refine Xg.at_seq ?_
      refine Xg.at_region ?_
      refine Xg.ops_op (by kernel_rfl) (Xg.opx_pure ((iv m)) rfl (fun _ => by kernel_rfl) ?_)
      refine Xg.ops_op (by kernel_rfl) (Xg.opx_callE' [] (fun xx4 => [PpR xx1 τ, A, row xb1 (36 : TypeId) [Value.slice s.ra s.rn s.rc, Value.slice s.oa s.on s.oc, Value.slice s.pa s.pn s.pc]]) (fun _ => by kernel_rfl) (@Go.Proofs.Ytkfclamiendamaa.pick_d (m) ((nat_lit 300)) (by omega) (by first | rfl | decide | (constructor <;> omega) | (simp; done) | (simp; omega))) (by kernel_rfl) (by kernel_rfl) (by kernel_rfl) fun xx4 xh4 => ?_)
      try dsimp only at xh4
      obtain ⟨xh4_0, xh4_1⟩ := xh4
      refine Xg.ops_op (by kernel_rfl) (Xg.opx_pure ((iv (↑xx4 : Int))) rfl (fun _ => by kernel_rfl) ?_)
      refine Xg.ops_nil ?_
      refine Xg.at_block ?_)
    have htk0 : Does Try.prog 38 [pt xx1] [PpR xx1 τ] (Ret (.int .i64 0) [PpR xx1 τ]) := by
      have := tick_d0 xx1 τ ho.ok
      rwa [(of_tick ho).1, (of_tick ho).2] at this
    clear rL hw1 hw2 hτ hτ1
    (focus
      refine Xg.at_rounds_inv (α := (Int) × (Nat → Value)) (fun x => ((fun x => 0 ≤ x ∧ x ≤ 300) : (Int) → Prop) x.1) (fun x => ((fun x => x.toNat) : (Int) → Nat) x.1) (fun x => Xg.headT [Value.agg #[Value.slice s.ra s.rn s.rc, Value.slice s.oa s.on s.oc, Value.slice s.pa s.pn s.pc], iv n, iv m, pv xb1 0, tu, tu, Value.bool false, Value.bool true, pv xx1 0, iv 0, iv L, iv (↑xx4 : Int), tu, tu, tu, tu, tu, tu, tu, tu, Value.bool true, pv xx1 0, Value.bool true, Value.bool false, Value.bool false, pv xx1 0, Value.bool false, Value.bool false, Value.agg #[Value.slice s.ra s.rn s.rc, Value.slice s.oa s.on s.oc, Value.slice s.pa s.pn s.pc], pv xx1 0, tu, iv n, iv (↑xx3 : Int), iv 0, Value.bool false, (((0 : Int), σ), J).snd (35 : Nat), (((0 : Int), σ), J).snd (36 : Nat), (((0 : Int), σ), J).snd (37 : Nat), (((0 : Int), σ), J).snd (38 : Nat), pv xx1 0, iv L, pv xx1 0, tu, pv xx1 0, iv L, iv (band IntKind.i64 L (127 : Int)), tu, iv m, iv (↑xx4 : Int), tu, tu, tu, tu, tu, tu, tu, tu, tu, tu, tu, tu, tu, tu, tu, tu, tu, tu, tu, tu, tu, tu, tu, tu, tu, tu, tu, tu, tu, tu, tu, tu, tu, tu, tu, tu, tu, tu, tu, tu, tu, tu, tu, tu, tu, tu, tu, tu, tu, tu, tu, tu, tu, tu, tu, tu, tu, tu, tu, tu, tu, tu, tu, tu, tu, tu, tu, tu, tu, tu, tu, tu, tu, tu, tu, tu, tu, tu, tu, tu, tu, tu, tu, tu, tu, tu, tu, tu] [6, 12, 49, 50, 51, 52, 53, 54, 55, 56] (((fun x => [(11, .int .i64 x)]) : (Int) → List (Nat × Go.Value)) x.1) x.2) (fun x => ((fun x => [PpR xx1 τ, A, row xb1 36 [.slice s.ra s.rn s.rc, .slice s.oa s.on s.oc, .slice s.pa s.pn s.pc]]) : (Int) → List Go.Sl.HP) x.1) (((xx4 : Int)), fun j => ([Value.agg #[Value.slice s.ra s.rn s.rc, Value.slice s.oa s.on s.oc, Value.slice s.pa s.pn s.pc], iv n, iv m, pv xb1 0, tu, tu, Value.bool false, Value.bool true, pv xx1 0, iv 0, iv L, iv (↑xx4 : Int), tu, tu, tu, tu, tu, tu, tu, tu, Value.bool true, pv xx1 0, Value.bool true, Value.bool false, Value.bool false, pv xx1 0, Value.bool false, Value.bool false, Value.agg #[Value.slice s.ra s.rn s.rc, Value.slice s.oa s.on s.oc, Value.slice s.pa s.pn s.pc], pv xx1 0, tu, iv n, iv (↑xx3 : Int), iv 0, Value.bool false, (((0 : Int), σ), J).snd (35 : Nat), (((0 : Int), σ), J).snd (36 : Nat), (((0 : Int), σ), J).snd (37 : Nat), (((0 : Int), σ), J).snd (38 : Nat), pv xx1 0, iv L, pv xx1 0, tu, pv xx1 0, iv L, iv (band IntKind.i64 L (127 : Int)), tu, iv m, iv (↑xx4 : Int), tu, tu, tu, tu, tu, tu, tu, tu, tu, tu, tu, tu, tu, tu, tu, tu, tu, tu, tu, tu, tu, tu, tu, tu, tu, tu, tu, tu, tu, tu, tu, tu, tu, tu, tu, tu, tu, tu, tu, tu, tu, tu, tu, tu, tu, tu, tu, tu, tu, tu, tu, tu, tu, tu, tu, tu, tu, tu, tu, tu, tu, tu, tu, tu, tu, tu, tu, tu, tu, tu, tu, tu, tu, tu, tu, tu, tu, tu, tu, tu, tu, tu, tu, tu, tu, tu, tu, tu] : List Value).getD j undef) (by kernel_rfl) (by kernel_rfl) ?_ ?_)
    · exact ⟨by dsimp only; omega, by dsimp only; omega⟩
    rintro ⟨i, J2⟩ ⟨hi3, hi4⟩ ih
    dsimp only at hi3 hi4
    (focus
      refine Xg.At.same (T' := [Value.agg #[Value.slice s.ra s.rn s.rc, Value.slice s.oa s.on s.oc, Value.slice s.pa s.pn s.pc], iv n, iv m, pv xb1 0, tu, tu, J2 6, Value.bool true, pv xx1 0, iv 0, iv L, iv i, J2 12, tu, tu, tu, tu, tu, tu, tu, Value.bool true, pv xx1 0, Value.bool true, Value.bool false, Value.bool false, pv xx1 0, Value.bool false, Value.bool false, Value.agg #[Value.slice s.ra s.rn s.rc, Value.slice s.oa s.on s.oc, Value.slice s.pa s.pn s.pc], pv xx1 0, tu, iv n, iv (↑xx3 : Int), iv 0, Value.bool false, (((0 : Int), σ), J).snd (35 : Nat), (((0 : Int), σ), J).snd (36 : Nat), (((0 : Int), σ), J).snd (37 : Nat), (((0 : Int), σ), J).snd (38 : Nat), pv xx1 0, iv L, pv xx1 0, tu, pv xx1 0, iv L, iv (band IntKind.i64 L (127 : Int)), tu, iv m, iv (↑xx4 : Int), J2 49, J2 50, J2 51, J2 52, J2 53, J2 54, J2 55, J2 56, tu, tu, tu, tu, tu, tu, tu, tu, tu, tu, tu, tu, tu, tu, tu, tu, tu, tu, tu, tu, tu, tu, tu, tu, tu, tu, tu, tu, tu, tu, tu, tu, tu, tu, tu, tu, tu, tu, tu, tu, tu, tu, tu, tu, tu, tu, tu, tu, tu, tu, tu, tu, tu, tu, tu, tu, tu, tu, tu, tu, tu, tu, tu, tu, tu, tu, tu, tu, tu, tu, tu, tu, tu, tu, tu, tu, tu, tu, tu, tu]) (L' := [PpR xx1 τ, A, row xb1 (36 : TypeId) [Value.slice s.ra s.rn s.rc, Value.slice s.oa s.on s.oc, Value.slice s.pa s.pn s.pc]]) (by kernel_rfl) rfl ?_)
    by_cases hlt2 : 0 < i
    · (focus
        refine Xg.at_seq ?_
        refine Xg.at_seq ?_
        refine Xg.at_region ?_
        refine Xg.ops_op (by kernel_rfl) (Xg.opx_pure ((iv i)) rfl (fun _ => by kernel_rfl) ?_)
        refine Xg.ops_op (by kernel_rfl) (Xg.opx_pure (.bool (decide ((i : Int) > ((0 : Int))))) rfl (fun _ => by kernel_rfl) ?_)
        refine Xg.ops_nil ?_
        refine Xg.at_true (t := decide ((i > (0 : Int)))) (by kernel_rfl) (decide_eq_true (by omega)) ?_
        refine Xg.at_skip ?_
        refine Xg.at_seq ?_
        refine Xg.at_block ?_
        refine Xg.at_seq ?_
        refine Xg.at_region ?_
        refine Xg.ops_op (by kernel_rfl) (Xg.opx_pure ((pv xx1 0)) rfl (fun _ => by kernel_rfl) ?_)
        refine Xg.ops_op (by kernel_rfl) (Xg.opx_call1' [0] [PpR xx1 τ, A, row xb1 (36 : TypeId) [Value.slice s.ra s.rn s.rc, Value.slice s.oa s.on s.oc, Value.slice s.pa s.pn s.pc]] (fun _ => by kernel_rfl) (@htk0 ) (by kernel_rfl) (by kernel_rfl) (by kernel_rfl) ?_)
        refine Xg.ops_op (by kernel_rfl) (Xg.opx_pure ((iv 0)) rfl (fun _ => by kernel_rfl) ?_)
        refine Xg.ops_nil ?_
        refine Xg.at_seq ?_
        refine Xg.at_region ?_
        refine Xg.ops_op (by kernel_rfl) (Xg.opx_pure ((iv 0)) rfl (fun _ => by kernel_rfl) ?_)
        refine Xg.ops_op (by kernel_rfl) (Xg.opx_pure ((Value.bool false)) rfl (fun _ => by kernel_rfl) ?_)
        refine Xg.ops_nil ?_
        refine Xg.at_false (t := false) (by kernel_rfl) rfl ?_
        refine Xg.at_skip ?_
        refine Xg.at_inBlock ?_
        refine Xg.at_region ?_
        refine Xg.ops_op (by kernel_rfl) (Xg.opx_pure ((iv i)) rfl (fun _ => by kernel_rfl) ?_)
        refine Xg.ops_op (by kernel_rfl) (Xg.opx_int .i64 (IntKind.wrap .i64 ((i - (1 : Int)))) rfl (fun _ => by kernel_rfl) (Xg.wrap_i64_in (by omega)) ?_)
        refine Xg.ops_op (by kernel_rfl) (Xg.opx_pure ((iv (i - (1 : Int)))) rfl (fun _ => by kernel_rfl) ?_)
        refine Xg.ops_nil ?_
        refine Xg.at_inLoop ?_)
      (focus
        refine Xg.at_keep [0, 1, 2] (by kernel_rfl) ?_
        refine Xg.At.same (by kernel_rfl) ?_ (ih (((i - 1)), fun j => ([Value.agg #[Value.slice s.ra s.rn s.rc, Value.slice s.oa s.on s.oc, Value.slice s.pa s.pn s.pc], iv n, iv m, pv xb1 0, tu, tu, J2 6, Value.bool true, pv xx1 0, iv 0, iv L, iv (i - (1 : Int)), iv 0, tu, tu, tu, tu, tu, tu, tu, Value.bool true, pv xx1 0, Value.bool true, Value.bool false, Value.bool false, pv xx1 0, Value.bool false, Value.bool false, Value.agg #[Value.slice s.ra s.rn s.rc, Value.slice s.oa s.on s.oc, Value.slice s.pa s.pn s.pc], pv xx1 0, tu, iv n, iv (↑xx3 : Int), iv 0, Value.bool false, (((0 : Int), σ), J).snd (35 : Nat), (((0 : Int), σ), J).snd (36 : Nat), (((0 : Int), σ), J).snd (37 : Nat), (((0 : Int), σ), J).snd (38 : Nat), pv xx1 0, iv L, pv xx1 0, tu, pv xx1 0, iv L, iv (band IntKind.i64 L (127 : Int)), tu, iv m, iv (↑xx4 : Int), iv i, Value.bool (decide (i > (0 : Int))), iv i, iv (i - (1 : Int)), pv xx1 0, iv 0, iv 0, Value.bool false, tu, tu, tu, tu, tu, tu, tu, tu, tu, tu, tu, tu, tu, tu, tu, tu, tu, tu, tu, tu, tu, tu, tu, tu, tu, tu, tu, tu, tu, tu, tu, tu, tu, tu, tu, tu, tu, tu, tu, tu, tu, tu, tu, tu, tu, tu, tu, tu, tu, tu, tu, tu, tu, tu, tu, tu, tu, tu, tu, tu, tu, tu, tu, tu, tu, tu, tu, tu, tu, tu, tu, tu, tu, tu, tu, tu, tu, tu, tu, tu] : List Value).getD j undef) ?_ ?_))
      · rfl
      · exact ⟨by dsimp only; omega, by dsimp only; omega⟩
      · dsimp only; omega
    · clear ih
      have hi5 : i = 0 := by omega
      subst hi5
      have hln : Does Try.prog 41 [pt xx1] [PpR xx1 τ] (Ret (.tuple #[.int .i64 0, .int .i64 0]) [PpR xx1 τ]) := by
        have := line_d xx1 τ
        rwa [ho.ly, ho.clk] at this
      have hfr := frame_z s xx1 τ ho
      (focus
        refine Xg.at_seq ?_
        refine Xg.at_seq ?_
        refine Xg.at_region ?_
        refine Xg.ops_op (by kernel_rfl) (Xg.opx_pure ((iv 0)) rfl (fun _ => by kernel_rfl) ?_)
        refine Xg.ops_op (by kernel_rfl) (Xg.opx_pure ((Value.bool false)) rfl (fun _ => by kernel_rfl) ?_)
        refine Xg.ops_nil ?_
        refine Xg.at_false (t := false) (by kernel_rfl) rfl ?_
        refine Xg.at_exit rfl ?_
        refine Xg.at_seq ?_
        refine Xg.at_region ?_
        refine Xg.ops_op (by kernel_rfl) (Xg.opx_pure ((pv xx1 0)) rfl (fun _ => by kernel_rfl) ?_)
        refine Xg.ops_op (by kernel_rfl) (Xg.opx_call1' [0] [PpR xx1 τ, A, row xb1 (36 : TypeId) [Value.slice s.ra s.rn s.rc, Value.slice s.oa s.on s.oc, Value.slice s.pa s.pn s.pc]] (fun _ => by kernel_rfl) (@hln ) (by kernel_rfl) (by kernel_rfl) (by kernel_rfl) ?_)
        refine Xg.ops_op (by kernel_rfl) (Xg.opx_pure ((Value.tuple #[iv 0, iv 0])) rfl (fun _ => by kernel_rfl) ?_)
        refine Xg.ops_op (by kernel_rfl) (Xg.opx_pure ((iv 0)) rfl (fun _ => by kernel_rfl) ?_)
        refine Xg.ops_op (by kernel_rfl) (Xg.opx_pure ((iv 0)) rfl (fun _ => by kernel_rfl) ?_)
        refine Xg.ops_op (by kernel_rfl) (Xg.opx_pure ((iv 0)) rfl (fun _ => by kernel_rfl) ?_)
        refine Xg.ops_op (by kernel_rfl) (Xg.opx_pure ((iv 0)) rfl (fun _ => by kernel_rfl) ?_)
        refine Xg.ops_nil ?_
        refine Xg.at_seq ?_
        refine Xg.at_region ?_
        refine Xg.ops_op (by kernel_rfl) (Xg.opx_pure ((pv xx1 0)) rfl (fun _ => by kernel_rfl) ?_)
        refine Xg.ops_op (by kernel_rfl) (Xg.opx_callE' [0] (fun xx5 => [ints (5 : TypeId) IntKind.u8 xx5.fst xx5.snd.fst xx5.snd.snd, PpR xx1 τ, A, row xb1 (36 : TypeId) [Value.slice s.ra s.rn s.rc, Value.slice s.oa s.on s.oc, Value.slice s.pa s.pn s.pc]]) (fun _ => by kernel_rfl) (@hfr ) (by kernel_rfl) (by kernel_rfl) (by kernel_rfl) fun xx5 xh5 => ?_)
        try dsimp only at xh5
        obtain ⟨xh5_0, xh5_1⟩ := xh5
        refine Xg.ops_op (by kernel_rfl) (Xg.opx_pure ((Value.slice xx5.fst xx5.snd.snd.length xx5.snd.fst)) rfl (fun _ => by kernel_rfl) ?_)
        refine Xg.ops_nil ?_
        refine Xg.at_seq ?_
        refine Xg.at_seq ?_
        refine Xg.at_region ?_
        refine Xg.ops_op (by kernel_rfl) (Xg.opx_pure ((iv 0)) rfl (fun _ => by kernel_rfl) ?_)
        refine Xg.ops_nil ?_
        refine Xg.at_block ?_)
      have hz0 : ∀ i, i < 23040 → xx5.2.2.getD i 0 = 0 := by assumption
      have hlen5 : xx5.2.2.length = 23040 := by assumption
      have rS := read_d xx1 τ ho.ok.wf 65345 (by omega)
      have h3 := of_stat ho
      obtain ⟨R, hR⟩ : ∃ R, readI τ 65345 = R := ⟨_, rfl⟩
      rw [hR] at rS h3
      have rY := read_d xx1 τ ho.ok.wf 65348 (by omega)
      rw [ly_read, ho.ly] at rY
      have r0 := read_d xx1 τ ho.ok.wf 65344 (by omega)
      rw [r0_read, ho.r0, hLL] at r0
      have hd := of_done ho
      rw [hLL] at hd
      have hw3 := write_d xx1 τ ho.ok.wf 65345 0 (by omega)
      have hw4 := write_d xx1 _ (ok_write ho.ok 65345 0).wf 65344 L (by omega)
      obtain ⟨υ1, hυ1⟩ : ∃ υ, writeP τ 65345 0 = υ := ⟨_, rfl⟩
      rw [hυ1] at hd hw3 hw4
      obtain ⟨υ, hυ⟩ : ∃ υ, writeP υ1 65344 L = υ := ⟨_, rfl⟩
      rw [hυ] at hd hw4
      have hln2 : Does Try.prog 41 [pt xx1] [PpR xx1 υ] (Ret (.tuple #[.int .i64 0, .int .i64 0]) [PpR xx1 υ]) := by
        have := line_d xx1 υ
        rwa [hd.ly, hd.clk] at this
      have hone := one_h s xx1 υ hd
      clear hln hfr hset hnew hυ hυ1 hR
      (focus
        refine Xg.at_rounds_inv (α := (Nat) × (Nat → Value)) (fun x => ((fun x => x ≤ 23040) : (Nat) → Prop) x.1) (fun x => ((fun x => 23040 - x) : (Nat) → Nat) x.1) (fun x => Xg.headT [Value.agg #[Value.slice s.ra s.rn s.rc, Value.slice s.oa s.on s.oc, Value.slice s.pa s.pn s.pc], iv n, iv m, pv xb1 0, tu, tu, J2 6, Value.bool true, pv xx1 0, iv 0, iv L, iv 0, J2 12, iv 0, iv 0, Value.slice xx5.fst xx5.snd.snd.length xx5.snd.fst, iv 0, tu, tu, tu, Value.bool true, pv xx1 0, Value.bool true, Value.bool false, Value.bool false, pv xx1 0, Value.bool false, Value.bool false, Value.agg #[Value.slice s.ra s.rn s.rc, Value.slice s.oa s.on s.oc, Value.slice s.pa s.pn s.pc], pv xx1 0, tu, iv n, iv (↑xx3 : Int), iv 0, Value.bool false, (((0 : Int), σ), J).snd (35 : Nat), (((0 : Int), σ), J).snd (36 : Nat), (((0 : Int), σ), J).snd (37 : Nat), (((0 : Int), σ), J).snd (38 : Nat), pv xx1 0, iv L, pv xx1 0, tu, pv xx1 0, iv L, iv (band IntKind.i64 L (127 : Int)), tu, iv m, iv (↑xx4 : Int), iv 0, Value.bool false, J2 51, J2 52, J2 53, J2 54, J2 55, J2 56, Value.tuple #[iv 0, iv 0], pv xx1 0, Value.tuple #[iv 0, iv 0], iv 0, iv 0, pv xx1 0, Value.slice xx5.fst xx5.snd.snd.length xx5.snd.fst, tu, tu, tu, tu, tu, tu, tu, tu, tu, tu, tu, tu, tu, tu, tu, tu, tu, tu, tu, tu, tu, tu, tu, tu, tu, tu, tu, tu, tu, tu, tu, tu, tu, tu, tu, tu, tu, tu, tu, tu, tu, tu, tu, tu, tu, tu, tu, tu, tu, tu, tu, tu, tu, tu, tu, tu, tu, tu, tu, tu, tu, tu, tu, tu, tu, tu, tu, tu, tu, tu, tu, tu, tu] [6, 64, 65, 66, 67, 68, 69, 70, 71, 72, 73, 74] (((fun x => [(16, .int .i64 (x : Nat))]) : (Nat) → List (Nat × Go.Value)) x.1) x.2) (fun x => ((fun x => [ints 5 .u8 xx5.1 xx5.2.1 xx5.2.2, PpR xx1 τ, A, row xb1 36 [.slice s.ra s.rn s.rc, .slice s.oa s.on s.oc, .slice s.pa s.pn s.pc]]) : (Nat) → List Go.Sl.HP) x.1) ((0), fun j => ([Value.agg #[Value.slice s.ra s.rn s.rc, Value.slice s.oa s.on s.oc, Value.slice s.pa s.pn s.pc], iv n, iv m, pv xb1 0, tu, tu, J2 6, Value.bool true, pv xx1 0, iv 0, iv L, iv 0, J2 12, iv 0, iv 0, Value.slice xx5.fst xx5.snd.snd.length xx5.snd.fst, iv 0, tu, tu, tu, Value.bool true, pv xx1 0, Value.bool true, Value.bool false, Value.bool false, pv xx1 0, Value.bool false, Value.bool false, Value.agg #[Value.slice s.ra s.rn s.rc, Value.slice s.oa s.on s.oc, Value.slice s.pa s.pn s.pc], pv xx1 0, tu, iv n, iv (↑xx3 : Int), iv 0, Value.bool false, (((0 : Int), σ), J).snd (35 : Nat), (((0 : Int), σ), J).snd (36 : Nat), (((0 : Int), σ), J).snd (37 : Nat), (((0 : Int), σ), J).snd (38 : Nat), pv xx1 0, iv L, pv xx1 0, tu, pv xx1 0, iv L, iv (band IntKind.i64 L (127 : Int)), tu, iv m, iv (↑xx4 : Int), iv 0, Value.bool false, J2 51, J2 52, J2 53, J2 54, J2 55, J2 56, Value.tuple #[iv 0, iv 0], pv xx1 0, Value.tuple #[iv 0, iv 0], iv 0, iv 0, pv xx1 0, Value.slice xx5.fst xx5.snd.snd.length xx5.snd.fst, tu, tu, tu, tu, tu, tu, tu, tu, tu, tu, tu, tu, tu, tu, tu, tu, tu, tu, tu, tu, tu, tu, tu, tu, tu, tu, tu, tu, tu, tu, tu, tu, tu, tu, tu, tu, tu, tu, tu, tu, tu, tu, tu, tu, tu, tu, tu, tu, tu, tu, tu, tu, tu, tu, tu, tu, tu, tu, tu, tu, tu, tu, tu, tu, tu, tu, tu, tu, tu, tu, tu, tu, tu] : List Value).getD j undef) (by kernel_rfl) (by kernel_rfl) ?_ ?_)
      · exact Nat.zero_le _
      rintro ⟨i, J3⟩ hi6 ih
      dsimp only at hi6
      (focus
        refine Xg.At.same (T' := [Value.agg #[Value.slice s.ra s.rn s.rc, Value.slice s.oa s.on s.oc, Value.slice s.pa s.pn s.pc], iv n, iv m, pv xb1 0, tu, tu, J3 6, Value.bool true, pv xx1 0, iv 0, iv L, iv 0, J2 12, iv 0, iv 0, Value.slice xx5.fst xx5.snd.snd.length xx5.snd.fst, iv (↑i : Int), tu, tu, tu, Value.bool true, pv xx1 0, Value.bool true, Value.bool false, Value.bool false, pv xx1 0, Value.bool false, Value.bool false, Value.agg #[Value.slice s.ra s.rn s.rc, Value.slice s.oa s.on s.oc, Value.slice s.pa s.pn s.pc], pv xx1 0, tu, iv n, iv (↑xx3 : Int), iv 0, Value.bool false, (((0 : Int), σ), J).snd (35 : Nat), (((0 : Int), σ), J).snd (36 : Nat), (((0 : Int), σ), J).snd (37 : Nat), (((0 : Int), σ), J).snd (38 : Nat), pv xx1 0, iv L, pv xx1 0, tu, pv xx1 0, iv L, iv (band IntKind.i64 L (127 : Int)), tu, iv m, iv (↑xx4 : Int), iv 0, Value.bool false, J2 51, J2 52, J2 53, J2 54, J2 55, J2 56, Value.tuple #[iv 0, iv 0], pv xx1 0, Value.tuple #[iv 0, iv 0], iv 0, iv 0, pv xx1 0, Value.slice xx5.fst xx5.snd.snd.length xx5.snd.fst, J3 64, J3 65, J3 66, J3 67, J3 68, J3 69, J3 70, J3 71, J3 72, J3 73, J3 74, tu, tu, tu, tu, tu, tu, tu, tu, tu, tu, tu, tu, tu, tu, tu, tu, tu, tu, tu, tu, tu, tu, tu, tu, tu, tu, tu, tu, tu, tu, tu, tu, tu, tu, tu, tu, tu, tu, tu, tu, tu, tu, tu, tu, tu, tu, tu, tu, tu, tu, tu, tu, tu, tu, tu, tu, tu, tu, tu, tu, tu, tu]) (L' := [ints (5 : TypeId) IntKind.u8 xx5.fst xx5.snd.fst xx5.snd.snd, PpR xx1 τ, A, row xb1 (36 : TypeId) [Value.slice s.ra s.rn s.rc, Value.slice s.oa s.on s.oc, Value.slice s.pa s.pn s.pc]]) (by kernel_rfl) rfl ?_)
      by_cases hlt3 : i < 23040
      · have hzi := hz0 i hlt3
        (focus
          refine Xg.at_seq ?_
          refine Xg.at_seq ?_
          refine Xg.at_region ?_
          refine Xg.ops_op (by kernel_rfl) (Xg.opx_pure ((iv (↑i : Int))) rfl (fun _ => by kernel_rfl) ?_)
          refine Xg.ops_op (by kernel_rfl) (Xg.opx_pure ((Value.slice xx5.fst xx5.snd.snd.length xx5.snd.fst)) rfl (fun _ => by kernel_rfl) ?_)
          refine Xg.ops_op (by kernel_rfl) (Xg.opx_pure ((iv (↑xx5.snd.snd.length : Int))) rfl (fun _ => by kernel_rfl) ?_)
          refine Xg.ops_op (by kernel_rfl) (Xg.opx_pure (.bool (decide ((((↑i : Int)) : Int) < ((↑xx5.snd.snd.length : Int))))) rfl (fun _ => by kernel_rfl) ?_)
          refine Xg.ops_nil ?_
          refine Xg.at_true (t := decide (((↑i : Int) < (↑xx5.snd.snd.length : Int)))) (by kernel_rfl) (decide_eq_true (by omega)) ?_
          refine Xg.at_skip ?_
          refine Xg.at_seq ?_
          refine Xg.at_block ?_
          refine Xg.at_seq ?_
          refine Xg.at_region ?_
          refine Xg.ops_op (by kernel_rfl) (Xg.opx_pure ((Value.slice xx5.fst xx5.snd.snd.length xx5.snd.fst)) rfl (fun _ => by kernel_rfl) ?_)
          refine Xg.ops_op (by kernel_rfl) (Xg.opx_pure ((iv (↑i : Int))) rfl (fun _ => by kernel_rfl) ?_)
          refine Xg.ops_op (by kernel_rfl) (Xg.opx_ix_own (elem := 5) (kd := .i64) (e := ((↑i : Int))) 0 1 i i rfl (by kernel_rfl) (by kernel_rfl) (by kernel_rfl) (by kernel_rfl) rfl (by omega) (by omega) ?_)
          refine Xg.ops_op (by kernel_rfl) (Xg.opx_load_own (a := xx5.fst) (off := i) 0 (uv (xx5.snd.snd.getD i (0 : Int))) rfl (by kernel_rfl) (Xg.get_ints (by omega)) (by kernel_rfl) ?_)
          refine Xg.ops_op (by kernel_rfl) (Xg.opx_pure (.bool (!decide (((xx5.snd.snd.getD i (0 : Int)) : Int) = ((0 : Int))))) rfl (fun _ => by kernel_rfl) ?_)
          refine Xg.ops_nil ?_
          refine Xg.at_false (t := !decide ((xx5.snd.snd.getD i (0 : Int) = (0 : Int)))) (by kernel_rfl) (by rw [decide_eq_true (by omega)]; rfl) ?_
          refine Xg.at_skip ?_
          refine Xg.at_inBlock ?_
          refine Xg.at_region ?_
          refine Xg.ops_op (by kernel_rfl) (Xg.opx_pure ((iv (↑i : Int))) rfl (fun _ => by kernel_rfl) ?_)
          refine Xg.ops_op (by kernel_rfl) (Xg.opx_int .i64 (IntKind.wrap .i64 (((↑i : Int) + (1 : Int)))) rfl (fun _ => by kernel_rfl) (Xg.wrap_i64_in (by omega)) ?_)
          refine Xg.ops_op (by kernel_rfl) (Xg.opx_pure ((iv ((↑i : Int) + (1 : Int)))) rfl (fun _ => by kernel_rfl) ?_)
          refine Xg.ops_nil ?_
          refine Xg.at_inLoop ?_)
        (focus
          refine Xg.at_keep [0, 1, 2, 3] (by kernel_rfl) ?_
          refine Xg.At.same (by kernel_rfl) ?_ (ih (((i + 1)), fun j => ([Value.agg #[Value.slice s.ra s.rn s.rc, Value.slice s.oa s.on s.oc, Value.slice s.pa s.pn s.pc], iv n, iv m, pv xb1 0, tu, tu, J3 6, Value.bool true, pv xx1 0, iv 0, iv L, iv 0, J2 12, iv 0, iv 0, Value.slice xx5.fst xx5.snd.snd.length xx5.snd.fst, iv ((↑i : Int) + (1 : Int)), tu, tu, tu, Value.bool true, pv xx1 0, Value.bool true, Value.bool false, Value.bool false, pv xx1 0, Value.bool false, Value.bool false, Value.agg #[Value.slice s.ra s.rn s.rc, Value.slice s.oa s.on s.oc, Value.slice s.pa s.pn s.pc], pv xx1 0, tu, iv n, iv (↑xx3 : Int), iv 0, Value.bool false, (((0 : Int), σ), J).snd (35 : Nat), (((0 : Int), σ), J).snd (36 : Nat), (((0 : Int), σ), J).snd (37 : Nat), (((0 : Int), σ), J).snd (38 : Nat), pv xx1 0, iv L, pv xx1 0, tu, pv xx1 0, iv L, iv (band IntKind.i64 L (127 : Int)), tu, iv m, iv (↑xx4 : Int), iv 0, Value.bool false, J2 51, J2 52, J2 53, J2 54, J2 55, J2 56, Value.tuple #[iv 0, iv 0], pv xx1 0, Value.tuple #[iv 0, iv 0], iv 0, iv 0, pv xx1 0, Value.slice xx5.fst xx5.snd.snd.length xx5.snd.fst, iv (↑i : Int), Value.slice xx5.fst xx5.snd.snd.length xx5.snd.fst, iv (↑xx5.snd.snd.length : Int), Value.bool (decide ((↑i : Int) < (↑xx5.snd.snd.length : Int))), iv (↑i : Int), iv ((↑i : Int) + (1 : Int)), Value.slice xx5.fst xx5.snd.snd.length xx5.snd.fst, iv (↑i : Int), Value.pointer (some (Addr.mk (blk xx5.fst) i none)), uv (xx5.snd.snd.getD i (0 : Int)), Value.bool !decide (xx5.snd.snd.getD i (0 : Int) = (0 : Int)), tu, tu, tu, tu, tu, tu, tu, tu, tu, tu, tu, tu, tu, tu, tu, tu, tu, tu, tu, tu, tu, tu, tu, tu, tu, tu, tu, tu, tu, tu, tu, tu, tu, tu, tu, tu, tu, tu, tu, tu, tu, tu, tu, tu, tu, tu, tu, tu, tu, tu, tu, tu, tu, tu, tu, tu, tu, tu, tu, tu, tu, tu] : List Value).getD j undef) ?_ ?_))
        · rfl
        · dsimp only; omega
        · dsimp only; omega
      · clear ih
        (focus
          refine Xg.at_seq ?_
          refine Xg.at_seq ?_
          refine Xg.at_region ?_
          refine Xg.ops_op (by kernel_rfl) (Xg.opx_pure ((iv (↑i : Int))) rfl (fun _ => by kernel_rfl) ?_)
          refine Xg.ops_op (by kernel_rfl) (Xg.opx_pure ((Value.slice xx5.fst xx5.snd.snd.length xx5.snd.fst)) rfl (fun _ => by kernel_rfl) ?_)
          refine Xg.ops_op (by kernel_rfl) (Xg.opx_pure ((iv (↑xx5.snd.snd.length : Int))) rfl (fun _ => by kernel_rfl) ?_)
          refine Xg.ops_op (by kernel_rfl) (Xg.opx_pure (.bool (decide ((((↑i : Int)) : Int) < ((↑xx5.snd.snd.length : Int))))) rfl (fun _ => by kernel_rfl) ?_)
          refine Xg.ops_nil ?_
          refine Xg.at_false (t := decide (((↑i : Int) < (↑xx5.snd.snd.length : Int)))) (by kernel_rfl) (decide_eq_false (by omega)) ?_
          refine Xg.at_exit rfl ?_
          refine Xg.at_seq ?_
          refine Xg.at_seq ?_
          refine Xg.at_region ?_
          refine Xg.ops_op (by kernel_rfl) (Xg.opx_pure ((iv 0)) rfl (fun _ => by kernel_rfl) ?_)
          refine Xg.ops_op (by kernel_rfl) (Xg.opx_pure ((Value.bool false)) rfl (fun _ => by kernel_rfl) ?_)
          refine Xg.ops_op (by kernel_rfl) (Xg.opx_pure ((Value.bool false)) rfl (fun _ => by kernel_rfl) ?_)
          refine Xg.ops_op (by kernel_rfl) (Xg.opx_pure ((iv 0)) rfl (fun _ => by kernel_rfl) ?_)
          refine Xg.ops_op (by kernel_rfl) (Xg.opx_pure ((Value.bool false)) rfl (fun _ => by kernel_rfl) ?_)
          refine Xg.ops_op (by kernel_rfl) (Xg.opx_pure ((Value.bool false)) rfl (fun _ => by kernel_rfl) ?_)
          refine Xg.ops_op (by kernel_rfl) (Xg.opx_pure ((Value.bool false)) rfl (fun _ => by kernel_rfl) ?_)
          refine Xg.ops_op (by kernel_rfl) (Xg.opx_pure ((pv xx1 0)) rfl (fun _ => by kernel_rfl) ?_)
          refine Xg.ops_op (by kernel_rfl) (Xg.opx_call1' [1] [PpR xx1 τ, ints (5 : TypeId) IntKind.u8 xx5.fst xx5.snd.fst xx5.snd.snd, A, row xb1 (36 : TypeId) [Value.slice s.ra s.rn s.rc, Value.slice s.oa s.on s.oc, Value.slice s.pa s.pn s.pc]] (fun _ => by kernel_rfl) (@rS ) (by kernel_rfl) (by kernel_rfl) (by kernel_rfl) ?_)
          refine Xg.ops_op (by kernel_rfl) (Xg.opx_pure (.int .i64 (Xg.band .i64 (R) (((3 : Int))))) rfl (fun _ => by kernel_rfl) ?_)
          refine Xg.ops_op (by kernel_rfl) (Xg.opx_pure (.bool (!decide (((band IntKind.i64 R (3 : Int)) : Int) = ((0 : Int))))) rfl (fun _ => by kernel_rfl) ?_)
          refine Xg.ops_flag (j := 85) (c := (!decide (band IntKind.i64 R (3 : Int) = (0 : Int)))) (by kernel_rfl) (fun xh6 => absurd xh6 (by rw [decide_eq_true (p := (band IntKind.i64 R (3 : Int) = (0 : Int))) (by omega)]; decide)) (fun _ => ?_)
          refine Xg.ops_op (by kernel_rfl) (Xg.opx_pure ((Value.bool false)) rfl (fun _ => by kernel_rfl) ?_)
          refine Xg.ops_op (by kernel_rfl) (Xg.opx_pure ((Value.bool false)) rfl (fun _ => by kernel_rfl) ?_)
          refine Xg.ops_op (by kernel_rfl) (Xg.opx_pure ((pv xx1 0)) rfl (fun _ => by kernel_rfl) ?_)
          refine Xg.ops_op (by kernel_rfl) (Xg.opx_call1' [0] [PpR xx1 τ, ints (5 : TypeId) IntKind.u8 xx5.fst xx5.snd.fst xx5.snd.snd, A, row xb1 (36 : TypeId) [Value.slice s.ra s.rn s.rc, Value.slice s.oa s.on s.oc, Value.slice s.pa s.pn s.pc]] (fun _ => by kernel_rfl) (@rY ) (by kernel_rfl) (by kernel_rfl) (by kernel_rfl) ?_)
          refine Xg.ops_op (by kernel_rfl) (Xg.opx_pure ((Value.bool false)) rfl (fun _ => by kernel_rfl) ?_)
          refine Xg.ops_op (by kernel_rfl) (Xg.opx_pure ((Value.bool false)) rfl (fun _ => by kernel_rfl) ?_)
          refine Xg.ops_op (by kernel_rfl) (Xg.opx_pure ((Value.bool false)) rfl (fun _ => by kernel_rfl) ?_)
          refine Xg.ops_op (by kernel_rfl) (Xg.opx_pure ((pv xx1 0)) rfl (fun _ => by kernel_rfl) ?_)
          refine Xg.ops_op (by kernel_rfl) (Xg.opx_call1' [0] [PpR xx1 τ, ints (5 : TypeId) IntKind.u8 xx5.fst xx5.snd.fst xx5.snd.snd, A, row xb1 (36 : TypeId) [Value.slice s.ra s.rn s.rc, Value.slice s.oa s.on s.oc, Value.slice s.pa s.pn s.pc]] (fun _ => by kernel_rfl) (@r0 ) (by kernel_rfl) (by kernel_rfl) (by kernel_rfl) ?_)
          refine Xg.ops_op (by kernel_rfl) (Xg.opx_pure ((iv L)) rfl (fun _ => by kernel_rfl) ?_)
          refine Xg.ops_op (by kernel_rfl) (Xg.opx_pure (.int .i64 (Xg.band .i64 (L) (((127 : Int))))) rfl (fun _ => by kernel_rfl) ?_)
          refine Xg.ops_op (by kernel_rfl) (Xg.opx_pure (.bool (!decide (((L - (128 : Int)) : Int) = (band IntKind.i64 L (127 : Int))))) rfl (fun _ => by kernel_rfl) ?_)
          refine Xg.ops_flag (j := 97) (c := (!decide (L - (128 : Int) = band IntKind.i64 L (127 : Int)))) (by kernel_rfl) (fun xh6 => absurd xh6 (by rw [decide_eq_true (p := (L - (128 : Int) = band IntKind.i64 L (127 : Int))) (by omega)]; decide)) (fun _ => ?_)
          refine Xg.ops_op (by kernel_rfl) (Xg.opx_pure ((Value.bool false)) rfl (fun _ => by kernel_rfl) ?_)
          refine Xg.ops_op (by kernel_rfl) (Xg.opx_pure ((Value.bool false)) rfl (fun _ => by kernel_rfl) ?_)
          refine Xg.ops_op (by kernel_rfl) (Xg.opx_pure ((Value.slice xx5.fst xx5.snd.snd.length xx5.snd.fst)) rfl (fun _ => by kernel_rfl) ?_)
          refine Xg.ops_op (by kernel_rfl) (Xg.opx_pure ((iv (↑xx5.snd.snd.length : Int))) rfl (fun _ => by kernel_rfl) ?_)
          refine Xg.ops_op (by kernel_rfl) (Xg.opx_pure (.bool (!decide ((((↑xx5.snd.snd.length : Int)) : Int) = ((23040 : Int))))) rfl (fun _ => by kernel_rfl) ?_)
          refine Xg.ops_flag (j := 102) (c := (!decide ((↑xx5.snd.snd.length : Int) = (23040 : Int)))) (by kernel_rfl) (fun xh6 => absurd xh6 (by rw [decide_eq_true (p := ((↑xx5.snd.snd.length : Int) = (23040 : Int))) (by omega)]; decide)) (fun _ => ?_)
          refine Xg.ops_op (by kernel_rfl) (Xg.opx_pure ((Value.bool false)) rfl (fun _ => by kernel_rfl) ?_)
          refine Xg.ops_nil ?_
          refine Xg.at_false (t := false) (by kernel_rfl) rfl ?_
          refine Xg.at_skip ?_
          refine Xg.at_seq ?_
          refine Xg.at_region ?_
          refine Xg.ops_op (by kernel_rfl) (Xg.opx_pure ((pv xx1 0)) rfl (fun _ => by kernel_rfl) ?_)
          refine Xg.ops_op (by kernel_rfl) (Xg.opx_call1' [0] [PpR xx1 υ1, ints (5 : TypeId) IntKind.u8 xx5.fst xx5.snd.fst xx5.snd.snd, A, row xb1 (36 : TypeId) [Value.slice s.ra s.rn s.rc, Value.slice s.oa s.on s.oc, Value.slice s.pa s.pn s.pc]] (fun _ => by kernel_rfl) (@hw3 ) (by kernel_rfl) (by kernel_rfl) (by kernel_rfl) ?_)
          refine Xg.ops_nil ?_
          refine Xg.at_seq ?_
          refine Xg.at_region ?_
          refine Xg.ops_op (by kernel_rfl) (Xg.opx_pure ((pv xx1 0)) rfl (fun _ => by kernel_rfl) ?_)
          refine Xg.ops_op (by kernel_rfl) (Xg.opx_pure ((iv L)) rfl (fun _ => by kernel_rfl) ?_)
          refine Xg.ops_op (by kernel_rfl) (Xg.opx_call1' [0] [PpR xx1 υ, ints (5 : TypeId) IntKind.u8 xx5.fst xx5.snd.fst xx5.snd.snd, A, row xb1 (36 : TypeId) [Value.slice s.ra s.rn s.rc, Value.slice s.oa s.on s.oc, Value.slice s.pa s.pn s.pc]] (fun _ => by kernel_rfl) (@hw4 ) (by kernel_rfl) (by kernel_rfl) (by kernel_rfl) ?_)
          refine Xg.ops_nil ?_
          refine Xg.at_seq ?_
          refine Xg.at_region ?_
          refine Xg.ops_op (by kernel_rfl) (Xg.opx_pure ((pv xx1 0)) rfl (fun _ => by kernel_rfl) ?_)
          refine Xg.ops_op (by kernel_rfl) (Xg.opx_call1' [0] [PpR xx1 υ, ints (5 : TypeId) IntKind.u8 xx5.fst xx5.snd.fst xx5.snd.snd, A, row xb1 (36 : TypeId) [Value.slice s.ra s.rn s.rc, Value.slice s.oa s.on s.oc, Value.slice s.pa s.pn s.pc]] (fun _ => by kernel_rfl) (@hln2 ) (by kernel_rfl) (by kernel_rfl) (by kernel_rfl) ?_)
          refine Xg.ops_op (by kernel_rfl) (Xg.opx_pure ((Value.tuple #[iv 0, iv 0])) rfl (fun _ => by kernel_rfl) ?_)
          refine Xg.ops_op (by kernel_rfl) (Xg.opx_pure ((iv 0)) rfl (fun _ => by kernel_rfl) ?_)
          refine Xg.ops_op (by kernel_rfl) (Xg.opx_pure ((iv 0)) rfl (fun _ => by kernel_rfl) ?_)
          refine Xg.ops_op (by kernel_rfl) (Xg.opx_pure ((iv 0)) rfl (fun _ => by kernel_rfl) ?_)
          refine Xg.ops_op (by kernel_rfl) (Xg.opx_pure ((iv 0)) rfl (fun _ => by kernel_rfl) ?_)
          refine Xg.ops_nil ?_
          refine Xg.at_seq ?_
          refine Xg.at_region ?_
          refine Xg.ops_op (by kernel_rfl) (Xg.opx_pure ((pv xx1 0)) rfl (fun _ => by kernel_rfl) ?_)
          refine Xg.ops_op (by kernel_rfl) (Xg.opx_callE' [0] (fun xx6 => [ints (5 : TypeId) IntKind.u8 xx6.fst xx6.snd.fst xx6.snd.snd, PpR xx1 (T16 υ), ints (5 : TypeId) IntKind.u8 xx5.fst xx5.snd.fst xx5.snd.snd, A, row xb1 (36 : TypeId) [Value.slice s.ra s.rn s.rc, Value.slice s.oa s.on s.oc, Value.slice s.pa s.pn s.pc]]) (fun _ => by kernel_rfl) (@hone ) (by kernel_rfl) (by kernel_rfl) (by kernel_rfl) fun xx6 xh6 => ?_)
          try dsimp only at xh6
          obtain ⟨xh6_0, xh6_1⟩ := xh6
          refine Xg.ops_op (by kernel_rfl) (Xg.opx_pure ((Value.slice xx6.fst xx6.snd.snd.length xx6.snd.fst)) rfl (fun _ => by kernel_rfl) ?_)
          refine Xg.ops_nil ?_
          refine Xg.at_seq ?_
          refine Xg.at_region ?_
          refine Xg.ops_op (by kernel_rfl) (Xg.opx_loadn (off := 0) 3 4 [Value.slice s.ra s.rn s.rc, Value.slice s.oa s.on s.oc, Value.slice s.pa s.pn s.pc] (by kernel_rfl) rfl (by kernel_rfl) rfl (Xg.cells_at (by kernel_rfl)) (by kernel_rfl) ?_)
          refine Xg.ops_op (by kernel_rfl) (Xg.opx_callE' [3] (fun xx7 => [ints (5 : TypeId) IntKind.u8 xx7.fst xx7.snd.fst xx7.snd.snd, A, ints (5 : TypeId) IntKind.u8 xx6.fst xx6.snd.fst xx6.snd.snd, PpR xx1 (T16 υ), ints (5 : TypeId) IntKind.u8 xx5.fst xx5.snd.fst xx5.snd.snd, row xb1 (36 : TypeId) [Value.slice s.ra s.rn s.rc, Value.slice s.oa s.on s.oc, Value.slice s.pa s.pn s.pc]]) (fun _ => by kernel_rfl) (@hsh ) (by kernel_rfl) (by kernel_rfl) (by kernel_rfl) fun xx7 xh7 => ?_)
          try dsimp only at xh7
          obtain ⟨xh7_0, xh7_1⟩ := xh7
          refine Xg.ops_op (by kernel_rfl) (Xg.opx_pure ((Value.tuple #[Value.slice xx7.fst xx7.snd.snd.length xx7.snd.fst, Value.bool true])) rfl (fun _ => by kernel_rfl) ?_)
          refine Xg.ops_op (by kernel_rfl) (Xg.opx_pure ((Value.slice xx7.fst xx7.snd.snd.length xx7.snd.fst)) rfl (fun _ => by kernel_rfl) ?_)
          refine Xg.ops_op (by kernel_rfl) (Xg.opx_pure ((Value.bool true)) rfl (fun _ => by kernel_rfl) ?_)
          refine Xg.ops_op (by kernel_rfl) (Xg.opx_pure ((Value.slice xx7.fst xx7.snd.snd.length xx7.snd.fst)) rfl (fun _ => by kernel_rfl) ?_)
          refine Xg.ops_op (by kernel_rfl) (Xg.opx_pure ((Value.bool true)) rfl (fun _ => by kernel_rfl) ?_)
          refine Xg.ops_nil ?_
          refine Xg.at_seq ?_
          refine Xg.at_region ?_
          refine Xg.ops_op (by kernel_rfl) (Xg.opx_pure ((iv 0)) rfl (fun _ => by kernel_rfl) ?_)
          refine Xg.ops_op (by kernel_rfl) (Xg.opx_pure ((Value.bool true)) rfl (fun _ => by kernel_rfl) ?_)
          refine Xg.ops_op (by kernel_rfl) (Xg.opx_pure ((Value.bool true)) rfl (fun _ => by kernel_rfl) ?_)
          refine Xg.ops_op (by kernel_rfl) (Xg.opx_pure ((iv 0)) rfl (fun _ => by kernel_rfl) ?_)
          refine Xg.ops_op (by kernel_rfl) (Xg.opx_pure ((Value.bool true)) rfl (fun _ => by kernel_rfl) ?_)
          refine Xg.ops_op (by kernel_rfl) (Xg.opx_pure ((Value.bool true)) rfl (fun _ => by kernel_rfl) ?_)
          refine Xg.ops_op (by kernel_rfl) (Xg.opx_pure ((Value.bool true)) rfl (fun _ => by kernel_rfl) ?_)
          refine Xg.ops_op (by kernel_rfl) (Xg.opx_pure ((Value.bool true)) rfl (fun _ => by kernel_rfl) ?_)
          refine Xg.ops_op (by kernel_rfl) (Xg.opx_pure ((Value.bool true)) rfl (fun _ => by kernel_rfl) ?_)
          refine Xg.ops_op (by kernel_rfl) (Xg.opx_pure ((Value.bool true)) rfl (fun _ => by kernel_rfl) ?_)
          refine Xg.ops_op (by kernel_rfl) (Xg.opx_pure ((Value.slice xx6.fst xx6.snd.snd.length xx6.snd.fst)) rfl (fun _ => by kernel_rfl) ?_)
          refine Xg.ops_op (by kernel_rfl) (Xg.opx_rd 2 (.string (Xg.St xx6.snd.snd)) rfl (Xg.reads_own (E := ((5 : TypeId))) (sz := ((1 : Nat))) (n := xx6.snd.snd.length) (c := xx6.snd.fst) (a := xx6.fst) (vs := (List.map (Value.int IntKind.u8) xx6.snd.snd))) (by kernel_rfl) (Xg.run_str_rd (e := 5) (a := xx6.fst) (n := xx6.snd.snd.length) (c := xx6.snd.fst) (xs := xx6.snd.snd) (by kernel_rfl) (by kernel_rfl) (by kernel_rfl) (by kernel_rfl)) ?_)
          refine Xg.ops_op (by kernel_rfl) (Xg.opx_pure ((Value.slice xx7.fst xx7.snd.snd.length xx7.snd.fst)) rfl (fun _ => by kernel_rfl) ?_)
          refine Xg.ops_op (by kernel_rfl) (Xg.opx_rd 0 (.string (Xg.St xx7.snd.snd)) rfl (Xg.reads_own (E := ((5 : TypeId))) (sz := ((1 : Nat))) (n := xx7.snd.snd.length) (c := xx7.snd.fst) (a := xx7.fst) (vs := (List.map (Value.int IntKind.u8) xx7.snd.snd))) (by kernel_rfl) (Xg.run_str_rd (e := 5) (a := xx7.fst) (n := xx7.snd.snd.length) (c := xx7.snd.fst) (xs := xx7.snd.snd) (by kernel_rfl) (by kernel_rfl) (by kernel_rfl) (by kernel_rfl)) ?_)
          refine Xg.ops_op (by kernel_rfl) (Xg.opx_run (.bool (Xg.sEq xx6.snd.snd xx7.snd.snd)) rfl (Xg.run_str_eq (xs := xx6.snd.snd) (ys := xx7.snd.snd) (by kernel_rfl) (by kernel_rfl) (by kernel_rfl)) ?_)
          refine Xg.ops_flag (j := 135) (c := (sEq xx6.snd.snd xx7.snd.snd)) (by kernel_rfl) (fun xh8 => ?_) (fun xh8 => ?_)
          refine Xg.ops_op (by kernel_rfl) (Xg.opx_pure ((Value.bool true)) rfl (fun _ => by kernel_rfl) ?_)
          refine Xg.ops_op (by kernel_rfl) (Xg.opx_pure ((Value.bool true)) rfl (fun _ => by kernel_rfl) ?_)
          refine Xg.ops_nil ?_
          refine Xg.at_ret_ps (v := (Value.bool true)) [1] [A] Go.Proofs.Try.func15 (fun _ => by kernel_rfl) (by kernel_rfl) (by kernel_rfl) ?_
          exact ⟨by kernel_rfl, by kernel_rfl⟩
          refine Xg.ops_op (by kernel_rfl) (Xg.opx_pure ((Value.bool false)) rfl (fun _ => by kernel_rfl) ?_)
          refine Xg.ops_op (by kernel_rfl) (Xg.opx_pure ((Value.bool false)) rfl (fun _ => by kernel_rfl) ?_)
          refine Xg.ops_nil ?_
          refine Xg.at_ret_ps (v := (Value.bool false)) [1] [A] Go.Proofs.Try.func15 (fun _ => by kernel_rfl) (by kernel_rfl) (by kernel_rfl) ?_)
        have e : xx6.2.2 = xx7.2.2 := shot_same (by assumption) (by assumption)
        rw [e, sEq_refl] at xh8
        exact absurd xh8 (by decide)

end Go.Proofs.Ytkfclamiendamaa
