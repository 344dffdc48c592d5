/- The block package's functions (part 10): Read. -/
import Derived.Test.YtinmonlhfnaiiaaBlk9
namespace Go.Proofs.Ytinmonlhfnaiiaa
open Go.Sl Go.RowKit
set_option linter.unusedVariables false
set_option linter.unusedSimpArgs false
attribute [local go_sem] Oper.semAt_some

/-- The sector as Read tells it. -/
def readN (safe : List Int) (pend : List (Nat × List Int)) (n : Nat) : List Int :=
  match pend.reverse.find? (fun x => x.1 == n) with
  | some x => x.2
  | none => (safe.drop (n * 512)).take 512

def St.read (σ : St) (n : Nat) : List Int := readN σ.safe σ.pend n

theorem readN_none {safe : List Int} {pend : List (Nat × List Int)} {n : Nat} (h : ∀ (i : Nat) y, pend[i]? = some y → y.1 ≠ n) : readN safe pend n = (safe.drop (n * 512)).take 512 := by
  unfold readN
  have : pend.reverse.find? (fun x => x.1 == n) = none := by
    rw [List.find?_eq_none]
    intro x hx
    obtain ⟨i, hi⟩ := List.getElem?_of_mem (List.mem_reverse.1 hx)
    simpa using h i x hi
  rw [this]

theorem readN_some {safe : List Int} {pend : List (Nat × List Int)} {n k : Nat} {x : Nat × List Int} (hk : pend[k]? = some x) (hx : x.1 = n) (h : ∀ (i : Nat) y, k < i → pend[i]? = some y → y.1 ≠ n) : readN safe pend n = x.2 := by
  unfold readN
  have hlt := (List.getElem?_eq_some_iff.1 hk).1
  have e : pend = pend.take k ++ x :: pend.drop (k + 1) := by
    have h1 := List.take_append_drop k pend
    rw [List.drop_eq_getElem_cons hlt, (List.getElem?_eq_some_iff.1 hk).2] at h1
    exact h1.symm
  have : pend.reverse.find? (fun x => x.1 == n) = some x := by
    rw [e, List.reverse_append, List.reverse_cons, List.append_assoc, List.find?_append]
    have : (pend.drop (k + 1)).reverse.find? (fun x => x.1 == n) = none := by
      rw [List.find?_eq_none]
      intro y hy
      obtain ⟨i, hi⟩ := List.getElem?_of_mem (List.mem_reverse.1 hy)
      rw [List.getElem?_drop] at hi
      simpa using h _ y (by omega) hi
    rw [this]
    simp [hx]
  rw [this]

set_option maxHeartbeats 4000000 in
theorem read_c {g w : World} {L : List HP} (p : Nat) (σ : St) (n : Nat) (hn : n < σ.n) (hS : SL g (StoreP p σ :: L) w) :
    Calls Try.prog 17 #[.pointer (some ⟨p, 0, none⟩), .int .i64 (n : Int)] w fun e w' => ∃ b, e = .returned (.tuple #[.slice (some ⟨b, 0, none⟩) 512 512, .int .i64 0]) ∧
      ∃ sp, SL g (row b 5 (u8s (σ.read n) ++ sp) :: StoreP p σ :: L) w' := by
  have HI := Lib.hid (fun (w : World) (L : List HP) (hS : SL g (StoreP p σ :: L) w) => is_c p σ (n : Int) true (by symm; rw [decide_eq_true_eq]; omega) hS)
  have HW := Lib.hid (st_wf hS)
  refine callsIn_wide (n := 6).1 (callsIn_of_wp_marks Try.func17 rfl trivial (wpIn_wide.2 ?_) rfl)
  simp only [Try.ntmps17, List.size_toArray, List.length_cons, List.length_nil, Nat.reduceAdd, Nat.reduceSub, Array.replicate_succ, Array.replicate_zero, List.push_toArray, List.append_toArray, List.nil_append, List.cons_append]
  go_wp2_with (first | (((with_reducible show wpList _ _ _ (Oper.mk _ (Op.box _ _) _ _ _ _ :: _) _ _); refine wpList_plain rfl (fun K hK => ?_); refine w_box hS rfl rfl ?_; clear hS; intro bn w hS l' hl; simp only [List.set_cons_succ, List.set_cons_zero] at hl; subst hl; try simp only [ev, nth, Option.getD_some, Option.getD_none] at hS; refine hK _ _ ?_; clear hK K); have hcn := hS.cell (b := bn) (.head _) 0; simp only [List.getElem?_cons_zero] at hcn) | (go_at_call 28; refine (HI.out _ _ (hS.pull 1)).mono ?_; rintro e w' ⟨rfl, rfl⟩))
  clear hcn
  have hw := HW.out
  have hS := hS.pull 1
  obtain ⟨_, sv, pv, ds, hds, hpv, hS⟩ := st_open hS
  have hs0 : σ.safe.length ≠ 0 := by have := hw.len; have := hw.n1; omega
  obtain ⟨bs, cs, sp, rfl, hs1, hs2, hs3, hs4, hS⟩ := own_row (hS.pull 1) hs0
  obtain ⟨N, hN⟩ : ∃ N, N = σ.safe.length := ⟨_, rfl⟩
  rw [← hN] at hS hs1
  have hNb : N ≤ 2097152 := by have := hw.len; have := hw.n2; omega
  have hNn : (n + 1) * 512 ≤ N := by have := hw.len; omega
  have hn4 : n ≤ 4096 := by omega
  obtain ⟨ap, cp, e⟩ := rd_shape (pend_rd hS (.tail _ (.tail _ (.head _))) hds).1
  subst e
  have HN := Lib.hid hN; have Hds := Lib.hid hds; have Hpv := Lib.hid hpv
  have Hsp := Lib.hid (show sp.length = (cs - σ.safe.length) * 1 from hs3); have Hs2 := Lib.hid hs2
  clear hN hds hpv hs0 hs3 hs4 hs2 hw
  have hc : w.cell? ⟨p, 0, none⟩ = some (.slice (some ⟨bs, 0, none⟩) N cs) ∧ w.cell? ⟨bn, 0, none⟩ = some (.int .i64 (n : Int)) :=
    ⟨hS.cell (b := p) (.tail _ (.head _)) 0, hS.cell (b := bn) (.tail _ (.tail _ (.tail _ (.head _)))) 0⟩
  refine region_plan (fun w' => w'.cell? ⟨p, 0, none⟩ = some (.slice (some ⟨bs, 0, none⟩) N cs) ∧ w'.cell? ⟨bn, 0, none⟩ = some (.int .i64 (n : Int))) (fun i => [6, 7].contains i) (fun i => [7].contains i) [0, 1, 2, 3, 4, 5, 6, 7] follows (by kernel_rfl) (by kernel_rfl) hc ?_
  clear hc
  (refine plan_any rfl rfl rfl rfl rfl (Nat.le_of_ble_eq_true rfl) ?_; apply Exists.intro; apply Exists.intro; refine ⟨fun w' hS' K hK => ?_, ?_, ?_⟩; (clear hS'; go_step; exact hK); rfl)
  (refine plan_any rfl rfl rfl rfl rfl (Nat.le_of_ble_eq_true rfl) ?_; apply Exists.intro; apply Exists.intro; refine ⟨fun w' hS' K hK => ?_, ?_, ?_⟩; (clear hS'; go_step; exact hK); rfl)
  (refine plan_any rfl rfl rfl rfl rfl (Nat.le_of_ble_eq_true rfl) ?_; apply Exists.intro; apply Exists.intro; refine ⟨fun w' hS' K hK => ?_, ?_, ?_⟩; (clear hS'; go_step; exact hK); rfl)
  (refine plan_any rfl rfl rfl rfl rfl (Nat.le_of_ble_eq_true rfl) ?_; apply Exists.intro; apply Exists.intro; refine ⟨fun w' hS' K hK => ?_, ?_, ?_⟩; (obtain ⟨f1, f2⟩ := hS'; go_step; exact hK); rfl)
  (refine plan_any rfl rfl rfl rfl rfl (Nat.le_of_ble_eq_true rfl) ?_; apply Exists.intro; apply Exists.intro; refine ⟨fun w' hS' K hK => ?_, ?_, ?_⟩; (obtain ⟨f1, f2⟩ := hS'; go_step; exact hK); rfl)
  refine plan_still rfl rfl rfl (f := 30) (args := #[.slice (some ⟨bs, 0, none⟩) N cs, .int .i64 (n : Int)]) (.slice (some ⟨bs, n * 512, none⟩) 512 512) (fun w => by simp [go_sem, execOp, resolve, invoke]) (fun w _ => (sector_c w bs N cs n (by omega) (by omega)).mono (fun e w' h => ⟨h.1, h.2.symm⟩)) ?_
  refine plan_eff rfl rfl rfl (fun K hK => ?_)
  have hS := hS.drew
  refine w_alloc El31 hS rfl ?_
  clear hS
  intro bf w2 hS l' hl
  simp only [List.set_cons_succ, List.set_cons_zero] at hl; subst hl
  refine hK _ _ (fun _ => ⟨hS.cell (b := p) (.tail _ (.tail _ (.head _))) 0, hS.cell (b := bn) (.tail _ (.tail _ (.tail _ (.tail _ (.head _))))) 0⟩) ?_
  clear hK K
  refine plan_eff rfl rfl rfl (fun K hK => ?_)
  refine w_store hS 0 rfl rfl rfl El31 rfl (Nat.le_of_ble_eq_true rfl) ?_
  clear hS
  intro w3 hS
  try simp only [ev, nth, Option.getD_some, Option.getD_none] at hS
  refine hK _ _ (fun h => by cases h) (plan_nil ?_)
  clear hK K
  have hS : SL g (row bf 31 [.slice (some ⟨bs, n * 512, none⟩) 512 512] :: row bs 5 (u8s σ.safe ++ sp) :: row p 64 [.slice (some ⟨bs, 0, none⟩) N cs, .slice ap σ.pend.length cp, .bool σ.limited, .int .i64 σ.left] :: PendP (.slice ap σ.pend.length cp) ds σ.pend :: row bn 3 [.int .i64 (n : Int)] :: L) w3 := hS
  have hcp := hS.cell (b := p) (.tail _ (.tail _ (.head _))) 1
  simp only [List.getElem?_cons_zero, List.getElem?_cons_succ] at hcp
  go_wp2_with (go_at_call 32; refine (backward_c ap σ.pend.length cp hS).mono ?_; clear hS; rintro e w4 ⟨bb, rfl, hS⟩)
  clear hcp
  obtain ⟨M, hM⟩ : ∃ M, M = σ.pend.length := ⟨_, rfl⟩
  rw [← hM] at hS ⊢
  obtain ⟨s, hs⟩ : ∃ s : Nat → Int, ∀ i y, σ.pend[i]? = some y → s i = (y.1 : Int) := ⟨fun i => ((σ.pend[i]?.map (fun x => (x.1 : Int))).getD 0), fun i y h => by simp [h]⟩
  obtain ⟨d, hd, hdS⟩ : ∃ d : Nat → Value, (∀ i y, ds[i]? = some y → d i = y) ∧ ∀ i, ∃ a l c, d i = .slice a l c := by
    refine ⟨fun i => ds[i]?.getD (.slice none 0 0), fun i y h => by simp [h], fun i => ?_⟩
    cases h : ds[i]? with
    | none => exact ⟨none, 0, 0, by simp [h]⟩
    | some y =>
      obtain ⟨x, hx⟩ : ∃ x, σ.pend[i]? = some x := ⟨_, List.getElem?_eq_getElem (by have := (List.getElem?_eq_some_iff.1 h).1; have := Hds.out; omega)⟩
      obtain ⟨a, c, e⟩ := rd_shape ((pend_rd hS (.tail _ (.tail _ (.tail _ (.tail _ (.head _))))) Hds.out).2 i x y hx h)
      exact ⟨a, x.2.length, c, by simp [h, e]⟩
  have HDS := Lib.hid hdS; clear hdS
  have hdS : ∀ i, ∃ a l c, d i = .slice a l c := HDS.out
  have hxb : Boxed w4 bb 62 (.slice ap M cp) := hS.get (.head _)
  have hxf : Boxed w4 bf 31 (.slice (some ⟨bs, n * 512, none⟩) 512 512) := hS.get (.tail _ (.head _))
  have hxn : Boxed w4 bn 3 (.int .i64 (n : Int)) := hS.get (.tail _ (.tail _ (.tail _ (.tail _ (.tail _ (.head _))))))
  have hcb := hxb.cell; have hbb := hxb.lt; have hbn := hxn.lt; have hbf := hxf.lt
  have hfb : bn ≠ bf := by
    rintro rfl
    have h := hxn.cell
    rw [hxf.cell] at h
    cases h
  have hMb : M ≤ 1000000000 := by have := HW.out.many; omega
  have hp : (Value.slice ap M cp = .slice none 0 0 ∧ M = 0) ∨ ∃ b cap, Value.slice ap M cp = .slice (some ⟨b, 0, none⟩) M cap ∧ b < w4.heap.size ∧ ∀ i, i < M → ∀ j v, [Value.int .i64 (s i), d i][j]? = some v → w4.cell? (Addr.add ⟨b, i * 2, none⟩ j) = some v := by
    obtain ⟨hl, ⟨e, h0, _⟩ | ⟨b, cap, sp2, h1, -, -, -, h5⟩⟩ := (SL.flat1.1 (hS.pull 4)).own_cases
    · exact .inl ⟨e, by omega⟩
    · refine .inr ⟨b, cap, h1.trans (by rw [hM]), (Array.getElem?_eq_some_iff.1 (h5.get (.head _))).1, fun i hi => ?_⟩
      obtain ⟨x, hx⟩ : ∃ x, σ.pend[i]? = some x := ⟨_, List.getElem?_eq_getElem (by omega)⟩
      obtain ⟨y, hy⟩ : ∃ y, ds[i]? = some y := ⟨_, List.getElem?_eq_getElem (by have := Hds.out; omega)⟩
      rw [hs i x hx, hd i y hy]
      cases h1
      exact pend_cells hS (.tail _ (.tail _ (.tail _ (.tail _ (.head _))))) Hds.out i x y hx hy
  have Hp := Lib.hid hp; have Hs := Lib.hid hs; have Hd := Lib.hid hd; have HM := Lib.hid hM
  clear hp hs hd hM
  refine wpIn_wide (n := 5).1 (wpIn_rangeFunc_ownH (F := Fence.wide) (n := 5) rfl (by omega) (gf := 47) (lb := #[.pointer (some ⟨bb, 0, none⟩)]) rfl trivial (enters_of Try.func47 (by kernel_rfl) rfl)
    (back_stops 4 (by omega) bb w4.heap.size M _ s d hMb hbb w4 rfl hcb Hp.out) (fun h k => belowK_t h k) (belowK_b (w := w4) (Nat.le_refl _)) (Below.refl _ _) (fun _ => rfl)
    (fun pre W => Below w4.heap.size w4 W ∧ ∀ j ∈ pre, s j ≠ n)
    (fun c pre W => c = .exit 0 ∧ But bf w4 W ∧ ∃ pre' j, pre = pre' ++ [j] ∧ (∀ i ∈ pre', s i ≠ n) ∧ s j = n ∧ W.cell? ⟨bf, 0, none⟩ = some (d j))
    (OwnFrom.and (ownFrom_below (Nat.le_refl _) (Nat.le_refl _)) (ownFrom_pure _ _)) ?ix ⟨Below.refl _ _, by simp⟩
    (fun x a' W => ∃ Bx, a' = { tmps := #[.pointer (some ⟨p, 0, none⟩), .int .i64 (n : Int), undef, .pointer (some ⟨bn, 0, none⟩), .slice none 0 0, .int .i64 0, .pointer (some ⟨bf, 0, none⟩), undef, .pointer (some ⟨Bx, 0, none⟩), .pointer (some ⟨p, 0, none⟩), .int .i64 (n : Int), .bool true, .bool false, .pointer (some ⟨p, 0, none⟩), .pointer (some ⟨p, 0, none⟩), .pointer (some ⟨p, 0, none⟩), .slice (some ⟨bs, 0, none⟩) N cs, .int .i64 (n : Int), .slice (some ⟨bs, n * 512, none⟩) 512 512, .pointer (some ⟨p, 0, none⟩), .pointer (some ⟨p, 0, none⟩), .pointer (some ⟨p, 1, none⟩), .slice ap M cp, .func (.func 47) #[] #[.pointer (some ⟨bb, 0, none⟩)], .int .i64 (x : Int), .agg #[.int .i64 (s x), d x], undef, undef, undef, undef, undef, undef, undef, undef, undef], defers := [] } ∧ W.heap[Bx]? = some (.cells #[.int .i64 (s x), d x] 67) ∧ w4.heap.size ≤ Bx)
    ?ax ?assign ?body ?done ?stop)
  case ix =>
    rintro c pre A B row ⟨h1, h2, pre', j, h3, h4, h5, h6⟩ hg hr
    have hbA : bf < A.heap.size := by have := h2.size; omega
    exact ⟨h1, But.own (β := Unit) bf w4 () A B row h2 hg hr, pre', j, h3, h4, h5, (World.cell?_of_block (hg.block bf hbA (fun e => by have := (hr bf e.symm).1; omega))).trans h6⟩
  case ax =>
    rintro x a' _ A B row ⟨Bx, h1, h2, h3⟩ hg hr
    refine ⟨Bx, h1, (hg.block Bx (Array.getElem?_eq_some_iff.1 h2).1 (fun e => ?_)).trans h2, h3⟩
    obtain ⟨-, o, ho, hc⟩ := hr Bx e.symm
    rw [h2] at ho; cases ho; cases hc
  case assign =>
    intro l pre x W K hi hK
    have hT : SL W [row W.heap.size 67 [.int .i64 0, .slice none 0 0], Sl.old W] (W.alloc (.cells #[.int .i64 0, .slice none 0 0] 67)) := (SL.start W).alloc _
    obtain ⟨da, dl, dc, hdx⟩ := hdS x
    rw [hdx] at hK ⊢
    gi_wp2_with ((with_reducible show wpListIn _ _ _ _ _ (Oper.mk _ (Op.store _ _ _) _ _ _ _ :: _) _ _); refine wpListIn_plain rfl (fun K hK => ?_); refine wIn_storea El67 hT 0 rfl rfl rfl rfl rfl (Nat.le_of_ble_eq_true rfl) ?_; clear hT; intro W2 hT; refine hK _ _ ?_; clear hK K)
    have hBW : Below W.heap.size W W2 := hT.below (.tail _ (.head _))
    exact hK _ _ ⟨hBW.size, fun k o _ hk _ => (hBW.block k (Array.getElem?_eq_some_iff.1 hk).1).trans hk⟩ (hBW.mono hi.1.size) ⟨hi.1.trans (hBW.mono hi.1.size), hi.2⟩ ⟨W.heap.size, rfl, hT.get (.head _), hi.1.size⟩
  case body =>
    rintro l pre x a' W hl ⟨r, hr⟩ ⟨hB, hno⟩ ⟨Bx, rfl, hBx, hge⟩ hlt
    obtain ⟨da, dl, dc, hdx⟩ := hdS x
    rw [hdx] at hBx ⊢
    have hc0 : W.cell? ⟨Bx, 0, none⟩ = some (.int .i64 (s x)) := by simp [World.cell?, hBx]
    have hc1 : W.cell? ⟨Bx, 1, none⟩ = some (.slice da dl dc) := by simp [World.cell?, hBx]
    have hyn : W.cell? ⟨bn, 0, none⟩ = some (.int .i64 (n : Int)) := (hB.cell (p := ⟨bn, 0, none⟩) hbn).trans hxn.cell
    have hyf : Boxed W bf 31 (.slice (some ⟨bs, n * 512, none⟩) 512 512) := (hB.block bf hbf).trans hxf
    have hcf := hyf.cell; have hff := hyf.frozen
    by_cases hsx : s x = n
    · have hb1 : (s x == (n : Int)) = true := by rw [hsx]; simp
      have HSX := Lib.hid hsx; clear hsx
      gi_wp2
      have hg := grownBy_setCell' W bf (.slice da dl dc)
      refine ⟨KeepsFrom.of_grownBy hg (fun j e => by cases e; exact hbf), rfl, ⟨hg.os.trans hB.os, hg.tape.trans hB.tape, hg.output.trans hB.output, Nat.le_trans hB.size hg.size, fun k hk hkf => ?_⟩, pre, x, rfl, hno, HSX.out, ?_⟩
      · exact (hg.block k (by have := hB.size; omega) (fun e => hkf (by cases e; rfl))).trans (hB.block k hk)
      · rw [hdx]; exact World.cell?_setCell_same' _ _ _ (by rw [hcf]; rfl)
    · have hb1 : (s x == (n : Int)) = false := by rw [beq_eq_false_iff_ne]; exact hsx
      have HSX := Lib.hid hsx; clear hsx
      gi_wp2
      refine ⟨KeepsFrom.refl _ _, Below.refl _ _, hB, fun j hj => ?_⟩
      rcases List.mem_append.1 hj with h | h
      · exact hno j h
      · obtain rfl : j = x := by simpa using h
        exact HSX.out
  case done =>
    rintro D ys W hD rfl ⟨hB, hno⟩ hK
    have hcell := Boxed.cell (show Boxed W bf 31 (.slice (some ⟨bs, n * 512, none⟩) 512 512) from (hB.block bf hbf).trans hxf)
    have hbut := But.below (f := bf) hB
    obtain ⟨data, hdat⟩ : ∃ data, data = (σ.safe.drop (n * 512)).take 512 := ⟨_, rfl⟩
    have hdata : data = σ.read n := by
      rw [hdat]
      refine (readN_none fun i y hy => ?_).symm
      have hi := (List.getElem?_eq_some_iff.1 hy).1
      have h := hno i ((down_mem _ _ _).2 ⟨Nat.zero_le _, by rw [HM.out]; exact hi⟩)
      rw [Hs.out i y hy] at h
      omega
    have hrd : ∀ W', SL g (pts D (.deferred (some [])) :: row bb 62 [.slice ap M cp] :: row bs 5 (u8s σ.safe ++ sp) :: row p 64 [.slice (some ⟨bs, 0, none⟩) N cs, .slice ap M cp, .bool σ.limited, .int .i64 σ.left] :: PendP (.slice ap M cp) ds σ.pend :: row bn 3 [.int .i64 (n : Int)] :: L) W' → Rd W' 1 (.slice (some ⟨bs, n * 512, none⟩) 512 512) 512 (u8s data) := by
      intro W' h
      have hl := HN.out
      refine h.rd_row (.tail _ (.tail _ (.head _))) (by rw [u8s_len, hdat, List.length_take, List.length_drop]; omega) (fun j u hu => ?_)
      have hj := (List.getElem?_eq_some_iff.1 hu).1
      rw [u8s_len, hdat, List.length_take, List.length_drop] at hj
      rw [hdat, u8s_take, u8s_drop, List.getElem?_take_of_lt (by omega), List.getElem?_drop] at hu
      rw [List.getElem?_append_left (by rw [u8s_len]; omega)]
      exact hu
    have hS3 := SL.after (hS.pull 1) hbut hD hK
    have HRD := Lib.hid hrd
    have HDA := Lib.hid hdata
    clear hrd hdata
    go_wp2_with (first | (go_at_call 29; refine (clone_c _ 512 (u8s data) hS3 HRD.out (u8s_one _) (by omega)).mono ?_; rintro e W5 ⟨s1, rfl, hS5, hs1⟩; (obtain ⟨bo, co, spo, rfl, ho1, ho2, ho3, ho4, hS5⟩ := own_row hS5 (by omega)); clear hs1) | (go_at_call 31; refine (clip_c _ _ 512 co ho1 (by omega)).mono ?_; rintro e w' ⟨rfl, rfl⟩))
    have hKD := hS5.get (.tail _ (.head _))
    have h := (SL.put (.deferred none) (hS5.pull 1)).tail
    refine ⟨by simp, .inl ⟨_, _, rfl, run_takeDeferred hKD, ?_⟩⟩
    refine ⟨_, results_tmp2 rfl _ _ _, bo, rfl, spo, ?_⟩
    rw [← HDA.out]
    rw [HN.out, HM.out] at h
    have h := SL.own_some (n := σ.safe.length) (cap := cs) (sz := 1) (h.pull 2) (by rw [u8s_len]; omega) (by have := HN.out; omega) Hs2.out Hsp.out
    have h := ((h.pull 4).pull 1).pull 4
    have h := (st_shut (σ := σ) (sv := .slice (some ⟨bs, 0, none⟩) σ.safe.length cs) (pv := .slice ap σ.pend.length cp) HW.out Hds.out Hpv.out h).pull 1
    exact ((h.pull 2).tail.pull 2).tail
  case stop =>
    rintro D c pre W hD ⟨k, hk, hpre⟩ ⟨rfl, hbut, pre', j, hp, hno, hsj, hcell⟩ hK
    refine wpIn_wide.2 ?_
    rw [hp, down_succ _ _ hk] at hpre
    obtain ⟨rfl, e⟩ := List.append_inj' hpre rfl
    obtain rfl : j = k := by simpa using e
    clear hpre e
    obtain ⟨x, hx⟩ : ∃ x, σ.pend[j]? = some x := ⟨_, List.getElem?_eq_getElem (by have := HM.out; omega)⟩
    obtain ⟨y, hy⟩ : ∃ y, ds[j]? = some y := ⟨_, List.getElem?_eq_getElem (by have := HM.out; have := Hds.out; omega)⟩
    obtain ⟨hx1, hx2⟩ := HW.out.pend x (List.mem_of_getElem? hx)
    rw [Hd.out j y hy] at hcell
    obtain ⟨data, hdat⟩ : ∃ data, data = x.2 := ⟨_, rfl⟩
    have hdata : data = σ.read n := by
      rw [hdat]
      refine (readN_some hx (by have := Hs.out j x hx; omega) fun i z hi hz => ?_).symm
      have h := hno i ((down_mem _ _ _).2 ⟨by omega, by rw [HM.out]; exact (List.getElem?_eq_some_iff.1 hz).1⟩)
      rw [Hs.out i z hz] at h
      omega
    have hrd : ∀ W', SL g (pts D (.deferred (some [])) :: row bb 62 [.slice ap M cp] :: row bs 5 (u8s σ.safe ++ sp) :: row p 64 [.slice (some ⟨bs, 0, none⟩) N cs, .slice ap M cp, .bool σ.limited, .int .i64 σ.left] :: PendP (.slice ap M cp) ds σ.pend :: row bn 3 [.int .i64 (n : Int)] :: L) W' → Rd W' 1 y 512 (u8s data) := by
      intro W' h
      rw [hdat, ← hx2]
      exact (pend_rd h (.tail _ (.tail _ (.tail _ (.tail _ (.head _))))) Hds.out).2 j x y hx hy
    obtain ⟨ya, yc, rfl⟩ := rd_shape (hrd W (SL.after (hS.pull 1) hbut hD hK))
    have hS3 := SL.after (hS.pull 1) hbut hD hK
    have HRD := Lib.hid hrd
    have HDA := Lib.hid hdata
    clear hrd hdata
    go_wp2_with (first | (go_at_call 29; refine (clone_c _ 512 (u8s data) hS3 HRD.out (u8s_one _) (by omega)).mono ?_; rintro e W5 ⟨s1, rfl, hS5, hs1⟩; (obtain ⟨bo, co, spo, rfl, ho1, ho2, ho3, ho4, hS5⟩ := own_row hS5 (by omega)); clear hs1) | (go_at_call 31; refine (clip_c _ _ 512 co ho1 (by omega)).mono ?_; rintro e w' ⟨rfl, rfl⟩))
    have hKD := hS5.get (.tail _ (.head _))
    have h := (SL.put (.deferred none) (hS5.pull 1)).tail
    refine ⟨by simp, .inl ⟨_, _, rfl, run_takeDeferred hKD, ?_⟩⟩
    refine ⟨_, results_tmp2 rfl _ _ _, bo, rfl, spo, ?_⟩
    rw [← HDA.out]
    rw [HN.out, HM.out] at h
    have h := SL.own_some (n := σ.safe.length) (cap := cs) (sz := 1) (h.pull 2) (by rw [u8s_len]; omega) (by have := HN.out; omega) Hs2.out Hsp.out
    have h := ((h.pull 4).pull 1).pull 4
    have h := (st_shut (σ := σ) (sv := .slice (some ⟨bs, 0, none⟩) σ.safe.length cs) (pv := .slice ap σ.pend.length cp) HW.out Hds.out Hpv.out h).pull 1
    exact ((h.pull 2).tail.pull 2).tail

end Go.Proofs.Ytinmonlhfnaiiaa
