/- The block package's functions: contracts over separation lists (part 4): Crash. -/
import Derived.Test.YtinmonlhfnaiiaaBlk3
namespace Go.Proofs.Ytinmonlhfnaiiaa
open Go.Sl Go.RowKit
set_option linter.unusedVariables false
set_option linter.unusedSimpArgs false

def crashStep (acc : List Int) (x : Nat × List Int) (p : Int) : List Int :=
  let q := if p < 0 then -(p + 1) else p
  let k := (q % 513).toNat
  if (q / 513 % 2 == 1) = true then spl acc (x.1 * 512 + (512 - k)) (x.2.drop (512 - k)) else spl acc (x.1 * 512) (x.2.take k)

def crashN (safe : List Int) (pend : List (Nat × List Int)) (picks : List Int) : Nat → List Int
  | 0 => safe
  | k + 1 => match pend[k]? with
    | none => crashN safe pend picks k
    | some x => crashStep (crashN safe pend picks k) x (picks.getD k 0)

def St.crash (σ : St) (picks : List Int) : List Int := crashN σ.safe σ.pend picks σ.pend.length

theorem crashStep_len {acc : List Int} {x : Nat × List Int} {p : Int} {n : Nat} (h : acc.length = n * 512) (h1 : x.1 < n) (h2 : x.2.length = 512) : (crashStep acc x p).length = n * 512 := by
  unfold crashStep
  generalize (if p < 0 then -(p + 1) else p) = q
  have hk : (q % 513).toNat ≤ 512 := by omega
  simp only
  split
  · rw [spl_len _ _ _ (by simp [h, h2]; omega), h]
  · rw [spl_len _ _ _ (by simp [h, h2]; omega), h]

theorem crashN_len {σ : St} (hw : σ.Wf) (picks : List Int) : ∀ k, k ≤ σ.pend.length → (crashN σ.safe σ.pend picks k).length = σ.n * 512
  | 0, _ => hw.len
  | k + 1, h => by
    have hx : σ.pend[k]? = some σ.pend[k] := List.getElem?_eq_getElem (by omega)
    simp only [crashN, hx]
    obtain ⟨h1, h2⟩ := hw.pend σ.pend[k] (List.getElem_mem (by omega))
    exact crashStep_len (crashN_len hw picks k (by omega)) h1 h2

theorem Rd_take {w : World} {a : Option Addr} {n c c' k : Nat} {vs : List Value} (h : Rd w 1 (.slice a n c) n vs) (hk : k ≤ n) : Rd w 1 (.slice a k c') k (vs.take k) := by
  obtain ⟨a', c2, e, hl, hc⟩ := h
  cases e
  exact ⟨a, c', rfl, by simp; omega, fun j u hu => hc j u (by rw [List.getElem?_take] at hu; split at hu; exact hu; cases hu)⟩

theorem Rd_drop {w : World} {b o o' n c c' k m : Nat} {vs : List Value} (h : Rd w 1 (.slice (some ⟨b, o, none⟩) n c) n vs) (ho : o' = o + m) (hk : k + m = n) : Rd w 1 (.slice (some ⟨b, o', none⟩) k c') k (vs.drop m) := by
  subst ho
  obtain ⟨a', c2, e, hl, hc⟩ := h
  cases e
  refine ⟨_, c', rfl, by simp; omega, fun j u hu => ?_⟩
  rw [List.getElem?_drop] at hu
  obtain ⟨ad, h1, h2⟩ := hc _ u hu
  cases h1
  refine ⟨_, rfl, ?_⟩
  rw [Addr.add_lit] at h2 ⊢
  rw [show o + m + j = o + (m + j) from by omega]; exact h2

theorem Rd_empty (w : World) (a : Option Addr) (c : Nat) : Rd w 1 (.slice a 0 c) 0 [] := ⟨a, c, rfl, rfl, by simp⟩

theorem own_cap {g w : World} {L : List HP} {E n : Nat} {s : Value} {vs : List Value} (h : SL g L w) (hm : ownS E 1 s n vs ∈ L) (hn : n ≠ 0) : ∃ b c, s = .slice (some ⟨b, 0, none⟩) n c ∧ n ≤ c ∧ c ≤ maxLen := by
  obtain ⟨s1, t, e⟩ := List.append_of_mem hm
  subst e
  obtain ⟨b, c, sp, h1, h2, h3, _⟩ := own_row (h.perm (List.perm_middle)) hn
  exact ⟨b, c, h1, h2, h3⟩

theorem pend_cap {g w : World} {L : List HP} {pv : Value} {ds : List Value} {l : List (Nat × List Int)} (h : SL g L w) (hm : PendP pv ds l ∈ L) (hl : ds.length = l.length) (i : Nat) (x : Nat × List Int) (d : Value) (hx : l[i]? = some x) (hd : ds[i]? = some d)
    (h5 : x.2.length = 512) : ∃ b c, d = .slice (some ⟨b, 0, none⟩) 512 c ∧ 512 ≤ c ∧ c ≤ maxLen := by
  obtain ⟨s1, t, e⟩ := List.append_of_mem hm
  subst e
  have h2 := SL.flat.1 (h.perm (List.perm_middle))
  have : (List.zipWith (fun d x => byS d x.2) ds l)[i]? = some (byS d x.2) := by simp [List.getElem?_zipWith, hx, hd]
  have h3 := own_cap (E := 5) (s := d) (n := x.2.length) (vs := u8s x.2) h2 (by
    simp only [List.cons_append, List.mem_cons, List.mem_append]; right; left; exact List.mem_of_getElem? this) (by omega)
  rw [h5] at h3; exact h3

theorem crashN_succ (safe : List Int) (pend : List (Nat × List Int)) (picks : List Int) (k : Nat) (x : Nat × List Int) (h : pend[k]? = some x) :
    crashN safe pend picks (k + 1) = crashStep (crashN safe pend picks k) x (picks.getD k 0) := by simp only [crashN, h]

theorem step_first {acc : List Int} {x : Nat × List Int} {p q : Int} {kk : Nat} (hq : (if p < 0 then -(p + 1) else p) = q) (hk : q % 513 = (kk : Int)) (hl : (q / 513 % 2 == 1) = false) :
    crashStep acc x p = spl acc (x.1 * 512) (x.2.take kk) := by
  unfold crashStep
  simp only [hq, hl, hk, Int.toNat_natCast]
  rfl

theorem step_last {acc : List Int} {x : Nat × List Int} {p q : Int} {kk m : Nat} (hq : (if p < 0 then -(p + 1) else p) = q) (hk : q % 513 = (kk : Int)) (hl : (q / 513 % 2 == 1) = true) (hm : 512 - kk = m) :
    crashStep acc x p = spl acc (x.1 * 512 + m) (x.2.drop m) := by
  unfold crashStep
  simp only [hq, hl, hk, Int.toNat_natCast, if_true, hm]

theorem pend_rd512 {g w : World} {L : List HP} {pv : Value} {ds : List Value} {l : List (Nat × List Int)} (h : SL g L w) (hm : PendP pv ds l ∈ L) (hl : ds.length = l.length) {k xs : Nat} {xd : List Int} {d : Value} (hx : l[k]? = some (xs, xd)) (hd : ds[k]? = some d) (h5 : xd.length = 512) :
    Rd w 1 d 512 (u8s xd) := by
  have h2 := (pend_rd h hm hl).2 k _ _ hx hd
  simp only at h2
  rw [h5] at h2; exact h2

abbrev crL (p : Nat) (σ : St) (sv pv : Value) (ds : List Value) (L : List HP) : List HP :=
  row p 64 [sv, pv, .bool σ.limited, .int .i64 σ.left] :: byS sv σ.safe :: PendP pv ds σ.pend :: L

theorem cr_first {g w : World} {L : List HP} {σ : St} {bo k xs : Nat} {spo : List Value} {xd picks : List Int} {pk q : Int} {kk : Nat} (hx : σ.pend[k]? = some (xs, xd)) (hx1 : xs < σ.n) (hx2 : xd.length = 512) (hpk : picks.getD k 0 = pk)
    (hlen : (crashN σ.safe σ.pend picks k).length = σ.n * 512) (hq : (if pk < 0 then -(pk + 1) else pk) = q) (hk : q % 513 = (kk : Int)) (hl : (q / 513 % 2 == 1) = false) (hkk : kk ≤ 512)
    (h : SL g (row bo 5 ((u8s (crashN σ.safe σ.pend picks k) ++ spo).take (xs * 512) ++ ((u8s xd).take kk).take 512 ++ (u8s (crashN σ.safe σ.pend picks k) ++ spo).drop (xs * 512 + Nat.min kk 512)) :: L) w) :
    SL g (row bo 5 (u8s (crashN σ.safe σ.pend picks (k + 1)) ++ spo) :: L) w := by
  have h1 : ((u8s xd).take kk).take 512 = u8s (xd.take kk) := by
    have h0 : ((u8s xd).take kk).length ≤ 512 := by rw [List.length_take]; omega
    rw [List.take_of_length_le h0, u8s_take]
  have h2 : Nat.min kk 512 = (xd.take kk).length := by
    rw [List.length_take, hx2]
  have h3 : xs * 512 + (xd.take kk).length ≤ (crashN σ.safe σ.pend picks k).length := by rw [hlen, List.length_take, hx2]; omega
  rw [h1, h2, spl_row _ _ _ _ h3] at h
  rw [crashN_succ _ _ _ k _ hx, hpk, step_first hq hk hl]
  exact h

theorem cr_last {g w : World} {L : List HP} {σ : St} {bo k xs : Nat} {spo : List Value} {xd picks : List Int} {pk q : Int} {kk m : Nat} (hx : σ.pend[k]? = some (xs, xd)) (hx1 : xs < σ.n) (hx2 : xd.length = 512) (hpk : picks.getD k 0 = pk)
    (hlen : (crashN σ.safe σ.pend picks k).length = σ.n * 512) (hq : (if pk < 0 then -(pk + 1) else pk) = q) (hk : q % 513 = (kk : Int)) (hl : (q / 513 % 2 == 1) = true) (hm : m + kk = 512) (r : Nat) (hr : r = kk)
    (h : SL g (row bo 5 ((u8s (crashN σ.safe σ.pend picks k) ++ spo).take (xs * 512 + m) ++ ((u8s xd).drop m).take r ++ (u8s (crashN σ.safe σ.pend picks k) ++ spo).drop (xs * 512 + m + Nat.min r r)) :: L) w) :
    SL g (row bo 5 (u8s (crashN σ.safe σ.pend picks (k + 1)) ++ spo) :: L) w := by
  subst hr
  have h1 : ((u8s xd).drop m).take r = u8s (xd.drop m) := by
    have h0 : ((u8s xd).drop m).length ≤ r := by rw [List.length_drop, u8s_len, hx2]; omega
    rw [List.take_of_length_le h0, u8s_drop]
  have h2 : Nat.min r r = (xd.drop m).length := by
    rw [List.length_drop, hx2]; show min r r = _; omega
  have h3 : xs * 512 + m + (xd.drop m).length ≤ (crashN σ.safe σ.pend picks k).length := by rw [hlen, List.length_drop, hx2]; omega
  rw [h1, h2, spl_row _ _ _ _ h3] at h
  have h4 : 512 - r = m := by omega
  rw [crashN_succ _ _ _ k _ hx, hpk, step_last hq hk hl h4]
  exact h

theorem cr_zero {g w : World} {L : List HP} {σ : St} {bo k xs : Nat} {spo : List Value} {xd picks : List Int} {pk q : Int} (hx : σ.pend[k]? = some (xs, xd)) (hx2 : xd.length = 512) (hpk : picks.getD k 0 = pk)
    (hq : (if pk < 0 then -(pk + 1) else pk) = q) (hk : q % 513 = ((0 : Nat) : Int)) (hl : (q / 513 % 2 == 1) = true)
    (h : SL g (row bo 5 ((u8s (crashN σ.safe σ.pend picks k) ++ spo).take (xs * 512) ++ ([] : List Value).take 0 ++ (u8s (crashN σ.safe σ.pend picks k) ++ spo).drop (xs * 512 + Nat.min 0 0)) :: L) w) :
    SL g (row bo 5 (u8s (crashN σ.safe σ.pend picks (k + 1)) ++ spo) :: L) w := by
  have e : Nat.min 0 0 = 0 := rfl
  rw [e, Nat.add_zero, List.take_nil, List.append_nil, List.take_append_drop] at h
  have h5 : xd.drop 512 = [] := List.drop_eq_nil_of_le (by omega)
  rw [crashN_succ _ _ _ k _ hx, hpk, step_last (m := 512) hq hk hl rfl, h5]
  have h6 : spl (crashN σ.safe σ.pend picks k) (xs * 512 + 512) [] = crashN σ.safe σ.pend picks k := by simp [spl]
  rw [h6]; exact h

set_option maxHeartbeats 8000000 in
theorem crash_c {g w : World} {L : List HP} (p : Nat) (σ : St) (pa : Option Addr) (pc : Nat) (picks : List Int) (hpl : picks.length ≤ 9223372036854775807) (hpb : ∀ x ∈ picks, -9223372036854775808 ≤ x ∧ x ≤ 9223372036854775807)
    (hS : SL g (StoreP p σ :: L) w) (hP : ∀ w', SL g L w' → Rd w' 1 (.slice pa picks.length pc) picks.length (i64s picks)) :
    Calls Try.prog 16 #[.pointer (some ⟨p, 0, none⟩), .slice pa picks.length pc] w fun e w' => ∃ b, e = .returned (.slice (some ⟨b, 0, none⟩) (σ.n * 512) (σ.n * 512)) ∧ ∃ sp, SL g (row b 5 (u8s (σ.crash picks) ++ sp) :: StoreP p σ :: L) w' := by
  obtain ⟨hw, sv, pv, ds, hds, hpv, hS⟩ := st_open hS
  obtain ⟨a, cp, e⟩ := rd_shape (pend_rd hS (.tail _ (.tail _ (.head _))) hds).1
  subst e
  obtain ⟨as_, cs, e⟩ := rd_shape ((hS.pull 1).own_rd)
  subst e
  obtain ⟨N, hN⟩ : ∃ N, N = σ.n * 512 := ⟨_, rfl⟩
  obtain ⟨M, hM⟩ : ∃ M, M = σ.pend.length := ⟨_, rfl⟩
  obtain ⟨R, hRl⟩ : ∃ R, R = picks.length := ⟨_, rfl⟩
  rw [← hRl] at hpl hP ⊢
  have hN2 : N = σ.safe.length := by have := hw.len; omega
  have hMb : M ≤ 1000000000 := by have := hw.many; omega
  have hNb : N ≤ 2097152 := by have := hw.n2; omega
  have hN0 : N ≠ 0 := by have := hw.n1; omega
  have hc := hS.cell (b := p) (.head _) 0
  have hcp := hS.cell (b := p) (.head _) 1
  simp only [List.getElem?_cons_zero, List.getElem?_cons_succ] at hc hcp
  rw [← hN2] at hc
  rw [← hM] at hcp
  have HN := Lib.hid hN; have HN2 := Lib.hid hN2; have HN0 := Lib.hid hN0; have HM := Lib.hid hM; have Hds := Lib.hid hds; have Hpv := Lib.hid hpv; have HW := Lib.hid hw
  have HRl := Lib.hid hRl; have Hpb := Lib.hid hpb; have HP := Lib.hid hP
  clear hN hN2 hM hds hpv hw hN0 hRl hpb hP
  rw [← HN.out]
  have HS := Lib.hid hS
  clear hS
  go_enter Try.func16, Try.ntmps16
  go_wp2_with (go_at_call 29; refine (clone_c _ N (u8s σ.safe) HS.out (fun w' h => by rw [HN2.out]; exact mem_rd (E := 5) h (.tail _ (.head _))) (u8s_one _) (by omega)).mono ?_; rintro e w ⟨s1, rfl, hS, hs1⟩; (obtain ⟨bo, co, spo, rfl, ho1, ho2, ho3, ho4, hS⟩ := own_row hS HN0.out); (have hcp := hS.cell (b := p) (.tail _ (.head _)) 1); simp only [List.getElem?_cons_zero, List.getElem?_cons_succ] at hcp; rw [← HM.out] at hcp)
  clear hcp hs1 hc ho3 ho4
  go_loopw [22] (fun i wr => ∃ k : Nat, k ≤ M ∧ i = .int .i64 k ∧ SL g (row bo 5 (u8s (crashN σ.safe σ.pend picks k) ++ spo) :: row p 64 [.slice as_ σ.safe.length cs, .slice a σ.pend.length cp, .bool σ.limited, .int .i64 σ.left] :: byS (.slice as_ σ.safe.length cs) σ.safe :: PendP (.slice a σ.pend.length cp) ds σ.pend :: L) wr) (fun i _ => M - (intOf i).toNat)
  case atStart => exact ⟨0, Nat.zero_le _, rfl, hS⟩
  case round =>
    clear hS
    obtain ⟨k, hk, rfl, hS⟩ := hrel
    by_cases hlt : k < M
    · obtain ⟨x, hx⟩ : ∃ x, σ.pend[k]? = some x := ⟨_, List.getElem?_eq_getElem (by have := HM.out; omega)⟩
      obtain ⟨d, hd⟩ : ∃ d, ds[k]? = some d := ⟨_, List.getElem?_eq_getElem (by have := HM.out; have := Hds.out; omega)⟩
      obtain ⟨xs, xd⟩ := x
      obtain ⟨hx1, hx2⟩ := HW.out.pend _ (List.mem_of_getElem? hx)
      obtain ⟨bd, cd, rfl, hcd1, hcd2⟩ := pend_cap hS (.tail _ (.tail _ (.tail _ (.head _)))) Hds.out k _ _ hx hd hx2
      obtain ⟨bp, rfl⟩ : ∃ bp, a = some ⟨bp, 0, none⟩ := by
        obtain ⟨hl, ⟨_, h0, _⟩ | ⟨b, cap, sp, h1, _⟩⟩ := (SL.flat1.1 (hS.pull 3)).own_cases
        · have := HM.out; omega
        · cases h1; exact ⟨b, rfl⟩
      have HX := Lib.hid hx; have HD := Lib.hid hd
      clear hx hd
      simp only at hx1 hx2
      have Hx2 := Lib.hid hx2
      clear hx2
      have hxb : xs ≤ 4096 := by have := HW.out.n2; omega
      have hNn : (xs + 1) * 512 ≤ N := by have := HN.out; omega
      have HX1 := Lib.hid hx1; clear hx1
      unfold maxLen at hcd2
      -- the pick of this write
      obtain ⟨pk, hpk, hpk1, hpk2⟩ : ∃ pk, picks.getD k 0 = pk ∧ -9223372036854775808 ≤ pk ∧ pk ≤ 9223372036854775807 := by
        refine ⟨_, rfl, ?_⟩
        rw [List.getD_eq_getElem?_getD]
        cases h : picks[k]? with
        | none => simp
        | some y => exact Hpb.out y (List.mem_of_getElem? h)
      have Hpk := Lib.hid hpk
      have hcell : ∀ w', SL g L w' → k < R → ∃ ad : Addr, pa = some ad ∧ w'.cell? (ad.add k) = some (.int .i64 pk) := by
        intro w' h hlt'
        obtain ⟨a', c', e, _, hc⟩ := HP.out w' h
        cases e
        have hy : picks[k]? = some pk := by
          rw [List.getD_eq_getElem?_getD] at hpk
          rw [List.getElem?_eq_getElem (by have := HRl.out; omega)] at hpk ⊢
          simpa using hpk
        exact hc k _ (by simp [i64s, hy])
      have HC := Lib.hid hcell
      clear hcell hpk
      have hlen := crashN_len HW.out picks k (by have := HM.out; omega)
      have Hlen := Lib.hid hlen; clear hlen
      have HFit := Lib.hid (show ∀ j, j ≤ 512 → xs * 512 + j ≤ (u8s (crashN σ.safe σ.pend picks k) ++ spo).length from fun j h => by
        rw [List.length_append, u8s_len, Hlen.out]; have := HX1.out; omega)
      by_cases hkr : k < R
      · obtain ⟨ad, rfl, -⟩ := HC.out _ hS.tail.tail.tail.tail hkr
        have HC2 := Lib.hid (show ∀ w', SL g L w' → w'.cell? (ad.add k) = some (.int .i64 pk) from fun w' h => by obtain ⟨ad', e, h⟩ := HC.out _ h hkr; cases e; exact h)
        clear HC
        by_cases hneg : pk < 0
        · obtain ⟨q, hq, hq0, hq1⟩ : ∃ q, -(pk + 1) = q ∧ 0 ≤ q ∧ q ≤ 9223372036854775807 := ⟨_, rfl, by omega, by omega⟩
          obtain ⟨kk, hk5, hkk⟩ : ∃ kk : Nat, q % 513 = (kk : Int) ∧ kk ≤ 512 := ⟨(q % 513).toNat, by omega, by omega⟩
          have HQ := Lib.hid (show (if pk < 0 then -(pk + 1) else pk) = q by rw [if_pos hneg]; exact hq)
          cases hl : (q / 513 % 2 == 1) with
          | false =>
            go_wp2_with (first | ((with_reducible show wpList _ _ _ (Oper.mk _ (Op.load _ _) _ _ _ _ :: _) _ _); refine wpList_plain rfl (fun K hK => ?_); refine w_loada El67 (vs := [.int .i64 (xs : Int), .slice (some ⟨bd, 0, none⟩) 512 cd]) rfl rfl (pend_cells hS (.tail _ (.tail _ (.tail _ (.head _)))) Hds.out k _ _ HX.out HD.out) (by kernel_rfl) rfl ?_; refine hK _ _ ?_; clear hK K) | ((with_reducible show wpList _ _ _ (Oper.mk _ (Op.alloc _) _ _ _ _ :: _) _ _); refine wpList_plain rfl (fun K hK => ?_); refine w_alloc El67 hS rfl ?_; clear hS; intro bw w hS l' hl; simp only [List.set_cons_succ, List.set_cons_zero] at hl; subst hl; refine hK _ _ ?_; clear hK K) | (((with_reducible show wpList _ _ _ (Oper.mk _ (Op.store _ _ _) _ _ _ _ :: _) _ _); refine wpList_plain rfl (fun K hK => ?_); refine w_storea El67 hS 0 rfl rfl rfl rfl rfl (Nat.le_of_ble_eq_true rfl) ?_; clear hS; intro w hS; try simp only [ev, nth, Option.getD_some, Option.getD_none] at hS; refine hK _ _ ?_; clear hK K); (have hc1 := hS.cell (b := bw) (.head _) 0); (have hc2 := hS.cell (b := bw) (.head _) 1); simp only [List.take_zero, List.nil_append, List.cons_append, List.getElem?_cons_zero, List.getElem?_cons_succ] at hc1 hc2; (have hcp := HC2.out _ hS.tail.tail.tail.tail.tail)) | (go_at_call 30; refine (sector_c _ bo N co xs (by omega) (by omega)).mono ?_; rintro e w1 ⟨rfl, rfl⟩) | (clear hc1 hc2 hcp; ((with_reducible show wpList _ _ _ (Oper.mk _ (Op.call (Call.mk (Callee.builtin Builtin.copy) _ _)) _ _ _ _ :: _) _ _); refine wpList_plain rfl (fun K hK => ?_); refine w_copy El5 Try.underlying31 hS 1 rfl rfl rfl (Rd_take (pend_rd512 hS (.tail _ (.tail _ (.tail _ (.tail _ (.head _))))) Hds.out HX.out HD.out Hx2.out) (hkk)) (fun u hu => u8s_one _ u (List.mem_of_mem_take hu)) (HFit.out _ (Nat.min_le_right _ _)) rfl ?_; clear hS; intro w hS; refine hK _ _ ?_; clear hK K)))
            go_roundw
            case rel => exact ⟨k + 1, by omega, by go_num, cr_first HX.out HX1.out Hx2.out Hpk.out Hlen.out HQ.out hk5 hl (hkk) (hS.pull 1).tail⟩
            case measure => simp [intOf]; omega
          | true =>
            obtain ⟨m, hm, hmm⟩ : ∃ m : Nat, (512 : Int) - (kk : Int) = (m : Int) ∧ m + kk = 512 := ⟨512 - kk, by omega, by omega⟩
            have Hmm := Lib.hid hmm
            have hm1 : m ≤ 512 := by omega
            clear hmm
            by_cases hk0 : kk = 0
            · subst hk0
              obtain rfl : m = 512 := by have := Hmm.out; omega
              by_cases hcd : cd = 512
              · subst hcd
                go_wp2_with (first | ((with_reducible show wpList _ _ _ (Oper.mk _ (Op.load _ _) _ _ _ _ :: _) _ _); refine wpList_plain rfl (fun K hK => ?_); refine w_loada El67 (vs := [.int .i64 (xs : Int), .slice (some ⟨bd, 0, none⟩) 512 512]) rfl rfl (pend_cells hS (.tail _ (.tail _ (.tail _ (.head _)))) Hds.out k _ _ HX.out HD.out) (by kernel_rfl) rfl ?_; refine hK _ _ ?_; clear hK K) | ((with_reducible show wpList _ _ _ (Oper.mk _ (Op.alloc _) _ _ _ _ :: _) _ _); refine wpList_plain rfl (fun K hK => ?_); refine w_alloc El67 hS rfl ?_; clear hS; intro bw w hS l' hl; simp only [List.set_cons_succ, List.set_cons_zero] at hl; subst hl; refine hK _ _ ?_; clear hK K) | (((with_reducible show wpList _ _ _ (Oper.mk _ (Op.store _ _ _) _ _ _ _ :: _) _ _); refine wpList_plain rfl (fun K hK => ?_); refine w_storea El67 hS 0 rfl rfl rfl rfl rfl (Nat.le_of_ble_eq_true rfl) ?_; clear hS; intro w hS; try simp only [ev, nth, Option.getD_some, Option.getD_none] at hS; refine hK _ _ ?_; clear hK K); (have hc1 := hS.cell (b := bw) (.head _) 0); (have hc2 := hS.cell (b := bw) (.head _) 1); simp only [List.take_zero, List.nil_append, List.cons_append, List.getElem?_cons_zero, List.getElem?_cons_succ] at hc1 hc2; (have hcp := HC2.out _ hS.tail.tail.tail.tail.tail)) | (go_at_call 30; refine (sector_c _ bo N co xs (by omega) (by omega)).mono ?_; rintro e w1 ⟨rfl, rfl⟩))
                refine region_plan (fun w' => w'.cell? ⟨bw, 1, none⟩ = some (.slice (some ⟨bd, 0, none⟩) 512 512)) (fun i => [9].contains i) (fun i => [9].contains i) [0, 1, 2, 3, 4, 5, 6, 7, 8, 9] follows (by kernel_rfl) (by kernel_rfl) hc2 ?_
                clear hc1 hc2 hcp
                (refine plan_any rfl rfl rfl rfl rfl (Nat.le_of_ble_eq_true rfl) ?_; apply Exists.intro; apply Exists.intro; refine ⟨fun w' hS' K hK => ?_, ?_, ?_⟩; (clear hS'; go_step; exact hK); rfl)
                (refine plan_any rfl rfl rfl rfl rfl (Nat.le_of_ble_eq_true rfl) ?_; apply Exists.intro; apply Exists.intro; refine ⟨fun w' hS' K hK => ?_, ?_, ?_⟩; (clear hS'; go_step; exact hK); rfl)
                (refine plan_any rfl rfl rfl rfl rfl (Nat.le_of_ble_eq_true rfl) ?_; apply Exists.intro; apply Exists.intro; refine ⟨fun w' hS' K hK => ?_, ?_, ?_⟩; (clear hS'; go_step; exact hK); rfl)
                (refine plan_any rfl rfl rfl rfl rfl (Nat.le_of_ble_eq_true rfl) ?_; apply Exists.intro; apply Exists.intro; refine ⟨fun w' hS' K hK => ?_, ?_, ?_⟩; (clear hS'; go_step; exact hK); rfl)
                (refine plan_any rfl rfl rfl rfl rfl (Nat.le_of_ble_eq_true rfl) ?_; apply Exists.intro; apply Exists.intro; refine ⟨fun w' hS' K hK => ?_, ?_, ?_⟩; (clear hS'; go_step; exact hK); rfl)
                (refine plan_any rfl rfl rfl rfl rfl (Nat.le_of_ble_eq_true rfl) ?_; apply Exists.intro; apply Exists.intro; refine ⟨fun w' hS' K hK => ?_, ?_, ?_⟩; (skip; go_step; exact hK); rfl)
                (refine plan_any rfl rfl rfl rfl rfl (Nat.le_of_ble_eq_true rfl) ?_; apply Exists.intro; apply Exists.intro; refine ⟨fun w' hS' K hK => ?_, ?_, ?_⟩; (clear hS'; go_step; exact hK); rfl)
                (refine plan_any rfl rfl rfl rfl rfl (Nat.le_of_ble_eq_true rfl) ?_; apply Exists.intro; apply Exists.intro; refine ⟨fun w' hS' K hK => ?_, ?_, ?_⟩; (clear hS'; go_step; exact hK); rfl)
                (refine plan_any rfl rfl rfl rfl rfl (Nat.le_of_ble_eq_true rfl) ?_; apply Exists.intro; apply Exists.intro; refine ⟨fun w' hS' K hK => ?_, ?_, ?_⟩; (clear hS'; go_step; exact hK); rfl)
                refine plan_eff rfl rfl rfl (fun K hK => ?_)
                refine w_copy El5 Try.underlying31 hS.drew 1 rfl rfl rfl (Rd_empty _ _ _) (by simp) ?_ rfl ?_
                · exact HFit.out 0 (Nat.zero_le _)
                intro w5 hS5
                refine hK _ _ (fun h => by cases h) (plan_nil ?_)
                clear hK K hS
                go_wp2
                go_roundw
                case rel => exact ⟨k + 1, by omega, by go_num, cr_zero HX.out Hx2.out Hpk.out HQ.out hk5 hl (hS5.pull 1).tail⟩
                case measure => simp [intOf]; omega
              · have hcd' : 512 < cd := by omega
                go_wp2_with (first | ((with_reducible show wpList _ _ _ (Oper.mk _ (Op.load _ _) _ _ _ _ :: _) _ _); refine wpList_plain rfl (fun K hK => ?_); refine w_loada El67 (vs := [.int .i64 (xs : Int), .slice (some ⟨bd, 0, none⟩) 512 cd]) rfl rfl (pend_cells hS (.tail _ (.tail _ (.tail _ (.head _)))) Hds.out k _ _ HX.out HD.out) (by kernel_rfl) rfl ?_; refine hK _ _ ?_; clear hK K) | ((with_reducible show wpList _ _ _ (Oper.mk _ (Op.alloc _) _ _ _ _ :: _) _ _); refine wpList_plain rfl (fun K hK => ?_); refine w_alloc El67 hS rfl ?_; clear hS; intro bw w hS l' hl; simp only [List.set_cons_succ, List.set_cons_zero] at hl; subst hl; refine hK _ _ ?_; clear hK K) | (((with_reducible show wpList _ _ _ (Oper.mk _ (Op.store _ _ _) _ _ _ _ :: _) _ _); refine wpList_plain rfl (fun K hK => ?_); refine w_storea El67 hS 0 rfl rfl rfl rfl rfl (Nat.le_of_ble_eq_true rfl) ?_; clear hS; intro w hS; try simp only [ev, nth, Option.getD_some, Option.getD_none] at hS; refine hK _ _ ?_; clear hK K); (have hc1 := hS.cell (b := bw) (.head _) 0); (have hc2 := hS.cell (b := bw) (.head _) 1); simp only [List.take_zero, List.nil_append, List.cons_append, List.getElem?_cons_zero, List.getElem?_cons_succ] at hc1 hc2; (have hcp := HC2.out _ hS.tail.tail.tail.tail.tail)) | (go_at_call 30; refine (sector_c _ bo N co xs (by omega) (by omega)).mono ?_; rintro e w1 ⟨rfl, rfl⟩))
                refine region_plan (fun w' => w'.cell? ⟨bw, 1, none⟩ = some (.slice (some ⟨bd, 0, none⟩) 512 cd)) (fun i => [9].contains i) (fun i => [9].contains i) [0, 1, 2, 3, 4, 5, 6, 7, 8, 9] follows (by kernel_rfl) (by kernel_rfl) hc2 ?_
                clear hc1 hc2 hcp
                (refine plan_any rfl rfl rfl rfl rfl (Nat.le_of_ble_eq_true rfl) ?_; apply Exists.intro; apply Exists.intro; refine ⟨fun w' hS' K hK => ?_, ?_, ?_⟩; (clear hS'; go_step; exact hK); rfl)
                (refine plan_any rfl rfl rfl rfl rfl (Nat.le_of_ble_eq_true rfl) ?_; apply Exists.intro; apply Exists.intro; refine ⟨fun w' hS' K hK => ?_, ?_, ?_⟩; (clear hS'; go_step; exact hK); rfl)
                (refine plan_any rfl rfl rfl rfl rfl (Nat.le_of_ble_eq_true rfl) ?_; apply Exists.intro; apply Exists.intro; refine ⟨fun w' hS' K hK => ?_, ?_, ?_⟩; (clear hS'; go_step; exact hK); rfl)
                (refine plan_any rfl rfl rfl rfl rfl (Nat.le_of_ble_eq_true rfl) ?_; apply Exists.intro; apply Exists.intro; refine ⟨fun w' hS' K hK => ?_, ?_, ?_⟩; (clear hS'; go_step; exact hK); rfl)
                (refine plan_any rfl rfl rfl rfl rfl (Nat.le_of_ble_eq_true rfl) ?_; apply Exists.intro; apply Exists.intro; refine ⟨fun w' hS' K hK => ?_, ?_, ?_⟩; (clear hS'; go_step; exact hK); rfl)
                (refine plan_any rfl rfl rfl rfl rfl (Nat.le_of_ble_eq_true rfl) ?_; apply Exists.intro; apply Exists.intro; refine ⟨fun w' hS' K hK => ?_, ?_, ?_⟩; (skip; go_step; exact hK); rfl)
                (refine plan_any rfl rfl rfl rfl rfl (Nat.le_of_ble_eq_true rfl) ?_; apply Exists.intro; apply Exists.intro; refine ⟨fun w' hS' K hK => ?_, ?_, ?_⟩; (clear hS'; go_step; exact hK); rfl)
                (refine plan_any rfl rfl rfl rfl rfl (Nat.le_of_ble_eq_true rfl) ?_; apply Exists.intro; apply Exists.intro; refine ⟨fun w' hS' K hK => ?_, ?_, ?_⟩; (clear hS'; go_step; exact hK); rfl)
                (refine plan_any rfl rfl rfl rfl rfl (Nat.le_of_ble_eq_true rfl) ?_; apply Exists.intro; apply Exists.intro; refine ⟨fun w' hS' K hK => ?_, ?_, ?_⟩; (clear hS'; go_step; exact hK); rfl)
                refine plan_eff rfl rfl rfl (fun K hK => ?_)
                refine w_copy El5 Try.underlying31 hS.drew 1 rfl rfl rfl (Rd_empty _ _ _) (by simp) ?_ rfl ?_
                · exact HFit.out 0 (Nat.zero_le _)
                intro w5 hS5
                refine hK _ _ (fun h => by cases h) (plan_nil ?_)
                clear hK K hS
                go_wp2
                go_roundw
                case rel => exact ⟨k + 1, by omega, by go_num, cr_zero HX.out Hx2.out Hpk.out HQ.out hk5 hl (hS5.pull 1).tail⟩
                case measure => simp [intOf]; omega
            · have hm2 : m < 512 := by have := Hmm.out; omega
              go_wp2_with (first | ((with_reducible show wpList _ _ _ (Oper.mk _ (Op.load _ _) _ _ _ _ :: _) _ _); refine wpList_plain rfl (fun K hK => ?_); refine w_loada El67 (vs := [.int .i64 (xs : Int), .slice (some ⟨bd, 0, none⟩) 512 cd]) rfl rfl (pend_cells hS (.tail _ (.tail _ (.tail _ (.head _)))) Hds.out k _ _ HX.out HD.out) (by kernel_rfl) rfl ?_; refine hK _ _ ?_; clear hK K) | ((with_reducible show wpList _ _ _ (Oper.mk _ (Op.alloc _) _ _ _ _ :: _) _ _); refine wpList_plain rfl (fun K hK => ?_); refine w_alloc El67 hS rfl ?_; clear hS; intro bw w hS l' hl; simp only [List.set_cons_succ, List.set_cons_zero] at hl; subst hl; refine hK _ _ ?_; clear hK K) | (((with_reducible show wpList _ _ _ (Oper.mk _ (Op.store _ _ _) _ _ _ _ :: _) _ _); refine wpList_plain rfl (fun K hK => ?_); refine w_storea El67 hS 0 rfl rfl rfl rfl rfl (Nat.le_of_ble_eq_true rfl) ?_; clear hS; intro w hS; try simp only [ev, nth, Option.getD_some, Option.getD_none] at hS; refine hK _ _ ?_; clear hK K); (have hc1 := hS.cell (b := bw) (.head _) 0); (have hc2 := hS.cell (b := bw) (.head _) 1); simp only [List.take_zero, List.nil_append, List.cons_append, List.getElem?_cons_zero, List.getElem?_cons_succ] at hc1 hc2; (have hcp := HC2.out _ hS.tail.tail.tail.tail.tail)) | (go_at_call 30; refine (sector_c _ bo N co xs (by omega) (by omega)).mono ?_; rintro e w1 ⟨rfl, rfl⟩))
              refine region_plan (fun w' => w'.cell? ⟨bw, 1, none⟩ = some (.slice (some ⟨bd, 0, none⟩) 512 cd)) (fun i => [9].contains i) (fun i => [9].contains i) [0, 1, 2, 3, 4, 5, 6, 7, 8, 9] follows (by kernel_rfl) (by kernel_rfl) hc2 ?_
              clear hc1 hc2 hcp
              (refine plan_any rfl rfl rfl rfl rfl (Nat.le_of_ble_eq_true rfl) ?_; apply Exists.intro; apply Exists.intro; refine ⟨fun w' hS' K hK => ?_, ?_, ?_⟩; (clear hS'; go_step; exact hK); rfl)
              (refine plan_any rfl rfl rfl rfl rfl (Nat.le_of_ble_eq_true rfl) ?_; apply Exists.intro; apply Exists.intro; refine ⟨fun w' hS' K hK => ?_, ?_, ?_⟩; (clear hS'; go_step; exact hK); rfl)
              (refine plan_any rfl rfl rfl rfl rfl (Nat.le_of_ble_eq_true rfl) ?_; apply Exists.intro; apply Exists.intro; refine ⟨fun w' hS' K hK => ?_, ?_, ?_⟩; (clear hS'; go_step; exact hK); rfl)
              (refine plan_any rfl rfl rfl rfl rfl (Nat.le_of_ble_eq_true rfl) ?_; apply Exists.intro; apply Exists.intro; refine ⟨fun w' hS' K hK => ?_, ?_, ?_⟩; (clear hS'; go_step; exact hK); rfl)
              (refine plan_any rfl rfl rfl rfl rfl (Nat.le_of_ble_eq_true rfl) ?_; apply Exists.intro; apply Exists.intro; refine ⟨fun w' hS' K hK => ?_, ?_, ?_⟩; (clear hS'; go_step; exact hK); rfl)
              (refine plan_any rfl rfl rfl rfl rfl (Nat.le_of_ble_eq_true rfl) ?_; apply Exists.intro; apply Exists.intro; refine ⟨fun w' hS' K hK => ?_, ?_, ?_⟩; (skip; go_step; exact hK); rfl)
              (refine plan_any rfl rfl rfl rfl rfl (Nat.le_of_ble_eq_true rfl) ?_; apply Exists.intro; apply Exists.intro; refine ⟨fun w' hS' K hK => ?_, ?_, ?_⟩; (clear hS'; go_step; exact hK); rfl)
              (refine plan_any rfl rfl rfl rfl rfl (Nat.le_of_ble_eq_true rfl) ?_; apply Exists.intro; apply Exists.intro; refine ⟨fun w' hS' K hK => ?_, ?_, ?_⟩; (clear hS'; go_step; exact hK); rfl)
              (refine plan_any rfl rfl rfl rfl rfl (Nat.le_of_ble_eq_true rfl) ?_; apply Exists.intro; apply Exists.intro; refine ⟨fun w' hS' K hK => ?_, ?_, ?_⟩; (clear hS'; go_step; exact hK); rfl)
              refine plan_eff rfl rfl rfl (fun K hK => ?_)
              refine w_copy El5 Try.underlying31 hS.drew 1 rfl rfl rfl (Rd_drop (k := 512 - m) (m := m) (pend_rd512 hS.drew (.tail _ (.tail _ (.tail _ (.tail _ (.head _))))) Hds.out HX.out HD.out Hx2.out) (by omega) (by omega)) (fun u hu => u8s_one _ u (List.mem_of_mem_drop hu)) ?_ rfl ?_
              · have e : Nat.min (512 - m) (512 - m) = 512 - m := Nat.min_self _
                rw [e, Nat.add_assoc, Nat.add_sub_cancel' hm1]; exact HFit.out 512 (Nat.le_refl _)
              intro w5 hS5
              refine hK _ _ (fun h => by cases h) (plan_nil ?_)
              clear hK K hS
              go_wp2
              go_roundw
              case rel => exact ⟨k + 1, by omega, by go_num, cr_last HX.out HX1.out Hx2.out Hpk.out Hlen.out HQ.out hk5 hl Hmm.out (512 - m) (by have := Hmm.out; omega) (hS5.pull 1).tail⟩
              case measure => simp [intOf]; omega
        · have hneg : 0 ≤ pk := by omega
          obtain ⟨kk, hk5, hkk⟩ : ∃ kk : Nat, pk % 513 = (kk : Int) ∧ kk ≤ 512 := ⟨(pk % 513).toNat, by omega, by omega⟩
          have HQ := Lib.hid (show (if pk < 0 then -(pk + 1) else pk) = pk by rw [if_neg (by omega)])
          obtain ⟨q, rfl⟩ : ∃ q, q = pk := ⟨_, rfl⟩
          cases hl : (q / 513 % 2 == 1) with
          | false =>
            go_wp2_with (first | ((with_reducible show wpList _ _ _ (Oper.mk _ (Op.load _ _) _ _ _ _ :: _) _ _); refine wpList_plain rfl (fun K hK => ?_); refine w_loada El67 (vs := [.int .i64 (xs : Int), .slice (some ⟨bd, 0, none⟩) 512 cd]) rfl rfl (pend_cells hS (.tail _ (.tail _ (.tail _ (.head _)))) Hds.out k _ _ HX.out HD.out) (by kernel_rfl) rfl ?_; refine hK _ _ ?_; clear hK K) | ((with_reducible show wpList _ _ _ (Oper.mk _ (Op.alloc _) _ _ _ _ :: _) _ _); refine wpList_plain rfl (fun K hK => ?_); refine w_alloc El67 hS rfl ?_; clear hS; intro bw w hS l' hl; simp only [List.set_cons_succ, List.set_cons_zero] at hl; subst hl; refine hK _ _ ?_; clear hK K) | (((with_reducible show wpList _ _ _ (Oper.mk _ (Op.store _ _ _) _ _ _ _ :: _) _ _); refine wpList_plain rfl (fun K hK => ?_); refine w_storea El67 hS 0 rfl rfl rfl rfl rfl (Nat.le_of_ble_eq_true rfl) ?_; clear hS; intro w hS; try simp only [ev, nth, Option.getD_some, Option.getD_none] at hS; refine hK _ _ ?_; clear hK K); (have hc1 := hS.cell (b := bw) (.head _) 0); (have hc2 := hS.cell (b := bw) (.head _) 1); simp only [List.take_zero, List.nil_append, List.cons_append, List.getElem?_cons_zero, List.getElem?_cons_succ] at hc1 hc2; (have hcp := HC2.out _ hS.tail.tail.tail.tail.tail)) | (go_at_call 30; refine (sector_c _ bo N co xs (by omega) (by omega)).mono ?_; rintro e w1 ⟨rfl, rfl⟩) | (clear hc1 hc2 hcp; ((with_reducible show wpList _ _ _ (Oper.mk _ (Op.call (Call.mk (Callee.builtin Builtin.copy) _ _)) _ _ _ _ :: _) _ _); refine wpList_plain rfl (fun K hK => ?_); refine w_copy El5 Try.underlying31 hS 1 rfl rfl rfl (Rd_take (pend_rd512 hS (.tail _ (.tail _ (.tail _ (.tail _ (.head _))))) Hds.out HX.out HD.out Hx2.out) (hkk)) (fun u hu => u8s_one _ u (List.mem_of_mem_take hu)) (HFit.out _ (Nat.min_le_right _ _)) rfl ?_; clear hS; intro w hS; refine hK _ _ ?_; clear hK K)))
            go_roundw
            case rel => exact ⟨k + 1, by omega, by go_num, cr_first HX.out HX1.out Hx2.out Hpk.out Hlen.out HQ.out hk5 hl (hkk) (hS.pull 1).tail⟩
            case measure => simp [intOf]; omega
          | true =>
            obtain ⟨m, hm, hmm⟩ : ∃ m : Nat, (512 : Int) - (kk : Int) = (m : Int) ∧ m + kk = 512 := ⟨512 - kk, by omega, by omega⟩
            have Hmm := Lib.hid hmm
            have hm1 : m ≤ 512 := by omega
            clear hmm
            by_cases hk0 : kk = 0
            · subst hk0
              obtain rfl : m = 512 := by have := Hmm.out; omega
              by_cases hcd : cd = 512
              · subst hcd
                go_wp2_with (first | ((with_reducible show wpList _ _ _ (Oper.mk _ (Op.load _ _) _ _ _ _ :: _) _ _); refine wpList_plain rfl (fun K hK => ?_); refine w_loada El67 (vs := [.int .i64 (xs : Int), .slice (some ⟨bd, 0, none⟩) 512 512]) rfl rfl (pend_cells hS (.tail _ (.tail _ (.tail _ (.head _)))) Hds.out k _ _ HX.out HD.out) (by kernel_rfl) rfl ?_; refine hK _ _ ?_; clear hK K) | ((with_reducible show wpList _ _ _ (Oper.mk _ (Op.alloc _) _ _ _ _ :: _) _ _); refine wpList_plain rfl (fun K hK => ?_); refine w_alloc El67 hS rfl ?_; clear hS; intro bw w hS l' hl; simp only [List.set_cons_succ, List.set_cons_zero] at hl; subst hl; refine hK _ _ ?_; clear hK K) | (((with_reducible show wpList _ _ _ (Oper.mk _ (Op.store _ _ _) _ _ _ _ :: _) _ _); refine wpList_plain rfl (fun K hK => ?_); refine w_storea El67 hS 0 rfl rfl rfl rfl rfl (Nat.le_of_ble_eq_true rfl) ?_; clear hS; intro w hS; try simp only [ev, nth, Option.getD_some, Option.getD_none] at hS; refine hK _ _ ?_; clear hK K); (have hc1 := hS.cell (b := bw) (.head _) 0); (have hc2 := hS.cell (b := bw) (.head _) 1); simp only [List.take_zero, List.nil_append, List.cons_append, List.getElem?_cons_zero, List.getElem?_cons_succ] at hc1 hc2; (have hcp := HC2.out _ hS.tail.tail.tail.tail.tail)) | (go_at_call 30; refine (sector_c _ bo N co xs (by omega) (by omega)).mono ?_; rintro e w1 ⟨rfl, rfl⟩))
                refine region_plan (fun w' => w'.cell? ⟨bw, 1, none⟩ = some (.slice (some ⟨bd, 0, none⟩) 512 512)) (fun i => [9].contains i) (fun i => [9].contains i) [0, 1, 2, 3, 4, 5, 6, 7, 8, 9] follows (by kernel_rfl) (by kernel_rfl) hc2 ?_
                clear hc1 hc2 hcp
                (refine plan_any rfl rfl rfl rfl rfl (Nat.le_of_ble_eq_true rfl) ?_; apply Exists.intro; apply Exists.intro; refine ⟨fun w' hS' K hK => ?_, ?_, ?_⟩; (clear hS'; go_step; exact hK); rfl)
                (refine plan_any rfl rfl rfl rfl rfl (Nat.le_of_ble_eq_true rfl) ?_; apply Exists.intro; apply Exists.intro; refine ⟨fun w' hS' K hK => ?_, ?_, ?_⟩; (clear hS'; go_step; exact hK); rfl)
                (refine plan_any rfl rfl rfl rfl rfl (Nat.le_of_ble_eq_true rfl) ?_; apply Exists.intro; apply Exists.intro; refine ⟨fun w' hS' K hK => ?_, ?_, ?_⟩; (clear hS'; go_step; exact hK); rfl)
                (refine plan_any rfl rfl rfl rfl rfl (Nat.le_of_ble_eq_true rfl) ?_; apply Exists.intro; apply Exists.intro; refine ⟨fun w' hS' K hK => ?_, ?_, ?_⟩; (clear hS'; go_step; exact hK); rfl)
                (refine plan_any rfl rfl rfl rfl rfl (Nat.le_of_ble_eq_true rfl) ?_; apply Exists.intro; apply Exists.intro; refine ⟨fun w' hS' K hK => ?_, ?_, ?_⟩; (clear hS'; go_step; exact hK); rfl)
                (refine plan_any rfl rfl rfl rfl rfl (Nat.le_of_ble_eq_true rfl) ?_; apply Exists.intro; apply Exists.intro; refine ⟨fun w' hS' K hK => ?_, ?_, ?_⟩; (skip; go_step; exact hK); rfl)
                (refine plan_any rfl rfl rfl rfl rfl (Nat.le_of_ble_eq_true rfl) ?_; apply Exists.intro; apply Exists.intro; refine ⟨fun w' hS' K hK => ?_, ?_, ?_⟩; (clear hS'; go_step; exact hK); rfl)
                (refine plan_any rfl rfl rfl rfl rfl (Nat.le_of_ble_eq_true rfl) ?_; apply Exists.intro; apply Exists.intro; refine ⟨fun w' hS' K hK => ?_, ?_, ?_⟩; (clear hS'; go_step; exact hK); rfl)
                (refine plan_any rfl rfl rfl rfl rfl (Nat.le_of_ble_eq_true rfl) ?_; apply Exists.intro; apply Exists.intro; refine ⟨fun w' hS' K hK => ?_, ?_, ?_⟩; (clear hS'; go_step; exact hK); rfl)
                refine plan_eff rfl rfl rfl (fun K hK => ?_)
                refine w_copy El5 Try.underlying31 hS.drew 1 rfl rfl rfl (Rd_empty _ _ _) (by simp) ?_ rfl ?_
                · exact HFit.out 0 (Nat.zero_le _)
                intro w5 hS5
                refine hK _ _ (fun h => by cases h) (plan_nil ?_)
                clear hK K hS
                go_wp2
                go_roundw
                case rel => exact ⟨k + 1, by omega, by go_num, cr_zero HX.out Hx2.out Hpk.out HQ.out hk5 hl (hS5.pull 1).tail⟩
                case measure => simp [intOf]; omega
              · have hcd' : 512 < cd := by omega
                go_wp2_with (first | ((with_reducible show wpList _ _ _ (Oper.mk _ (Op.load _ _) _ _ _ _ :: _) _ _); refine wpList_plain rfl (fun K hK => ?_); refine w_loada El67 (vs := [.int .i64 (xs : Int), .slice (some ⟨bd, 0, none⟩) 512 cd]) rfl rfl (pend_cells hS (.tail _ (.tail _ (.tail _ (.head _)))) Hds.out k _ _ HX.out HD.out) (by kernel_rfl) rfl ?_; refine hK _ _ ?_; clear hK K) | ((with_reducible show wpList _ _ _ (Oper.mk _ (Op.alloc _) _ _ _ _ :: _) _ _); refine wpList_plain rfl (fun K hK => ?_); refine w_alloc El67 hS rfl ?_; clear hS; intro bw w hS l' hl; simp only [List.set_cons_succ, List.set_cons_zero] at hl; subst hl; refine hK _ _ ?_; clear hK K) | (((with_reducible show wpList _ _ _ (Oper.mk _ (Op.store _ _ _) _ _ _ _ :: _) _ _); refine wpList_plain rfl (fun K hK => ?_); refine w_storea El67 hS 0 rfl rfl rfl rfl rfl (Nat.le_of_ble_eq_true rfl) ?_; clear hS; intro w hS; try simp only [ev, nth, Option.getD_some, Option.getD_none] at hS; refine hK _ _ ?_; clear hK K); (have hc1 := hS.cell (b := bw) (.head _) 0); (have hc2 := hS.cell (b := bw) (.head _) 1); simp only [List.take_zero, List.nil_append, List.cons_append, List.getElem?_cons_zero, List.getElem?_cons_succ] at hc1 hc2; (have hcp := HC2.out _ hS.tail.tail.tail.tail.tail)) | (go_at_call 30; refine (sector_c _ bo N co xs (by omega) (by omega)).mono ?_; rintro e w1 ⟨rfl, rfl⟩))
                refine region_plan (fun w' => w'.cell? ⟨bw, 1, none⟩ = some (.slice (some ⟨bd, 0, none⟩) 512 cd)) (fun i => [9].contains i) (fun i => [9].contains i) [0, 1, 2, 3, 4, 5, 6, 7, 8, 9] follows (by kernel_rfl) (by kernel_rfl) hc2 ?_
                clear hc1 hc2 hcp
                (refine plan_any rfl rfl rfl rfl rfl (Nat.le_of_ble_eq_true rfl) ?_; apply Exists.intro; apply Exists.intro; refine ⟨fun w' hS' K hK => ?_, ?_, ?_⟩; (clear hS'; go_step; exact hK); rfl)
                (refine plan_any rfl rfl rfl rfl rfl (Nat.le_of_ble_eq_true rfl) ?_; apply Exists.intro; apply Exists.intro; refine ⟨fun w' hS' K hK => ?_, ?_, ?_⟩; (clear hS'; go_step; exact hK); rfl)
                (refine plan_any rfl rfl rfl rfl rfl (Nat.le_of_ble_eq_true rfl) ?_; apply Exists.intro; apply Exists.intro; refine ⟨fun w' hS' K hK => ?_, ?_, ?_⟩; (clear hS'; go_step; exact hK); rfl)
                (refine plan_any rfl rfl rfl rfl rfl (Nat.le_of_ble_eq_true rfl) ?_; apply Exists.intro; apply Exists.intro; refine ⟨fun w' hS' K hK => ?_, ?_, ?_⟩; (clear hS'; go_step; exact hK); rfl)
                (refine plan_any rfl rfl rfl rfl rfl (Nat.le_of_ble_eq_true rfl) ?_; apply Exists.intro; apply Exists.intro; refine ⟨fun w' hS' K hK => ?_, ?_, ?_⟩; (clear hS'; go_step; exact hK); rfl)
                (refine plan_any rfl rfl rfl rfl rfl (Nat.le_of_ble_eq_true rfl) ?_; apply Exists.intro; apply Exists.intro; refine ⟨fun w' hS' K hK => ?_, ?_, ?_⟩; (skip; go_step; exact hK); rfl)
                (refine plan_any rfl rfl rfl rfl rfl (Nat.le_of_ble_eq_true rfl) ?_; apply Exists.intro; apply Exists.intro; refine ⟨fun w' hS' K hK => ?_, ?_, ?_⟩; (clear hS'; go_step; exact hK); rfl)
                (refine plan_any rfl rfl rfl rfl rfl (Nat.le_of_ble_eq_true rfl) ?_; apply Exists.intro; apply Exists.intro; refine ⟨fun w' hS' K hK => ?_, ?_, ?_⟩; (clear hS'; go_step; exact hK); rfl)
                (refine plan_any rfl rfl rfl rfl rfl (Nat.le_of_ble_eq_true rfl) ?_; apply Exists.intro; apply Exists.intro; refine ⟨fun w' hS' K hK => ?_, ?_, ?_⟩; (clear hS'; go_step; exact hK); rfl)
                refine plan_eff rfl rfl rfl (fun K hK => ?_)
                refine w_copy El5 Try.underlying31 hS.drew 1 rfl rfl rfl (Rd_empty _ _ _) (by simp) ?_ rfl ?_
                · exact HFit.out 0 (Nat.zero_le _)
                intro w5 hS5
                refine hK _ _ (fun h => by cases h) (plan_nil ?_)
                clear hK K hS
                go_wp2
                go_roundw
                case rel => exact ⟨k + 1, by omega, by go_num, cr_zero HX.out Hx2.out Hpk.out HQ.out hk5 hl (hS5.pull 1).tail⟩
                case measure => simp [intOf]; omega
            · have hm2 : m < 512 := by have := Hmm.out; omega
              go_wp2_with (first | ((with_reducible show wpList _ _ _ (Oper.mk _ (Op.load _ _) _ _ _ _ :: _) _ _); refine wpList_plain rfl (fun K hK => ?_); refine w_loada El67 (vs := [.int .i64 (xs : Int), .slice (some ⟨bd, 0, none⟩) 512 cd]) rfl rfl (pend_cells hS (.tail _ (.tail _ (.tail _ (.head _)))) Hds.out k _ _ HX.out HD.out) (by kernel_rfl) rfl ?_; refine hK _ _ ?_; clear hK K) | ((with_reducible show wpList _ _ _ (Oper.mk _ (Op.alloc _) _ _ _ _ :: _) _ _); refine wpList_plain rfl (fun K hK => ?_); refine w_alloc El67 hS rfl ?_; clear hS; intro bw w hS l' hl; simp only [List.set_cons_succ, List.set_cons_zero] at hl; subst hl; refine hK _ _ ?_; clear hK K) | (((with_reducible show wpList _ _ _ (Oper.mk _ (Op.store _ _ _) _ _ _ _ :: _) _ _); refine wpList_plain rfl (fun K hK => ?_); refine w_storea El67 hS 0 rfl rfl rfl rfl rfl (Nat.le_of_ble_eq_true rfl) ?_; clear hS; intro w hS; try simp only [ev, nth, Option.getD_some, Option.getD_none] at hS; refine hK _ _ ?_; clear hK K); (have hc1 := hS.cell (b := bw) (.head _) 0); (have hc2 := hS.cell (b := bw) (.head _) 1); simp only [List.take_zero, List.nil_append, List.cons_append, List.getElem?_cons_zero, List.getElem?_cons_succ] at hc1 hc2; (have hcp := HC2.out _ hS.tail.tail.tail.tail.tail)) | (go_at_call 30; refine (sector_c _ bo N co xs (by omega) (by omega)).mono ?_; rintro e w1 ⟨rfl, rfl⟩))
              refine region_plan (fun w' => w'.cell? ⟨bw, 1, none⟩ = some (.slice (some ⟨bd, 0, none⟩) 512 cd)) (fun i => [9].contains i) (fun i => [9].contains i) [0, 1, 2, 3, 4, 5, 6, 7, 8, 9] follows (by kernel_rfl) (by kernel_rfl) hc2 ?_
              clear hc1 hc2 hcp
              (refine plan_any rfl rfl rfl rfl rfl (Nat.le_of_ble_eq_true rfl) ?_; apply Exists.intro; apply Exists.intro; refine ⟨fun w' hS' K hK => ?_, ?_, ?_⟩; (clear hS'; go_step; exact hK); rfl)
              (refine plan_any rfl rfl rfl rfl rfl (Nat.le_of_ble_eq_true rfl) ?_; apply Exists.intro; apply Exists.intro; refine ⟨fun w' hS' K hK => ?_, ?_, ?_⟩; (clear hS'; go_step; exact hK); rfl)
              (refine plan_any rfl rfl rfl rfl rfl (Nat.le_of_ble_eq_true rfl) ?_; apply Exists.intro; apply Exists.intro; refine ⟨fun w' hS' K hK => ?_, ?_, ?_⟩; (clear hS'; go_step; exact hK); rfl)
              (refine plan_any rfl rfl rfl rfl rfl (Nat.le_of_ble_eq_true rfl) ?_; apply Exists.intro; apply Exists.intro; refine ⟨fun w' hS' K hK => ?_, ?_, ?_⟩; (clear hS'; go_step; exact hK); rfl)
              (refine plan_any rfl rfl rfl rfl rfl (Nat.le_of_ble_eq_true rfl) ?_; apply Exists.intro; apply Exists.intro; refine ⟨fun w' hS' K hK => ?_, ?_, ?_⟩; (clear hS'; go_step; exact hK); rfl)
              (refine plan_any rfl rfl rfl rfl rfl (Nat.le_of_ble_eq_true rfl) ?_; apply Exists.intro; apply Exists.intro; refine ⟨fun w' hS' K hK => ?_, ?_, ?_⟩; (skip; go_step; exact hK); rfl)
              (refine plan_any rfl rfl rfl rfl rfl (Nat.le_of_ble_eq_true rfl) ?_; apply Exists.intro; apply Exists.intro; refine ⟨fun w' hS' K hK => ?_, ?_, ?_⟩; (clear hS'; go_step; exact hK); rfl)
              (refine plan_any rfl rfl rfl rfl rfl (Nat.le_of_ble_eq_true rfl) ?_; apply Exists.intro; apply Exists.intro; refine ⟨fun w' hS' K hK => ?_, ?_, ?_⟩; (clear hS'; go_step; exact hK); rfl)
              (refine plan_any rfl rfl rfl rfl rfl (Nat.le_of_ble_eq_true rfl) ?_; apply Exists.intro; apply Exists.intro; refine ⟨fun w' hS' K hK => ?_, ?_, ?_⟩; (clear hS'; go_step; exact hK); rfl)
              refine plan_eff rfl rfl rfl (fun K hK => ?_)
              refine w_copy El5 Try.underlying31 hS.drew 1 rfl rfl rfl (Rd_drop (k := 512 - m) (m := m) (pend_rd512 hS.drew (.tail _ (.tail _ (.tail _ (.tail _ (.head _))))) Hds.out HX.out HD.out Hx2.out) (by omega) (by omega)) (fun u hu => u8s_one _ u (List.mem_of_mem_drop hu)) ?_ rfl ?_
              · have e : Nat.min (512 - m) (512 - m) = 512 - m := Nat.min_self _
                rw [e, Nat.add_assoc, Nat.add_sub_cancel' hm1]; exact HFit.out 512 (Nat.le_refl _)
              intro w5 hS5
              refine hK _ _ (fun h => by cases h) (plan_nil ?_)
              clear hK K hS
              go_wp2
              go_roundw
              case rel => exact ⟨k + 1, by omega, by go_num, cr_last HX.out HX1.out Hx2.out Hpk.out Hlen.out HQ.out hk5 hl Hmm.out (512 - m) (by have := Hmm.out; omega) (hS5.pull 1).tail⟩
              case measure => simp [intOf]; omega
      · clear HC
        obtain rfl : pk = 0 := by
          have := Hpk.out
          rw [List.getD_eq_getElem?_getD, List.getElem?_eq_none (by have := HRl.out; omega)] at this
          exact this.symm
        have HQ := Lib.hid (show (if (0 : Int) < 0 then -((0 : Int) + 1) else 0) = 0 by rfl)
        go_wp2_with (first | ((with_reducible show wpList _ _ _ (Oper.mk _ (Op.load _ _) _ _ _ _ :: _) _ _); refine wpList_plain rfl (fun K hK => ?_); refine w_loada El67 (vs := [.int .i64 (xs : Int), .slice (some ⟨bd, 0, none⟩) 512 cd]) rfl rfl (pend_cells hS (.tail _ (.tail _ (.tail _ (.head _)))) Hds.out k _ _ HX.out HD.out) (by kernel_rfl) rfl ?_; refine hK _ _ ?_; clear hK K) | ((with_reducible show wpList _ _ _ (Oper.mk _ (Op.alloc _) _ _ _ _ :: _) _ _); refine wpList_plain rfl (fun K hK => ?_); refine w_alloc El67 hS rfl ?_; clear hS; intro bw w hS l' hl; simp only [List.set_cons_succ, List.set_cons_zero] at hl; subst hl; refine hK _ _ ?_; clear hK K) | (((with_reducible show wpList _ _ _ (Oper.mk _ (Op.store _ _ _) _ _ _ _ :: _) _ _); refine wpList_plain rfl (fun K hK => ?_); refine w_storea El67 hS 0 rfl rfl rfl rfl rfl (Nat.le_of_ble_eq_true rfl) ?_; clear hS; intro w hS; try simp only [ev, nth, Option.getD_some, Option.getD_none] at hS; refine hK _ _ ?_; clear hK K); (have hc1 := hS.cell (b := bw) (.head _) 0); (have hc2 := hS.cell (b := bw) (.head _) 1); simp only [List.take_zero, List.nil_append, List.cons_append, List.getElem?_cons_zero, List.getElem?_cons_succ] at hc1 hc2) | (go_at_call 30; refine (sector_c _ bo N co xs (by omega) (by omega)).mono ?_; rintro e w1 ⟨rfl, rfl⟩) | (clear hc1 hc2; ((with_reducible show wpList _ _ _ (Oper.mk _ (Op.call (Call.mk (Callee.builtin Builtin.copy) _ _)) _ _ _ _ :: _) _ _); refine wpList_plain rfl (fun K hK => ?_); refine w_copy El5 Try.underlying31 hS 1 rfl rfl rfl (Rd_take (pend_rd512 hS (.tail _ (.tail _ (.tail _ (.tail _ (.head _))))) Hds.out HX.out HD.out Hx2.out) (Nat.zero_le _)) (fun u hu => u8s_one _ u (List.mem_of_mem_take hu)) (HFit.out _ (Nat.min_le_right _ _)) rfl ?_; clear hS; intro w hS; refine hK _ _ ?_; clear hK K)))
        go_roundw
        case rel => exact ⟨k + 1, by omega, by go_num, cr_first (kk := 0) HX.out HX1.out Hx2.out Hpk.out Hlen.out HQ.out rfl rfl (Nat.zero_le _) (hS.pull 1).tail⟩
        case measure => simp [intOf]; omega
    · have hkM : k = M := by omega
      have HK := Lib.hid hkM; clear hkM
      go_wp2_with (go_at_call 31; refine (clip_c _ _ N co ho1 (by omega)).mono ?_; rintro e w' ⟨rfl, rfl⟩)
      go_ret
      have h1 : crashN σ.safe σ.pend picks k = σ.crash picks := by
        rw [HK.out, HM.out]; rfl
      rw [h1] at hS
      have h2 := ((hS.pull 3).pull 3).pull 3
      exact ⟨bo, rfl, spo, (st_shut HW.out Hds.out Hpv.out h2).pull 1⟩

end Go.Proofs.Ytinmonlhfnaiiaa
