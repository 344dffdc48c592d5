/- Proved: whatever the four arguments are, the law arcadelaw10.BlockSynced returns true: what is synced stays behind whatever crash; each other byte is that of the Sync or of a write behind it. No condition. -/
import Derived.Test.YtinmonlhfnaiiaaSyncedF
import Derived.Test.YtinmonlhfnaiiaaBlk7
namespace Go.Proofs.Ytinmonlhfnaiiaa
open Go.Sl Go.RowKit
set_option linter.unusedVariables false
set_option linter.unusedSimpArgs false

theorem u8s_get {l : List Int} {i : Nat} {x : Int} (h : l[i]? = some x) : (u8s l)[i]? = some (.int .u8 x) := by simp [u8s, h]
theorem u8s_getl {l : List Int} {sp : List Value} {i : Nat} {x : Int} (h : l[i]? = some x) : (u8s l ++ sp)[i]? = some (.int .u8 x) := by
  rw [List.getElem?_append_left (by rw [u8s_len]; exact (List.getElem?_eq_some_iff.1 h).1)]; exact u8s_get h

theorem spl_get (l d : List Int) (o j : Nat) (h : o + d.length ≤ l.length) : (spl l o d)[j]? = if o ≤ j ∧ j < o + d.length then d[j - o]? else l[j]? := by
  unfold spl
  have l1 : (l.take o).length = o := by rw [List.length_take]; omega
  by_cases h1 : j < o
  · rw [List.append_assoc, List.getElem?_append_left (by omega), List.getElem?_take_of_lt h1, if_neg (by omega)]
  · rw [List.append_assoc, List.getElem?_append_right (by omega), l1]
    by_cases h2 : j < o + d.length
    · rw [List.getElem?_append_left (by omega), if_pos (by omega)]
    · rw [List.getElem?_append_right (by omega), List.getElem?_drop, if_neg (by omega)]
      congr 1; omega

/-- Each byte is that of the safe bytes, or of a write to its sector. -/
def Byte (safe : List Int) (pend : List (Nat × List Int)) (l : List Int) (k b : Nat) : Prop :=
  l[k * 512 + b]? = safe[k * 512 + b]? ∨ ∃ x ∈ pend, x.1 = k ∧ l[k * 512 + b]? = x.2[b]?

theorem byte_step {safe : List Int} {pend : List (Nat × List Int)} {acc : List Int} {x : Nat × List Int} {p : Int} {n k b : Nat} (hx : x ∈ pend) (h : acc.length = n * 512) (h1 : x.1 < n) (h2 : x.2.length = 512) (hk : k < n) (hb : b < 512)
    (hby : Byte safe pend acc k b) : Byte safe pend (crashStep acc x p) k b := by
  unfold crashStep
  generalize (if p < 0 then -(p + 1) else p) = q
  have hkk : (q % 513).toNat ≤ 512 := by omega
  dsimp only
  generalize (q % 513).toNat = m at *
  split
  · have hl : x.1 * 512 + (512 - m) + (x.2.drop (512 - m)).length ≤ acc.length := by rw [List.length_drop]; omega
    unfold Byte
    rw [spl_get _ _ _ _ hl]
    by_cases hc : x.1 * 512 + (512 - m) ≤ k * 512 + b ∧ k * 512 + b < x.1 * 512 + (512 - m) + (x.2.drop (512 - m)).length
    · rw [if_pos hc]
      rw [List.length_drop] at hc
      right
      refine ⟨x, hx, by omega, ?_⟩
      rw [List.getElem?_drop]
      have : x.1 = k := by omega
      congr 1; omega
    · rw [if_neg hc]; exact hby
  · have hl : x.1 * 512 + (x.2.take m).length ≤ acc.length := by rw [List.length_take]; omega
    unfold Byte
    rw [spl_get _ _ _ _ hl]
    by_cases hc : x.1 * 512 ≤ k * 512 + b ∧ k * 512 + b < x.1 * 512 + (x.2.take m).length
    · rw [if_pos hc]
      rw [List.length_take] at hc
      right
      refine ⟨x, hx, by omega, ?_⟩
      have : x.1 = k := by omega
      rw [List.getElem?_take_of_lt (by omega)]
      congr 1; omega
    · rw [if_neg hc]; exact hby

theorem byte_crash {σ : St} (hw : σ.Wf) (picks : List Int) (k b : Nat) (hk : k < σ.n) (hb : b < 512) : Byte σ.safe σ.pend (σ.crash picks) k b := by
  unfold St.crash
  have : ∀ j, j ≤ σ.pend.length → Byte σ.safe σ.pend (crashN σ.safe σ.pend picks j) k b := by
    intro j
    induction j with
    | zero => intro _; exact .inl rfl
    | succ j ih =>
      intro hj
      have hx : σ.pend[j]? = some σ.pend[j] := List.getElem?_eq_getElem (by omega)
      have hm : σ.pend[j] ∈ σ.pend := List.getElem_mem (by omega)
      obtain ⟨h1, h2⟩ := hw.pend _ hm
      rw [crashN_succ _ _ _ j _ hx]
      exact byte_step hm (crashN_len hw picks j (by omega)) h1 h2 hk hb (ih (by omega))
  exact this _ (Nat.le_refl _)

set_option maxRecDepth 100000 in
set_option maxHeartbeats 8000000 in
theorem synced_walk : WalkSaid_BlockSynced := by
  intro sectors sa slen scap sz pa plen pcap pz qa qlen qcap qz w w0 ws wp wq
  obtain ⟨o1, o2⟩ := wf64 w0
  obtain ⟨l1, l2, l3⟩ := ws.len_cap
  obtain ⟨m1, m2, m3⟩ := wp.len_cap
  obtain ⟨n1, n2, n3⟩ := wq.len_cap
  have HWS := Lib.hid ws; have HWP := Lib.hid wp; have HWQ := Lib.hid wq; have HL3 := Lib.hid l3; have HM3 := Lib.hid m3; have HN3 := Lib.hid n3
  have HS := Lib.hid (SL.start w)
  clear ws wp wq l3 m3 n3 w0
  obtain ⟨n, hn⟩ : ∃ n, n = pkN sectors 5 + 1 := ⟨_, rfl⟩
  have hn1 : 1 ≤ n := by omega
  have hn2 : n ≤ 5 := by have := pkN_lt sectors 5 (by omega); omega
  have HN := Lib.hid hn; clear hn
  obtain ⟨A, hA⟩ : ∃ A, A = min slen 6 := ⟨_, rfl⟩
  obtain ⟨B, hB⟩ : ∃ B, B = min plen 6 := ⟨_, rfl⟩
  have hA6 : A ≤ 6 := by omega
  have hB6 : B ≤ 6 := by omega
  have hAs : A ≤ slen := by omega
  have hBp : B ≤ plen := by omega
  have HA := Lib.hid hA; have HB := Lib.hid hB; clear hA hB
  obtain ⟨sl, hsl⟩ : ∃ sl, sl = sz.take A := ⟨_, rfl⟩
  obtain ⟨pl, hpl⟩ : ∃ pl, pl = pz.take B := ⟨_, rfl⟩
  obtain ⟨ql, hql⟩ : ∃ ql, ql = qz.take qlen := ⟨_, rfl⟩
  have HSl := Lib.hid (show A = sl.length by rw [hsl, List.length_take]; have := HL3.out; omega)
  have HPl := Lib.hid (show B = pl.length by rw [hpl, List.length_take]; have := HM3.out; omega)
  have HQl := Lib.hid (show ql.length = qlen by rw [hql, List.length_take]; have := HN3.out; omega)
  have hqm : qlen ≤ 9223372036854775807 := by unfold maxLen at n2; omega
  have HXA := Lib.hid (show ∀ x ∈ sl, -9223372036854775808 ≤ x ∧ x ≤ 9223372036854775807 from fun x hx => wf64 (HWS.out.wf x (List.mem_of_mem_take (hsl ▸ hx))))
  have HXB := Lib.hid (show ∀ x ∈ pl, -9223372036854775808 ≤ x ∧ x ≤ 9223372036854775807 from fun x hx => wf64 (HWP.out.wf x (List.mem_of_mem_take (hpl ▸ hx))))
  have HXQ := Lib.hid (show ∀ x ∈ ql, -9223372036854775808 ≤ x ∧ x ≤ 9223372036854775807 from fun x hx => wf64 (HWQ.out.wf x (List.mem_of_mem_take (hql ▸ hx))))
  have HRA := Lib.hid (show ∀ (L : List HP), Sl.old w ∈ L → ∀ w', SL w L w' → Rd w' 1 (.slice sa A scap) A (i64s sl) from fun L hL w' h => by rw [hsl]; exact HWS.out.rd hL A hAs scap w' h)
  have HRB := Lib.hid (show ∀ (L : List HP), Sl.old w ∈ L → ∀ w', SL w L w' → Rd w' 1 (.slice pa B pcap) B (i64s pl) from fun L hL w' h => by rw [hpl]; exact HWP.out.rd hL B hBp pcap w' h)
  have HRQ := Lib.hid (show ∀ (L : List HP), Sl.old w ∈ L → ∀ w', SL w L w' → Rd w' 1 (.slice qa qlen qcap) qlen (i64s ql) from fun L hL w' h => by rw [hql]; exact HWQ.out.rd hL qlen (Nat.le_refl _) qcap w' h)
  clear hsl hpl hql HL3 HM3 HN3 hAs hBp
  go_enter Try.func8, Try.ntmps8
  go_wp2_with fail
  refine (pick_c sectors 5 w o1 o2 (by omega) (by omega)).mono ?_
  rintro e w' ⟨rfl, rfl⟩
  clear o1 o2
  have hnn : (1 : Int) + (pkN sectors 5 : Int) = (n : Int) := by have := HN.out; omega
  go_wp2_with fail
  refine (few_c sa slen scap 6 w l1 l2 (by omega)).mono ?_
  rintro e w' ⟨rfl, rfl⟩
  rw [← HA.out]
  go_wp2_with fail
  refine (few_c pa plen pcap 6 w m1 m2 (by omega)).mono ?_
  rintro e w' ⟨rfl, rfl⟩
  rw [← HB.out]
  clear l1 l2 m1 m2 n1 n2
  go_wp2_with fail
  refine (made_c n hn1 (by omega) sa pa scap pcap sl pl A B HSl.out HPl.out (by omega) (by omega) HXA.out HXB.out HS.out (HRA.out _ (.head _)) (HRB.out _ (.head _))).mono ?_
  rintro e w1 ⟨p, rfl, hS⟩
  go_wp2_with fail
  refine (made_c n hn1 (by omega) sa none scap 0 sl [] A 0 HSl.out rfl (by omega) (by omega) HXA.out (by simp) hS (HRA.out _ (.tail _ (.head _))) (fun _ _ => Rd.nil _ _ _)).mono ?_
  clear hS
  rintro e w2 ⟨t, rfl, hS⟩
  obtain ⟨f1, f2, f3, f4, f5⟩ := made_facts n sl pl
  obtain ⟨t1, t2, t3, t4, t5⟩ := made_facts n sl []
  obtain ⟨g1, g2, g3, g4, g5⟩ := wrs_facts pl (wrs (newSt n) sl).sync
  obtain ⟨σ, hσ⟩ : ∃ σ, σ = madeSt n sl pl := ⟨_, rfl⟩
  obtain ⟨τ, hτ⟩ : ∃ τ, τ = madeSt n sl [] := ⟨_, rfl⟩
  rw [← hσ, ← hτ] at hS
  have hw := st_wf (hS.pull 1)
  have hwt := st_wf hS
  obtain ⟨N, hN⟩ : ∃ N, N = n * 512 := ⟨_, rfl⟩
  have HNσ := Lib.hid (show N = σ.n * 512 by rw [hσ, f1, hN])
  have HNτ := Lib.hid (show N = τ.n * 512 by rw [hτ, t1, hN])
  have hNb : N ≤ 100000 := by omega
  have hNn : (512 : Int) * (n : Int) = (N : Int) := by omega
  have Lw := Lib.hid (show N = τ.image.length by rw [image_len hwt]; exact HNτ.out)
  have Lf := Lib.hid (show N = (σ.crash ql).length by rw [crash_len hw]; exact HNσ.out)
  have Es := Lib.hid (show τ.image = σ.safe by
    rw [hσ, f2, hτ]
    have : (madeSt n sl []).pend = [] := List.eq_nil_of_length_eq_zero t5
    unfold St.image
    rw [this]; exact t2)
  have Ep := Lib.hid (show σ.pend = pl.map (fun x => (pkN x n, filledL x 512)) by
    rw [hσ]; show (wrs _ pl).pend = _
    rw [g5]
    have e : (wrs (newSt n) sl).sync.n = n := (wrs_facts sl (newSt n)).1
    rw [e]; rfl)
  have HB2 := Lib.hid (show ∀ k b, k < n → b < 512 → Byte σ.safe σ.pend (σ.crash ql) k b from fun k b hk hb => byte_crash hw ql k b (by rw [hσ, f1]; exact hk) hb)
  have HNN := Lib.hid hN
  clear f1 f2 f3 f4 f5 t1 t2 t3 t4 t5 g1 g2 g3 g4 g5 hw hwt hσ hτ HRA HXA HWS HWP HWQ HN hnn hN
  go_wp2_with fail
  refine (image_c2 t τ N HNτ.out hS).mono ?_
  clear hS
  rintro e w3 ⟨bw, rfl, s2, hS⟩
  go_wp2_with fail
  refine (crash_c2 p σ qa qcap ql qlen N HQl.out HNσ.out hqm HXQ.out (hS.pull 2) (HRQ.out _ (.tail _ (.tail _ (.head _))))).mono ?_
  clear hS
  rintro e w4 ⟨bl, rfl, s1, hS⟩
  go_wp2
  go_loopw [16] (fun i wr => ∃ k : Nat, k ≤ n ∧ i = .int .i64 k ∧ SL w [row bl 5 (u8s (σ.crash ql) ++ s1), StoreP p σ, row bw 5 (u8s τ.image ++ s2), StoreP t τ, Sl.old w] wr) (fun i _ => n - (intOf i).toNat)
  case atStart => exact ⟨0, Nat.zero_le _, rfl, hS⟩
  case round =>
    clear hS
    obtain ⟨k, hk, rfl, hS⟩ := hrel
    by_cases hlt : k < n
    · go_wp2
      obtain ⟨wo, hwo⟩ : ∃ wo : World, wo = wr := ⟨_, rfl⟩
      rw [← hwo] at hS ⊢
      clear hwo
      go_loopw [17] (fun i wr => ∃ b : Nat, b ≤ 512 ∧ i = .int .i64 b ∧ SL w [row bl 5 (u8s (σ.crash ql) ++ s1), StoreP p σ, row bw 5 (u8s τ.image ++ s2), StoreP t τ, Sl.old w] wr) (fun i _ => 512 - (intOf i).toNat)
      case atStart => exact ⟨0, Nat.zero_le _, rfl, hS⟩
      case round =>
        clear hS
        obtain ⟨b, hb, rfl, hS⟩ := hrel
        by_cases hbl : b < 512
        · have hby := HB2.out k b hlt hbl
          have hj : k * 512 + b < N := by have := HNN.out; omega
          obtain ⟨z, hz⟩ : ∃ z, (σ.crash ql)[k * 512 + b]? = some z := ⟨_, List.getElem?_eq_getElem (by have := Lf.out; omega)⟩
          obtain ⟨y, hy⟩ : ∃ y, τ.image[k * 512 + b]? = some y := ⟨_, List.getElem?_eq_getElem (by have := Lw.out; omega)⟩
          have hy2 : σ.safe[k * 512 + b]? = some y := by rw [← Es.out]; exact hy
          unfold Byte at hby
          rw [hz, hy2] at hby
          have HZ := Lib.hid hz; have HY := Lib.hid hy; have HBY := Lib.hid hby
          clear hz hy hy2 hby
          have hj2 : 512 * k + b < N := by omega
          have hcl : wr.cell? ⟨bl, 512 * k + b, none⟩ = some (.int .u8 z) := by
            rw [hS.cell (b := bl) (.head _), show 512 * k + b = k * 512 + b from by omega]; exact u8s_getl HZ.out
          have hcw : wr.cell? ⟨bw, 512 * k + b, none⟩ = some (.int .u8 y) := by
            rw [hS.cell (b := bw) (.tail _ (.tail _ (.head _))), show 512 * k + b = k * 512 + b from by omega]; exact u8s_getl HY.out
          obtain ⟨m0, hm0⟩ : ∃ m0, (z == y) = m0 := ⟨_, rfl⟩
          have Hm0 := Lib.hid (show m0 = false → z ≠ y from fun h e => by rw [h] at hm0; simp [e] at hm0)
          go_wp2
          go_quiet (fail)
          have hS := hS.drewN nq
          clear hcl hcw hm0
          go_wp2
          have hd : decide ((b : Int) < 512) = true := by simp; omega
          rw [hd]
          clear hd
          obtain ⟨wm, hwm⟩ : ∃ wm : World, wm = wr.drewN nq := ⟨_, rfl⟩
          rw [← hwm] at hS ⊢
          clear hwm
          go_loopw [18, 19] (fun mv iv wr => ∃ (i : Nat) (m : Bool), i ≤ B ∧ iv = .int .i64 i ∧ mv = .bool m ∧ (m = false → z ≠ y ∧ ∀ j x, j < i → pl[j]? = some x → ¬ (pkN x n = k ∧ fB x b = z)) ∧ SL w [row bl 5 (u8s (σ.crash ql) ++ s1), StoreP p σ, row bw 5 (u8s τ.image ++ s2), StoreP t τ, Sl.old w] wr) (fun _ iv _ => B - (intOf iv).toNat)
          case atStart => exact ⟨0, m0, Nat.zero_le _, rfl, rfl, fun h => ⟨Hm0.out h, fun j x hj => by omega⟩, hS⟩
          case round =>
            clear hS
            obtain ⟨i, m, hi, rfl, rfl, hno, hS⟩ := hrel
            cases m with
            | true =>
              clear hno
              by_cases hib : i < B
              all_goals
                go_wp2
                go_roundw
                case rel => exact ⟨b + 1, by omega, by go_num, hS⟩
                case measure => simp [intOf]; omega
            | false =>
              have HNo := Lib.hid (hno rfl); clear hno
              by_cases hib : i < B
              · obtain ⟨x, hx⟩ : ∃ x, pl[i]? = some x := ⟨_, List.getElem?_eq_getElem (by have := HPl.out; omega)⟩
                obtain ⟨x1, x2⟩ := HXB.out x (List.mem_of_getElem? hx)
                obtain ⟨ad, e⟩ := rd_base (HRB.out _ (.tail _ (.tail _ (.tail _ (.tail _ (.head _))))) _ hS) (by omega)
                have HC := Lib.hid (show ∀ (L : List HP), Sl.old w ∈ L → ∀ w', SL w L w' → w'.cell? (ad.add i) = some (.int .i64 x) from fun L hL w' h => by
                  have h2 := HRB.out L hL w' h
                  rw [e] at h2
                  have h3 := rd_celli h2 i (by have := HPl.out; omega)
                  rw [h3]
                  have h4 := hx
                  rw [List.getElem?_eq_getElem (by have := HPl.out; omega)] at h4
                  rw [Option.some.inj h4])
                subst e
                have HX := Lib.hid hx; clear hx
                have hc1 : wr.cell? (ad.add i) = some (.int .i64 x) := HC.out _ (.tail _ (.tail _ (.tail _ (.tail _ (.head _))))) _ hS
                go_wp2_with fail
                refine (filled_c x 0 512 (by omega) (by omega) hS).mono ?_
                clear hS hc1
                rintro e w5 ⟨bd, rfl, hS⟩
                have hc1 : w5.cell? (ad.add i) = some (.int .i64 x) := HC.out _ (.tail _ (.tail _ (.tail _ (.tail _ (.tail _ (.head _)))))) _ hS
                have hcl : w5.cell? ⟨bl, 512 * k + b, none⟩ = some (.int .u8 z) := by
                  rw [hS.cell (b := bl) (.tail _ (.head _)), show 512 * k + b = k * 512 + b from by omega]; exact u8s_getl HZ.out
                have hcd : w5.cell? ⟨bd, b, none⟩ = some (.int .u8 (fB x b)) := by
                  rw [hS.cell (b := bd) (.head _)]; exact u8s_get (by simp [filledL, List.getElem?_range hbl])
                obtain ⟨f, hf⟩ : ∃ f, f = fB x b := ⟨_, rfl⟩
                rw [← hf] at hcd
                have HF := Lib.hid hf; clear hf
                have HPK := Lib.hid (show Calls Try.prog 15 #[.int .i64 x, .int .i64 (n : Int)] = Calls Try.prog 15 #[.int .i64 x, .int .i64 (n : Int)] from rfl)
                by_cases hpk : pkN x n = k
                · have hpk2 : ((pkN x n : Int) == (k : Int)) = true := by rw [beq_iff_eq]; omega
                  have Hpk := Lib.hid hpk; clear hpk
                  obtain ⟨m1, hm1⟩ : ∃ m1, (f == z) = m1 := ⟨_, rfl⟩
                  have Hm1 := Lib.hid (show m1 = false → f ≠ z from fun h e => by rw [h] at hm1; simp [e] at hm1)
                  go_wp2
                  go_quiet ((go_at_call 15; exact Calls.quiet_of_same ((pick_c x n _ x1 x2 hn1 (by omega)).mono (fun e w' h => ⟨h.1, h.2.symm⟩))))
                  have hS := (hS.drewN nq).tail
                  go_wp2
                  go_roundw
                  case rel =>
                    refine ⟨i + 1, m1, by omega, by go_num, rfl, fun h => ⟨(HNo.out).1, fun j x' hj hx' => ?_⟩, hS⟩
                    by_cases hji : j = i
                    · subst hji
                      rw [HX.out] at hx'
                      obtain rfl := Option.some.inj hx'
                      rintro ⟨-, h2⟩
                      exact Hm1.out h (HF.out.trans h2)
                    · exact (HNo.out).2 j x' (by omega) hx'
                  case measure => simp [intOf]; omega
                · have hpk2 : ((pkN x n : Int) == (k : Int)) = false := by rw [beq_eq_false_iff_ne]; omega
                  have Hpk := Lib.hid hpk; clear hpk
                  go_wp2
                  go_quiet ((go_at_call 15; exact Calls.quiet_of_same ((pick_c x n _ x1 x2 hn1 (by omega)).mono (fun e w' h => ⟨h.1, h.2.symm⟩))))
                  have hS := (hS.drewN nq).tail
                  go_wp2
                  go_roundw
                  case rel =>
                    refine ⟨i + 1, false, by omega, by go_num, rfl, fun h => ⟨(HNo.out).1, fun j x' hj hx' => ?_⟩, hS⟩
                    by_cases hji : j = i
                    · subst hji
                      rw [HX.out] at hx'
                      obtain rfl := Option.some.inj hx'
                      rintro ⟨h1, -⟩
                      exact Hpk.out h1
                    · exact (HNo.out).2 j x' (by omega) hx'
                  case measure => simp [intOf]; omega
              · exfalso
                obtain ⟨h1, h2⟩ := HNo.out
                rcases HBY.out with h | ⟨x, hx, hx1, hx2⟩
                · exact h1 (Option.some.inj h)
                · rw [Ep.out, List.mem_map] at hx
                  obtain ⟨x0, hx0, rfl⟩ := hx
                  obtain ⟨j, hj⟩ := List.getElem?_of_mem hx0
                  have hj2 := (List.getElem?_eq_some_iff.1 hj).1
                  refine h2 j x0 (by have := HPl.out; omega) hj ⟨hx1, ?_⟩
                  have : (filledL x0 512)[b]? = some (fB x0 b) := by simp [filledL, List.getElem?_range hbl]
                  simp only at hx2
                  rw [this] at hx2
                  exact (Option.some.inj hx2).symm
        · go_wp2
          go_roundw
          case rel => exact ⟨k + 1, by omega, by go_num, hS⟩
          case measure => simp [intOf]; omega
    · have hkn : k = n := by omega
      have HK := Lib.hid hkn; clear hkn
      have EO := Lib.hid (show (ofSt n (σ.crash ql)).image = σ.crash ql from rfl)
      have EC := Lib.hid (show (ofSt n (σ.crash ql)).crash ql = σ.crash ql from rfl)
      have HNo := Lib.hid (show N = (ofSt n (σ.crash ql)).n * 512 by rw [HNN.out]; rfl)
      go_wp2_with fail
      refine (of_c (some ⟨bl, 0, none⟩) N N n (σ.crash ql) Lf.out.symm HNN.out hn1 (by omega) hS (fun w' h => rd_img h (.head _) Lf.out)).mono ?_
      clear hS
      rintro e v1 ⟨o, rfl, hS⟩
      obtain ⟨ω, hω⟩ : ∃ ω, ω = ofSt n (σ.crash ql) := ⟨_, rfl⟩
      have HP0 := Lib.hid (show ω.pend.length = 0 by rw [hω]; rfl)
      rw [← hω] at hS EO EC HNo
      clear hω
      go_wp2_with fail
      refine (show Calls _ _ _ _ (fun e w' => e = .returned (.int .i64 ((0 : Nat) : Int)) ∧ v1 = w') from HP0.out ▸ pending_c o ω hS).mono ?_
      rintro e w' ⟨rfl, rfl⟩
      go_wp2_with fail
      refine (image_c2 o ω N HNo.out hS).mono ?_
      clear hS
      rintro e v2 ⟨b2, rfl, s3, hS⟩
      rw [EO.out] at hS
      go_wp2_with fail
      refine (same_s hS (.head _) (.tail _ (.tail _ (.head _))) Lf.out Lf.out (by omega) rfl).mono ?_
      clear hS
      rintro e v3 ⟨rfl, hS⟩
      go_wp2_with fail
      refine (crash_c2 o ω qa qcap ql qlen N HQl.out HNo.out hqm HXQ.out (hS.pull 1) (HRQ.out _ (.tail _ (.tail _ (.tail _ (.tail _ (.tail _ (.head _)))))))).mono ?_
      clear hS
      rintro e v4 ⟨b3, rfl, s4, hS⟩
      rw [EC.out] at hS
      go_wp2_with fail
      refine (same_s hS (.head _) (.tail _ (.tail _ (.tail _ (.head _)))) Lf.out Lf.out (by omega) rfl).mono ?_
      clear hS
      rintro e v5 ⟨rfl, hS⟩
      go_wp2
      go_ret
      exact ⟨rfl, hS.below (List.mem_of_getElem? (i := 7) rfl)⟩

/-- The statement. -/
theorem blockSynced_holds : Rows.BlockSyncedSaid := over_BlockSynced synced_walk

end Go.Proofs.Ytinmonlhfnaiiaa
