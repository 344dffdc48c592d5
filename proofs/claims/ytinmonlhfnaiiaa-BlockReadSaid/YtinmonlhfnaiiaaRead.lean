/- Proved: whatever the three arguments are, the law arcadelaw10.BlockRead returns true: what was written last is read. No condition. -/
import Derived.Test.YtinmonlhfnaiiaaReadF
import Derived.Test.YtinmonlhfnaiiaaBlk10
namespace Go.Proofs.Ytinmonlhfnaiiaa
open Go.Sl Go.RowKit
set_option linter.unusedVariables false
set_option linter.unusedSimpArgs false

def zer (n : Nat) : List Int := List.replicate n 0
theorem zer_len (n : Nat) : (zer n).length = n := by simp [zer]
def bools (l : List Bool) : List Value := l.map Value.bool
theorem bools_len (l : List Bool) : (bools l).length = l.length := by simp [bools]
theorem i64s_len (l : List Int) : (i64s l).length = l.length := by simp [i64s]

theorem mk_one (v : Value) (h : v.cells = #[v]) (m : Nat) : (madeCells v.cells (m * 1)).toList = List.replicate m v := by
  rw [Nat.mul_one, h]; exact toList_madeCells_one _ _

theorem made512 : (madeCells (Value.int IntKind.u8 0).cells ((512 : Int).toNat * 1)).toList = u8s (zer 512) := by
  rw [show (512 : Int).toNat = 512 from rfl, mk_one _ rfl]
  unfold u8s zer
  rw [List.map_replicate]

/-! ### What Read tells -/
theorem read_write (σ : St) (k : Nat) (d : List Int) (j : Nat) : (σ.write k d).read j = if k = j then d else σ.read j := by
  unfold St.read St.write readN
  simp only [List.reverse_append, List.reverse_cons, List.reverse_nil, List.nil_append, List.cons_append, List.find?_cons]
  by_cases h : k = j
  · subst h; simp
  · have : (k == j) = false := by simpa using h
    rw [this, if_neg h]

def sec (l : List Int) (j : Nat) : List Int := (l.drop (j * 512)).take 512
theorem sec_get (l : List Int) (j i : Nat) : (sec l j)[i]? = if i < 512 then l[j * 512 + i]? else none := by
  unfold sec
  by_cases h : i < 512
  · rw [List.getElem?_take_of_lt h, List.getElem?_drop, if_pos h]
  · rw [List.getElem?_eq_none (by rw [List.length_take]; omega), if_neg h]

theorem splr_get (l d : List Int) (o j : Nat) (h : o + d.length ≤ l.length) : (spl l o d)[j]? = if o ≤ j ∧ j < o + d.length then d[j - o]? else l[j]? := by
  unfold spl
  have l1 : (l.take o).length = o := by rw [List.length_take]; omega
  by_cases h1 : j < o
  · rw [List.append_assoc, List.getElem?_append_left (by omega), List.getElem?_take_of_lt h1, if_neg (by omega)]
  · rw [List.append_assoc, List.getElem?_append_right (by omega), l1]
    by_cases h2 : j < o + d.length
    · rw [List.getElem?_append_left (by omega), if_pos (by omega)]
    · rw [List.getElem?_append_right (by omega), List.getElem?_drop, if_neg (by omega)]
      congr 1; omega

theorem sec_spl (l d : List Int) (k j n : Nat) (hl : l.length = n * 512) (hk : k < n) (hd : d.length = 512) : sec (spl l (k * 512) d) j = if k = j then d else sec l j := by
  apply List.ext_getElem?
  intro i
  rw [sec_get]
  by_cases hi : i < 512
  · rw [if_pos hi, splr_get _ _ _ _ (by omega)]
    by_cases h : k = j
    · subst h
      rw [if_pos rfl, if_pos (by omega)]
      congr 1; omega
    · rw [if_neg h, if_neg (by omega), sec_get, if_pos hi]
  · rw [if_neg hi]
    by_cases h : k = j
    · rw [if_pos h, List.getElem?_eq_none (by omega)]
    · rw [if_neg h, sec_get, if_neg hi]

theorem read_image {σ : St} (hw : σ.Wf) (j : Nat) : ∀ k, k ≤ σ.pend.length → sec (imgN σ.safe σ.pend k) j = readN σ.safe (σ.pend.take k) j
  | 0, _ => by simp [imgN, readN, sec]
  | k + 1, h => by
    have hx : σ.pend[k]? = some σ.pend[k] := List.getElem?_eq_getElem (by omega)
    obtain ⟨h1, h2⟩ := hw.pend _ (List.getElem_mem (show k < σ.pend.length by omega))
    rw [imgN_succ _ _ k _ hx, sec_spl _ _ _ _ σ.n (imgN_len hw k (by omega)) h1 h2, read_image hw j k (by omega)]
    have e : σ.pend.take (k + 1) = σ.pend.take k ++ [σ.pend[k]] := by rw [List.take_add_one, hx]; rfl
    rw [e]
    unfold readN
    simp only [List.reverse_append, List.reverse_cons, List.reverse_nil, List.nil_append, List.cons_append, List.find?_cons]
    by_cases h : σ.pend[k].1 = j
    · have : (σ.pend[k].1 == j) = true := by simpa using h
      rw [if_pos h, this]
    · have : (σ.pend[k].1 == j) = false := by simpa using h
      rw [if_neg h, this]

theorem read_sync {σ : St} (hw : σ.Wf) (j : Nat) : σ.sync.read j = σ.read j := by
  have h := read_image hw j σ.pend.length (Nat.le_refl _)
  rw [List.take_length] at h
  have e : σ.sync.read j = sec σ.image j := by simp [St.read, readN, St.sync, sec]
  rw [e]
  have e2 : σ.image = imgN σ.safe σ.pend σ.pend.length := by simp [St.image, imgN]
  rw [e2, h]; rfl

theorem read_made (n j : Nat) (hj : j < n) : (madeSt n [] []).read j = zer 512 := by
  have e : (madeSt n [] []).read j = sec (zer (n * 512)) j := by simp [St.read, readN, madeSt, wrs, St.sync, St.image, newSt, sec, zer]
  rw [e]
  apply List.ext_getElem?
  intro i
  rw [sec_get]
  unfold zer
  by_cases hi : i < 512
  · rw [if_pos hi, List.getElem?_replicate, List.getElem?_replicate, if_pos (by omega), if_pos hi]
  · rw [if_neg hi, List.getElem?_replicate, if_neg hi]

/-- The law's books: what was written last of each sector. -/
structure Bk (n : Nat) (σ : St) (ll : List Int) (bl : List Bool) (i : Nat) : Prop where
  en : σ.n = n
  lim : σ.limited = false
  pend : σ.pend.length ≤ i
  left : -(i : Int) ≤ σ.left
  ell : ll.length = n
  ebl : bl.length = n
  wf : ∀ x ∈ ll, -9223372036854775808 ≤ x ∧ x ≤ 9223372036854775807
  rd : ∀ k, k < n → (bl[k]? = some true → ∃ x, ll[k]? = some x ∧ σ.read k = filledL x 512) ∧ (bl[k]? = some false → σ.read k = zer 512)

theorem Bk.made (n : Nat) : Bk n (madeSt n [] []) (List.replicate n 0) (List.replicate n false) 0 :=
  ⟨rfl, rfl, Nat.le_refl _, by show _ ≤ (madeSt n [] []).left; exact Int.le_refl _, by simp, by simp, by intro x hx; have := List.eq_of_mem_replicate hx; omega,
    fun k hk => ⟨fun h => (by rw [List.getElem?_replicate, if_pos hk] at h; cases h), fun _ => read_made n k hk⟩⟩

theorem Bk.write {n : Nat} {σ : St} {ll : List Int} {bl : List Bool} {i : Nat} (h : Bk n σ ll bl i) (k : Nat) (hk : k < n) (x : Int) (hx : -9223372036854775808 ≤ x ∧ x ≤ 9223372036854775807) : Bk n (σ.write k (filledL x 512)) (ll.set k x) (bl.set k true) (i + 1) :=
  ⟨h.en, h.lim, by show (σ.pend ++ [_]).length ≤ _; rw [List.length_append]; have := h.pend; simp; omega, by show _ ≤ σ.left - 1; have := h.left; omega, by simp [h.ell], by simp [h.ebl],
    fun y hy => by rcases List.mem_or_eq_of_mem_set hy with h1 | rfl; exact h.wf y h1; exact hx,
    fun j hj => by
      rw [read_write, List.getElem?_set, List.getElem?_set]
      by_cases e : k = j
      · subst e
        rw [if_pos rfl, if_pos rfl, if_pos rfl, if_pos (by rw [h.ebl]; exact hj), if_pos (by rw [h.ell]; exact hj)]
        exact ⟨fun _ => ⟨x, rfl, rfl⟩, fun e => by cases e⟩
      · rw [if_neg e, if_neg e, if_neg e]
        exact h.rd j hj⟩

theorem Bk.sync {n : Nat} {σ : St} {ll : List Int} {bl : List Bool} {i : Nat} (h : Bk n σ ll bl i) (hw : σ.Wf) : Bk n σ.sync ll bl i :=
  ⟨h.en, h.lim, Nat.zero_le _, h.left, h.ell, h.ebl, h.wf, fun k hk => by rw [read_sync hw]; exact h.rd k hk⟩

set_option maxRecDepth 100000 in
set_option maxHeartbeats 8000000 in
theorem read_walk : WalkSaid_BlockRead := by
  intro sectors sa slen scap sz sync W w0 w1 w2
  obtain ⟨o1, o2⟩ := wf64 w0
  obtain ⟨m1, m2⟩ := wf64 w2
  obtain ⟨l1, l2, l3⟩ := w1.len_cap
  have HWS := Lib.hid w1; have HL3 := Lib.hid l3
  have HS := Lib.hid (SL.start W)
  clear w0 w1 w2 l3
  obtain ⟨n, hn⟩ : ∃ n, n = pkN sectors 6 + 1 := ⟨_, rfl⟩
  have hn1 : 1 ≤ n := by omega
  have hn2 : n ≤ 6 := by have := pkN_lt sectors 6 (by omega); omega
  have hnn : (1 : Int) + (pkN sectors 6 : Int) = (n : Int) := by omega
  clear hn
  have HSl := Lib.hid (show slen ≤ sz.length from by have := HL3.out; omega)
  have HXA := Lib.hid (show ∀ x ∈ sz, -9223372036854775808 ≤ x ∧ x ≤ 9223372036854775807 from fun x hx => wf64 (HWS.out.wf x hx))
  have HRA := Lib.hid (show ∀ (L : List HP), Sl.old W ∈ L → ∀ w', SL W L w' → Rd w' 1 (.slice sa slen scap) slen (i64s (sz.take slen)) from fun L hL w' h => HWS.out.rd hL slen (Nat.le_refl _) scap w' h)
  have hsm : slen ≤ 9223372036854775807 := by unfold maxLen at l2; omega
  go_enter Try.func5, Try.ntmps5
  go_wp2_with fail
  refine (pick_c sectors 6 W o1 o2 (by omega) (by omega)).mono ?_
  rintro e w' ⟨rfl, rfl⟩
  clear o1 o2
  go_wp2_with fail
  refine (made_c n hn1 (by omega) none none 0 0 [] [] 0 0 rfl rfl (by omega) (by omega) (by simp) (by simp) HS.out (fun _ _ => Rd.nil _ _ _) (fun _ _ => Rd.nil _ _ _)).mono ?_
  rintro e w1 ⟨p, rfl, hS⟩
  have HB := Lib.hid (Bk.made n)
  go_wp2_with (first | ((with_reducible show wpList _ _ _ (Oper.mk _ (Op.makeSlice _ _ _) _ _ _ _ :: _) _ _); refine wpList_plain rfl (fun K hK => ?_); refine w_make El3 Try.underlying24 hS rfl rfl (by omega) (by omega) (by omega) (by unfold maxLen; omega) ?_; clear hS; intro bL w hS l' hl; simp only [List.set_cons_succ, List.set_cons_zero] at hl; subst hl; refine hK _ _ ?_; clear hK K) | ((with_reducible show wpList _ _ _ (Oper.mk _ (Op.makeSlice _ _ _) _ _ _ _ :: _) _ _); refine wpList_plain rfl (fun K hK => ?_); refine w_make El4 Try.underlying36 hS rfl rfl (by omega) (by omega) (by omega) (by unfold maxLen; omega) ?_; clear hS; intro bB w hS l' hl; simp only [List.set_cons_succ, List.set_cons_zero] at hl; subst hl; refine hK _ _ ?_; clear hK K))
  have eL : (madeCells (Value.int IntKind.i64 0).cells ((n : Int).toNat * 1)).toList = i64s (List.replicate n 0) := by rw [mk_one _ rfl, Int.toNat_natCast]; simp [i64s]
  have eB : (madeCells (Value.bool false).cells ((n : Int).toNat * 1)).toList = bools (List.replicate n false) := by rw [mk_one _ rfl, Int.toNat_natCast]; simp [bools]
  obtain ⟨σ0, ll0, bl0, HB, hS⟩ : ∃ σ ll bl, Hid (Bk n σ ll bl 0) ∧ SL W [row bB 4 (bools bl), row bL 3 (i64s ll), StoreP p σ, Sl.old W] w := ⟨_, _, _, HB, by rw [← eL, ← eB]; exact hS⟩
  clear eL eB
  simp only [Int.toNat_natCast]
  go_wp2
  go_loopw [12] (fun iv wr => ∃ (i : Nat) (σ : St) (ll : List Int) (bl : List Bool), i ≤ slen ∧ i ≤ 30 ∧ iv = .int .i64 i ∧ Hid (Bk n σ ll bl i) ∧ SL W [row bB 4 (bools bl), row bL 3 (i64s ll), StoreP p σ, Sl.old W] wr) (fun iv _ => slen - (intOf iv).toNat)
  case atStart => exact ⟨0, σ0, ll0, bl0, Nat.zero_le _, by omega, rfl, HB, hS⟩
  case round =>
    clear hS HB
    obtain ⟨i, σ, ll, bl, hi, hi30, rfl, HB, hS⟩ := hrel
    by_cases his : i < slen
    · by_cases hlt : i < 30
      · obtain ⟨x, hx⟩ : ∃ x, sz[i]? = some x := ⟨_, List.getElem?_eq_getElem (by have := HSl.out; omega)⟩
        have hxb := HXA.out x (List.mem_of_getElem? hx)
        obtain ⟨x1, x2⟩ := hxb
        obtain ⟨ad, e⟩ := rd_base (HRA.out _ (.tail _ (.tail _ (.tail _ (.head _)))) _ hS) (by omega)
        have HC := Lib.hid (show ∀ (L : List HP), Sl.old W ∈ L → ∀ w', SL W L w' → w'.cell? (ad.add i) = some (.int .i64 x) from fun L hL w' h => by
          have h2 := HRA.out L hL w' h
          rw [e] at h2
          have hlen : i < (sz.take slen).length := by rw [List.length_take]; have := HSl.out; omega
          have h3 := rd_celli h2 i hlen
          rw [h3]
          have h4 := hx
          rw [← List.getElem?_take_of_lt his, List.getElem?_eq_getElem hlen] at h4
          rw [Option.some.inj h4])
        subst e
        clear hx
        have hc1 : wr.cell? (ad.add i) = some (.int .i64 x) := HC.out _ (.tail _ (.tail _ (.tail _ (.head _)))) _ hS
        go_wp2_with fail
        refine (pick_c x n _ x1 x2 hn1 (by omega)).mono ?_
        rintro e w' ⟨rfl, rfl⟩
        obtain ⟨k, hk, hkn⟩ : ∃ k, pkN x n = k ∧ k < n := ⟨_, rfl, pkN_lt x n hn1⟩
        rw [hk]
        clear hk
        go_wp2_with fail
        refine (filled_c x 0 512 (by omega) (by omega) hS).mono ?_
        clear hS hc1
        rintro e w5 ⟨bf, rfl, hS⟩
        go_wp2_with fail
        refine (write_c p σ k _ (filledL x 512) (by rw [HB.out.en]; exact hkn) (filledL_len _ _) (by have := HB.out.pend; omega) (by have := HB.out.left; omega) (fun h => by rw [HB.out.lim] at h; cases h) (hS.pull 3) (fun w' h => h.rd_row (.head _) (by rw [u8s_len, filledL_len]) (fun j u hu => by rw [Nat.zero_add]; exact hu))).mono ?_
        clear hS
        rintro e w6 ⟨rfl, hS⟩
        have hS := ((hS.pull 1).tail.pull 2).pull 2
        have hc1 : w6.cell? (ad.add i) = some (.int .i64 x) := HC.out _ (.tail _ (.tail _ (.tail _ (.head _)))) _ hS
        have HB2 := Lib.hid (HB.out.write k hkn x ⟨x1, x2⟩)
        obtain ⟨τ, hτ⟩ : ∃ τ, τ = σ.write k (filledL x 512) := ⟨_, rfl⟩
        rw [← hτ] at hS HB2
        clear hτ
        have HLl := Lib.hid (show k < (i64s ll).length by rw [i64s_len, HB.out.ell]; exact hkn)
        have HLb := Lib.hid (show k < (bools bl).length by rw [bools_len, HB.out.ebl]; exact hkn)
        go_wp2_with (first | (((with_reducible show wpList _ _ _ (Oper.mk _ (Op.store _ _ _) _ _ _ _ :: _) _ _); refine wpList_plain rfl (fun K hK => ?_); refine w_store hS 1 rfl rfl rfl El3 rfl (HLl.out) ?_; clear hS; intro w hS; try simp only [ev, nth, Option.getD_some, Option.getD_none] at hS; refine hK _ _ ?_; clear hK K); clear hc1) | ((with_reducible show wpList _ _ _ (Oper.mk _ (Op.store _ _ _) _ _ _ _ :: _) _ _); refine wpList_plain rfl (fun K hK => ?_); refine w_store hS 1 rfl rfl rfl El4 rfl (HLb.out) ?_; clear hS; intro w hS; try simp only [ev, nth, Option.getD_some, Option.getD_none] at hS; refine hK _ _ ?_; clear hK K))
        have eL : (i64s ll).set k (.int .i64 x) = i64s (ll.set k x) := by simp [i64s, List.map_set]
        have eB : (bools bl).set k (.bool true) = bools (bl.set k true) := by simp [bools, List.map_set]
        rw [eL, eB] at hS
        clear eL eB
        refine (pick_c sync 7 _ m1 m2 (by omega) (by omega)).mono ?_
        rintro e w' ⟨rfl, rfl⟩
        obtain ⟨q, hq⟩ : ∃ q, pkN sync 7 = q := ⟨_, rfl⟩
        rw [hq]
        clear hq
        by_cases hqi : (q : Int) = (i : Int) % 7
        · have hb : ((q : Int) == (i : Int) % 7) = true := by rw [beq_iff_eq]; exact hqi
          have HQI := Lib.hid hqi; clear hqi
          go_wp2_with fail
          have HW := Lib.hid (st_wf (hS.pull 2))
          refine (sync_c p τ (hS.pull 2)).mono ?_
          clear hS
          rintro e w7 ⟨rfl, hS⟩
          have HB3 := Lib.hid (HB2.out.sync HW.out)
          go_wp2
          go_roundw
          case rel => exact ⟨i + 1, _, _, _, by omega, by omega, by go_num, HB3, (hS.pull 2).pull 2⟩
          case measure => simp [intOf]; omega
        · have hb : ((q : Int) == (i : Int) % 7) = false := by rw [beq_eq_false_iff_ne]; exact hqi
          have HQI := Lib.hid hqi; clear hqi
          go_wp2
          go_roundw
          case rel => exact ⟨i + 1, _, _, _, by omega, by omega, by go_num, HB2, hS⟩
          case measure => simp [intOf]; omega
      · have HLT := Lib.hid hlt
        go_wp2
        go_loopw [14] (fun kv wr => ∃ k : Nat, k ≤ n ∧ kv = .int .i64 k ∧ SL W [row bB 4 (bools bl), row bL 3 (i64s ll), StoreP p σ, Sl.old W] wr) (fun kv _ => n - (intOf kv).toNat)
        case atStart => exact ⟨0, Nat.zero_le _, rfl, hS⟩
        case round =>
          clear hS
          obtain ⟨k, hk, rfl, hS⟩ := hrel
          by_cases hkn : k < n
          · have HR := Lib.hid (HB.out.rd k hkn)
            have hcb := hS.cell (b := bB) (.head _) k
            have hcl := hS.cell (b := bL) (.tail _ (.head _)) k
            obtain ⟨v, hv⟩ : ∃ v, bl[k]? = some v := ⟨_, List.getElem?_eq_getElem (by rw [HB.out.ebl]; exact hkn)⟩
            obtain ⟨x, hx⟩ : ∃ x, ll[k]? = some x := ⟨_, List.getElem?_eq_getElem (by rw [HB.out.ell]; exact hkn)⟩
            simp only [bools, i64s, List.getElem?_map, hv, hx, Option.map_some] at hcb hcl
            have HV := Lib.hid hv; have HX := Lib.hid hx; clear hv hx
            have HK := Lib.hid (show k < σ.n by rw [HB.out.en]; exact hkn)
            cases v with
            | true =>
              obtain ⟨x', hx', hr⟩ := HR.out.1 HV.out
              rw [HX.out] at hx'
              obtain rfl := Option.some.inj hx'
              have Hr := Lib.hid hr; clear hr hx'
              go_wp2_with (((with_reducible show wpList _ _ _ (Oper.mk _ (Op.makeSlice _ _ _) _ _ _ _ :: _) _ _); refine wpList_plain rfl (fun K hK => ?_); refine w_make El5 Try.underlying31 hS rfl rfl (by omega) (by omega) (by omega) (by unfold maxLen; omega) ?_; clear hS; intro bw w hS l' hl; simp only [List.set_cons_succ, List.set_cons_zero] at hl; subst hl; refine hK _ _ ?_; clear hK K); (have hS := hS.tail); (have hcb := hS.cell (b := bB) (.head _) k); (have hcl := hS.cell (b := bL) (.tail _ (.head _)) k); simp only [bools, i64s, List.getElem?_map, HV.out, HX.out, Option.map_some] at hcb hcl)
              refine (filled_c x 0 512 (by omega) (by omega) hS).mono ?_
              clear hS hcb hcl
              rintro e w7 ⟨bf, rfl, hS⟩
              go_wp2_with fail
              refine (read_c p σ k HK.out (hS.pull 3)).mono ?_
              clear hS
              rintro e w8 ⟨bg, rfl, sp, hS⟩
              rw [Hr.out] at hS
              go_wp2_with fail
              refine (same_t _ _ _ _ (filledL x 512) (filledL x 512) 512 512 (filledL_len _ _).symm (filledL_len _ _).symm (by omega) (by omega) _ (rd_img hS (.head _) (filledL_len _ _).symm) (hS.rd_row (b := bf) (o := 0) (.tail _ (.tail _ (.head _))) (by rw [u8s_len, filledL_len]) (fun j u hu => by rw [Nat.zero_add]; exact hu)) rfl).mono ?_
              rintro e w9 ⟨rfl, dn, rfl⟩
              have hS := ((((hS.drewN dn).tail.pull 1).tail).pull 2).pull 2
              obtain ⟨wz, hwz⟩ : ∃ wz, wz = w8.drewN dn := ⟨_, rfl⟩
              rw [← hwz] at hS ⊢
              clear hwz
              go_wp2
              go_roundw
              case rel => exact ⟨k + 1, by omega, by go_num, hS⟩
              case measure => simp [intOf]; omega
            | false =>
              have Hr := Lib.hid (HR.out.2 HV.out)
              go_wp2_with (((with_reducible show wpList _ _ _ (Oper.mk _ (Op.makeSlice _ _ _) _ _ _ _ :: _) _ _); refine wpList_plain rfl (fun K hK => ?_); refine w_make El5 Try.underlying31 hS rfl rfl (by omega) (by omega) (by omega) (by unfold maxLen; omega) ?_; clear hS; intro bw w hS l' hl; simp only [List.set_cons_succ, List.set_cons_zero] at hl; subst hl; refine hK _ _ ?_; clear hK K); (have hcb := hS.cell (b := bB) (.tail _ (.head _)) k); simp only [bools, i64s, List.getElem?_map, HV.out, HX.out, Option.map_some] at hcb)
              rw [made512] at hS
              refine (read_c p σ k HK.out (hS.pull 3)).mono ?_
              clear hS hcb
              rintro e w8 ⟨bg, rfl, sp, hS⟩
              rw [Hr.out] at hS
              go_wp2_with fail
              refine (same_t _ _ _ _ (zer 512) (zer 512) 512 512 (zer_len _).symm (zer_len _).symm (by omega) (by omega) _ (rd_img hS (.head _) (zer_len _).symm) (hS.rd_row (b := bw) (o := 0) (.tail _ (.tail _ (.head _))) (by rw [u8s_len, zer_len]) (fun j u hu => by rw [Nat.zero_add]; exact hu)) rfl).mono ?_
              rintro e w9 ⟨rfl, dn, rfl⟩
              have hS := ((((hS.drewN dn).tail.pull 1).tail).pull 2).pull 2
              obtain ⟨wz, hwz⟩ : ∃ wz, wz = w8.drewN dn := ⟨_, rfl⟩
              rw [← hwz] at hS ⊢
              clear hwz
              go_wp2
              go_roundw
              case rel => exact ⟨k + 1, by omega, by go_num, hS⟩
              case measure => simp [intOf]; omega
          · go_wp2
            go_ret
            exact ⟨rfl, hS.below (List.mem_of_getElem? (i := 3) rfl)⟩
    · have HLT := Lib.hid his
      go_wp2
      go_loopw [14] (fun kv wr => ∃ k : Nat, k ≤ n ∧ kv = .int .i64 k ∧ SL W [row bB 4 (bools bl), row bL 3 (i64s ll), StoreP p σ, Sl.old W] wr) (fun kv _ => n - (intOf kv).toNat)
      case atStart => exact ⟨0, Nat.zero_le _, rfl, hS⟩
      case round =>
        clear hS
        obtain ⟨k, hk, rfl, hS⟩ := hrel
        by_cases hkn : k < n
        · have HR := Lib.hid (HB.out.rd k hkn)
          have hcb := hS.cell (b := bB) (.head _) k
          have hcl := hS.cell (b := bL) (.tail _ (.head _)) k
          obtain ⟨v, hv⟩ : ∃ v, bl[k]? = some v := ⟨_, List.getElem?_eq_getElem (by rw [HB.out.ebl]; exact hkn)⟩
          obtain ⟨x, hx⟩ : ∃ x, ll[k]? = some x := ⟨_, List.getElem?_eq_getElem (by rw [HB.out.ell]; exact hkn)⟩
          simp only [bools, i64s, List.getElem?_map, hv, hx, Option.map_some] at hcb hcl
          have HV := Lib.hid hv; have HX := Lib.hid hx; clear hv hx
          have HK := Lib.hid (show k < σ.n by rw [HB.out.en]; exact hkn)
          cases v with
          | true =>
            obtain ⟨x', hx', hr⟩ := HR.out.1 HV.out
            rw [HX.out] at hx'
            obtain rfl := Option.some.inj hx'
            have Hr := Lib.hid hr; clear hr hx'
            go_wp2_with (((with_reducible show wpList _ _ _ (Oper.mk _ (Op.makeSlice _ _ _) _ _ _ _ :: _) _ _); refine wpList_plain rfl (fun K hK => ?_); refine w_make El5 Try.underlying31 hS rfl rfl (by omega) (by omega) (by omega) (by unfold maxLen; omega) ?_; clear hS; intro bw w hS l' hl; simp only [List.set_cons_succ, List.set_cons_zero] at hl; subst hl; refine hK _ _ ?_; clear hK K); (have hS := hS.tail); (have hcb := hS.cell (b := bB) (.head _) k); (have hcl := hS.cell (b := bL) (.tail _ (.head _)) k); simp only [bools, i64s, List.getElem?_map, HV.out, HX.out, Option.map_some] at hcb hcl)
            refine (filled_c x 0 512 (by omega) (by omega) hS).mono ?_
            clear hS hcb hcl
            rintro e w7 ⟨bf, rfl, hS⟩
            go_wp2_with fail
            refine (read_c p σ k HK.out (hS.pull 3)).mono ?_
            clear hS
            rintro e w8 ⟨bg, rfl, sp, hS⟩
            rw [Hr.out] at hS
            go_wp2_with fail
            refine (same_t _ _ _ _ (filledL x 512) (filledL x 512) 512 512 (filledL_len _ _).symm (filledL_len _ _).symm (by omega) (by omega) _ (rd_img hS (.head _) (filledL_len _ _).symm) (hS.rd_row (b := bf) (o := 0) (.tail _ (.tail _ (.head _))) (by rw [u8s_len, filledL_len]) (fun j u hu => by rw [Nat.zero_add]; exact hu)) rfl).mono ?_
            rintro e w9 ⟨rfl, dn, rfl⟩
            have hS := ((((hS.drewN dn).tail.pull 1).tail).pull 2).pull 2
            obtain ⟨wz, hwz⟩ : ∃ wz, wz = w8.drewN dn := ⟨_, rfl⟩
            rw [← hwz] at hS ⊢
            clear hwz
            go_wp2
            go_roundw
            case rel => exact ⟨k + 1, by omega, by go_num, hS⟩
            case measure => simp [intOf]; omega
          | false =>
            have Hr := Lib.hid (HR.out.2 HV.out)
            go_wp2_with (((with_reducible show wpList _ _ _ (Oper.mk _ (Op.makeSlice _ _ _) _ _ _ _ :: _) _ _); refine wpList_plain rfl (fun K hK => ?_); refine w_make El5 Try.underlying31 hS rfl rfl (by omega) (by omega) (by omega) (by unfold maxLen; omega) ?_; clear hS; intro bw w hS l' hl; simp only [List.set_cons_succ, List.set_cons_zero] at hl; subst hl; refine hK _ _ ?_; clear hK K); (have hcb := hS.cell (b := bB) (.tail _ (.head _)) k); simp only [bools, i64s, List.getElem?_map, HV.out, HX.out, Option.map_some] at hcb)
            rw [made512] at hS
            refine (read_c p σ k HK.out (hS.pull 3)).mono ?_
            clear hS hcb
            rintro e w8 ⟨bg, rfl, sp, hS⟩
            rw [Hr.out] at hS
            go_wp2_with fail
            refine (same_t _ _ _ _ (zer 512) (zer 512) 512 512 (zer_len _).symm (zer_len _).symm (by omega) (by omega) _ (rd_img hS (.head _) (zer_len _).symm) (hS.rd_row (b := bw) (o := 0) (.tail _ (.tail _ (.head _))) (by rw [u8s_len, zer_len]) (fun j u hu => by rw [Nat.zero_add]; exact hu)) rfl).mono ?_
            rintro e w9 ⟨rfl, dn, rfl⟩
            have hS := ((((hS.drewN dn).tail.pull 1).tail).pull 2).pull 2
            obtain ⟨wz, hwz⟩ : ∃ wz, wz = w8.drewN dn := ⟨_, rfl⟩
            rw [← hwz] at hS ⊢
            clear hwz
            go_wp2
            go_roundw
            case rel => exact ⟨k + 1, by omega, by go_num, hS⟩
            case measure => simp [intOf]; omega
        · go_wp2
          go_ret
          exact ⟨rfl, hS.below (List.mem_of_getElem? (i := 3) rfl)⟩

/-- The statement. -/
theorem blockRead_holds : Rows.BlockReadSaid := over_BlockRead read_walk

end Go.Proofs.Ytinmonlhfnaiiaa
