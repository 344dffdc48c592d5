import Derived.Test.YtijjficnhpokdaaMAll17
/- The sched law's World: step, whatever the step. -/
namespace Go.Proofs.Ytijjficnhpokdaa
open Go.Sl Go.Xg
set_option linter.unusedVariables false
set_option linter.unusedSimpArgs false
set_option linter.unusedSectionVars false
set_option linter.unnecessarySimpa false
set_option maxHeartbeats 4000000
set_option maxRecDepth 100000

theorem addR_len (id : Int) (r : List (Int × Bool)) (h : r.length ≤ 64) : (addR id r).length ≤ 64 := by
  unfold addR
  split
  · rename_i e
    have : r.length ≠ 64 := fun e2 => by
      unfold addE at e
      rw [if_pos e2] at e
      split at e
      · cases e
      · split at e <;> cases e
    rw [List.length_append, List.length_singleton]; omega
  · exact h
theorem remR_len (id : Int) (r : List (Int × Bool)) (h : r.length ≤ 64) : (remR id r).length ≤ 64 := by
  unfold remR
  split
  · exact h
  · exact Nat.le_trans (List.length_eraseIdx_le _ _) h
theorem rdyR_len (id : Int) (b : Bool) (r : List (Int × Bool)) (h : r.length ≤ 64) : (rdyR id b r).length ≤ 64 := by
  unfold rdyR
  split
  · exact h
  · rw [List.length_set]; exact h
theorem begR_len (r : List (Int × Bool)) (s : List Int) (k : Int) (h : r.length ≤ 64) : (begR r s k).length ≤ 64 := by
  unfold begR
  split
  · rename_i e
    have hg : -1 ≤ next r s ∧ next r s < r.length := fidx_ge r
    rw [List.length_append, List.length_eraseIdx, if_pos (by omega), List.length_singleton]
    omega
  · exact h
theorem begS_len (r : List (Int × Bool)) (s : List Int) (k : Int) (h : s.length ≤ 8) : (begS r s k).length ≤ 8 := by
  unfold begS
  split
  · rw [List.length_set]; exact h
  · exact h
theorem begV_t (r : List (Int × Bool)) (s : List Int) (k : Int) : ∃ n e, begV r s k = .tuple #[.int .i64 n, .int .i64 e] := by
  unfold begV
  split
  · exact ⟨_, _, rfl⟩
  · split
    · exact ⟨_, _, rfl⟩
    · exact ⟨_, _, rfl⟩
section
variable {wb : Nat} {W : Wst} {n : Nat} (h : Wok n W) (hn : n ≤ 10000000) (o : Sp) (hp : i64ok o.p) (hf4 : W.Fr.length ≤ 4)
include h hn hp hf4
abbrev StepPost (wb : Nat) (W : Wst) (n : Nat) (o : Sp) : Prop := Does Try.prog 19 [.pointer (some ⟨wb, 0, none⟩), spV o] [WS wb W] (RetE (fun W' : Wst => Wok (n + 1) W' ∧ W'.Fr.length ≤ W.Fr.length + 2) (fun _ => .bool true) (fun W' => [WS wb W']))
theorem step_idle (K : List HP) (hd : Does Try.prog 19 [.pointer (some ⟨wb, 0, none⟩), spV o] [WRow wb W] (Ret (.bool true) [WRow wb W])) : StepPost wb W n o :=
  does_conv (K := [TH W.la W.lc (W.TT.map xy), starL thP W.TT, FH W.fa W.fc W.Fr, starL frP W.Fr, IH W.wa W.wc W.Wa, starL ihP W.Wa, IH W.xa W.xc W.Ls, starL ihP W.Ls, SP W.ma W.mc W.Ms]) (ret_e hd) (fun g w F hS => ws_open hS) fun _ _ g w F hS => ⟨W, ⟨Wok.same h hn W h, by omega⟩, rfl, ws_shut hS⟩
theorem step_w : StepPost wb W n o := by
  have ht := h.t
  have hl := h.l
  have hml : (W.TT.map xy).length = W.TT.length := List.length_map ..
  by_cases k1 : o.kd = 1
  · by_cases kn : 1 ≤ o.n ∧ o.n ≤ 8
    · obtain ⟨k, hk⟩ : ∃ k : Nat, o.n = k := ⟨o.n.toNat, by omega⟩
      refine does_conv (K := [starL thP W.TT, FH W.fa W.fc W.Fr, starL frP W.Fr, IH W.wa W.wc W.Wa, starL ihP W.Wa, IH W.xa W.xc W.Ls, starL ihP W.Ls, SP W.ma W.mc W.Ms]) (step_new wb W.la W.lc _ _ _ _ (W.TT.map xy) o (by omega) k1 k hk (by omega) (by omega)) (fun g w F hS => ws_open hS) fun x _ g w F hS => ?_
      obtain ⟨⟨la, lc⟩, x, y⟩ := x
      refine ⟨{ W with la := la, lc := lc, TT := W.TT ++ [⟨x, y, [], List.replicate k (-1)⟩] }, ⟨⟨by show (W.TT ++ _).length ≤ _; rw [List.length_append]; show W.TT.length + 1 ≤ _; omega, fun i hi => ?_, h.fr, h.mkd, by show W.Ls.length + 4 * W.Fr.length ≤ 8 * (n + 1); omega⟩, by show W.Fr.length ≤ _; omega⟩, rfl, ?_⟩
      · show ((W.TT ++ _).getD i default).r.length ≤ 64 ∧ ((W.TT ++ _).getD i default).s.length ≤ 8
        rw [getD_four]
        split
        · exact h.ok i (by assumption)
        · have hi2 : i < W.TT.length + 1 := by simpa using hi
          rw [show i - W.TT.length = 0 from by omega]
          exact ⟨Nat.zero_le _, by show (List.replicate k (-1 : Int)).length ≤ 8; rw [List.length_replicate]; omega⟩
      · refine ws_shut ?_
        have h1 : SL g ([SchedP x [] (List.replicate k (-1)), RefP y [] (List.replicate k (-1))] ++ (starL thP W.TT :: _)) w := sl_keep (L := [WL wb la (W.TT.map xy ++ [(x, y)]).length lc (.slice W.fa W.Fr.length W.fc) (.slice W.wa W.Wa.length W.wc) (.slice W.xa W.Ls.length W.xc) (.slice W.ma W.Ms.length W.mc), TH la lc (W.TT.map xy ++ [(x, y)]), SchedP x [] (List.replicate k (-1)), RefP y [] (List.replicate k (-1)), starL thP W.TT, FH W.fa W.fc W.Fr, starL frP W.Fr, IH W.wa W.wc W.Wa, starL ihP W.Wa, IH W.xa W.xc W.Ls, starL ihP W.Ls, SP W.ma W.mc W.Ms]) [2, 3, 4, 0, 1, 5, 6, 7, 8, 9, 10, 11] rfl hS
        have h2 : SL g (thP ⟨x, y, [], List.replicate k (-1)⟩ :: starL thP W.TT :: _) w := SL.flat.2 h1
        have h3 := starL_one h2
        have em : (W.TT ++ [(⟨x, y, [], List.replicate k (-1)⟩ : Th)]).map xy = W.TT.map xy ++ [(x, y)] := by rw [List.map_append]; rfl
        rw [← em] at h3
        exact sl_keep (L := [starL thP (W.TT ++ [⟨x, y, [], List.replicate k (-1)⟩]), WL wb la ((W.TT ++ [(⟨x, y, [], List.replicate k (-1)⟩ : Th)]).map xy).length lc (.slice W.fa W.Fr.length W.fc) (.slice W.wa W.Wa.length W.wc) (.slice W.xa W.Ls.length W.xc) (.slice W.ma W.Ms.length W.mc), TH la lc ((W.TT ++ [(⟨x, y, [], List.replicate k (-1)⟩ : Th)]).map xy), FH W.fa W.fc W.Fr, starL frP W.Fr, IH W.wa W.wc W.Wa, starL ihP W.Wa, IH W.xa W.xc W.Ls, starL ihP W.Ls, SP W.ma W.mc W.Ms]) [1, 2, 0, 3, 4, 5, 6, 7, 8, 9] rfl h3
    · exact step_idle h hn o hp hf4 [] (step_newN wb W.la W.lc _ _ _ _ (W.TT.map xy) o k1 (by omega))
  by_cases k0 : W.TT.length = 0
  · exact step_idle h hn o hp hf4 [] (step_none wb W.la W.lc _ _ _ _ (W.TT.map xy) o k1 (by omega))
  obtain ⟨i, hi⟩ : ∃ i, pickN o.p (W.TT.map xy).length = i := ⟨_, rfl⟩
  have hil := pickN_lt o.p (W.TT.map xy).length (by omega)
  rw [hi] at hil
  have hiT : i < W.TT.length := by omega
  obtain ⟨hr, hs⟩ := h.ok i hiT
  have fin : ∀ {q : Wst → Prop}, (∀ W', q W' → Wok (n + 1) W' ∧ W'.Fr.length ≤ W.Fr.length + 2) → Does Try.prog 19 [.pointer (some ⟨wb, 0, none⟩), spV o] [WS wb W] (RetE q (fun _ => .bool true) (fun W' => [WS wb W'])) → StepPost wb W n o := fun hq hd =>
    hd.mono fun v ps ⟨x, hx, e1, e2⟩ => ⟨x, hq x hx, e1, e2⟩
  have go := fun r' s' hr' hs' hd => fin (fun W' hW => ⟨hW.1, by rw [hW.2]; omega⟩) (step_thing (wb := wb) h hn o i hiT r' s' hr' hs' hd)
  by_cases k2 : o.kd = 2
  · exact go _ _ (addR_len o.n _ hr) hs (step_add wb W.la W.lc _ _ _ _ (W.TT.map xy) o hp (by omega) (by omega) i hi hil _ _ _ _ _ k2 (add_d _ _ _ o.n hr) (radd_d _ _ _ o.n hr))
  by_cases k3 : o.kd = 3
  · exact go _ _ (remR_len o.n _ hr) hs (step_remove wb W.la W.lc _ _ _ _ (W.TT.map xy) o hp (by omega) (by omega) i hi hil _ _ _ _ _ k3 (remove_d _ _ _ o.n) (rremove_d _ _ _ o.n hr))
  by_cases k4 : o.kd = 4
  · exact go _ _ (rdyR_len o.n o.b _ hr) hs (step_ready wb W.la W.lc _ _ _ _ (W.TT.map xy) o hp (by omega) (by omega) i hi hil _ _ _ _ _ k4 (ready_d _ _ _ o.n o.b) (rready_d _ _ _ o.n o.b hr))
  by_cases k5 : o.kd = 5
  · obtain ⟨v, e, hv⟩ := begV_t (W.TT.getD i default).r (W.TT.getD i default).s o.n
    have a1 := fun p => begin_d p _ (W.TT.getD i default).s o.n hr
    have a2 := fun p => rbegin_d p _ (W.TT.getD i default).s o.n hr (by omega)
    rw [hv] at a1 a2
    exact go _ _ (begR_len _ _ o.n hr) (begS_len _ _ o.n hs) (step_begin wb W.la W.lc _ _ _ _ (W.TT.map xy) o hp (by omega) (by omega) i hi hil _ _ _ _ e v k5 (a1 _) (a2 _))
  by_cases k6 : o.kd = 6
  · have a1 := fun p => end_d p (W.TT.getD i default).r (W.TT.getD i default).s o.n
    have a2 := fun p => rend_d p (W.TT.getD i default).r (W.TT.getD i default).s o.n (by omega)
    by_cases c : o.n < 0 ∨ ((W.TT.getD i default).s.length : Int) ≤ o.n ∨ (W.TT.getD i default).s.getD o.n.toNat 0 < 0
    · simp only [if_pos c] at a1 a2
      exact go _ _ hr hs (step_end wb W.la W.lc _ _ _ _ (W.TT.map xy) o hp (by omega) (by omega) i hi hil _ _ _ _ _ _ k6 (a1 _) (a2 _))
    · simp only [if_neg c] at a1 a2
      exact go _ _ hr (by rw [List.length_set]; exact hs) (step_end wb W.la W.lc _ _ _ _ (W.TT.map xy) o hp (by omega) (by omega) i hi hil _ _ _ _ _ _ k6 (a1 _) (a2 _))
  by_cases k7 : o.kd = 7
  · have e : (W.TT.map xy).getD i default = xy (W.TT.getD i default) := by
      simp [List.getD_eq_getElem?_getD, hiT]
    obtain ⟨hF1, hF2, hF3⟩ := id h.fr
    have hd := step_round wb W.la W.lc W.fa W.wa W.fc W.wc (.slice W.xa W.Ls.length W.xc) (.slice W.ma W.Ms.length W.mc) (W.TT.map xy) o hp (by omega) (by omega) i hi hil (W.TT.getD i default).r (W.TT.getD i default).s hr W.Fr W.Wa (by omega) (by omega) k7
    rw [e] at hd
    refine does_conv (K := [starL thP (W.TT.eraseIdx i), starL frP W.Fr, starL ihP W.Wa, IH W.xa W.xc W.Ls, starL ihP W.Ls, SP W.ma W.mc W.Ms]) hd (fun g w F hS => ?_) fun x _ g w F hS => ?_
    · have h1 := ws_open hS
      have h2 : SL g (starL thP W.TT :: WRow wb W :: TH W.la W.lc (W.TT.map xy) :: FH W.fa W.fc W.Fr :: starL frP W.Fr :: IH W.wa W.wc W.Wa :: starL ihP W.Wa :: IH W.xa W.xc W.Ls :: starL ihP W.Ls :: SP W.ma W.mc W.Ms :: F) w := sl_keep [2, 0, 1, 3, 4, 5, 6, 7, 8, 9] rfl h1
      have h3 := starL_take default hiT h2
      have h4 := SL.flat.1 h3
      exact sl_keep (L := [SchedP (W.TT.getD i default).x (W.TT.getD i default).r (W.TT.getD i default).s, RefP (W.TT.getD i default).y (W.TT.getD i default).r (W.TT.getD i default).s, starL thP (W.TT.eraseIdx i), WRow wb W, TH W.la W.lc (W.TT.map xy), FH W.fa W.fc W.Fr, starL frP W.Fr, IH W.wa W.wc W.Wa, starL ihP W.Wa, IH W.xa W.xc W.Ls, starL ihP W.Ls, SP W.ma W.mc W.Ms]) [3, 4, 5, 7, 0, 1, 2, 6, 8, 9, 10, 11] rfl h4
    obtain ⟨⟨fa', fc'⟩, ⟨wa', wc'⟩, ⟨b1, b2⟩, ⟨c1, c1'⟩, c2, c2'⟩ := x
    obtain ⟨M, hM⟩ : ∃ M, (W.TT.getD i default).r.map (·.1) = M := ⟨_, rfl⟩
    have hML : M.length ≤ 64 := by rw [← hM, List.length_map]; exact hr
    dsimp only at hS
    rw [hM] at hS
    refine ⟨{ W with fa := fa', fc := fc', Fr := W.Fr ++ [(b1, M)] ++ [(b2, M)], wa := wa', wc := wc', Wa := W.Wa ++ [(c1, c1', M)] ++ [(c2, c2', M)] }, ⟨⟨by show W.TT.length ≤ n + 1; omega, h.ok, ⟨?_, ?_, fun j hj => ?_⟩, h.mkd, ?_⟩, ?_⟩, rfl, ?_⟩
    · show (W.Fr ++ _ ++ _).length ≤ 100
      simp only [List.length_append, List.length_singleton]; omega
    · show (W.Wa ++ _ ++ _).length = (W.Fr ++ _ ++ _).length
      simp only [List.length_append, List.length_singleton]; omega
    · show ((W.Wa ++ [(c1, c1', M)] ++ [(c2, c2', M)]).getD j default).2.2 = ((W.Fr ++ [(b1, M)] ++ [(b2, M)]).getD j default).2 ∧ ((W.Fr ++ [(b1, M)] ++ [(b2, M)]).getD j default).2.length ≤ 64
      have hj : j < W.Fr.length + 2 := by simpa using hj
      by_cases q1 : j < W.Fr.length
      · have e1 : (W.Wa ++ [(c1, c1', M)] ++ [(c2, c2', M)]).getD j default = W.Wa.getD j default := by
          rw [List.append_assoc, List.getD_eq_getElem?_getD, List.getElem?_append_left (by omega), ← List.getD_eq_getElem?_getD]
        have e2 : (W.Fr ++ [(b1, M)] ++ [(b2, M)]).getD j default = W.Fr.getD j default := by
          rw [List.append_assoc, List.getD_eq_getElem?_getD, List.getElem?_append_left (by omega), ← List.getD_eq_getElem?_getD]
        rw [e1, e2]
        exact hF3 j q1
      · have q2 : j = W.Fr.length ∨ j = W.Fr.length + 1 := by omega
        have e1 : (W.Wa ++ [(c1, c1', M)] ++ [(c2, c2', M)]).getD j default = [(c1, c1', M), (c2, c2', M)].getD (j - W.Fr.length) default := by
          rw [List.append_assoc, List.getD_eq_getElem?_getD, List.getElem?_append_right (by omega), hF2, ← List.getD_eq_getElem?_getD]; rfl
        have e2 : (W.Fr ++ [(b1, M)] ++ [(b2, M)]).getD j default = [(b1, M), (b2, M)].getD (j - W.Fr.length) default := by
          rw [List.append_assoc, List.getD_eq_getElem?_getD, List.getElem?_append_right (by omega), ← List.getD_eq_getElem?_getD]; rfl
        rw [e1, e2]
        rcases q2 with q2 | q2
        · rw [show j - W.Fr.length = 0 from by omega]; exact ⟨rfl, hML⟩
        · rw [show j - W.Fr.length = 1 from by omega]; exact ⟨rfl, hML⟩
    · show W.Ls.length + 4 * (W.Fr ++ _ ++ _).length ≤ 8 * (n + 1)
      simp only [List.length_append, List.length_singleton]; omega
    · show (W.Fr ++ _ ++ _).length ≤ W.Fr.length + 2
      simp only [List.length_append, List.length_singleton]; omega
    refine ws_shut ?_
    obtain ⟨F2, hF2'⟩ : ∃ F2, W.Fr ++ [(b1, M)] ++ [(b2, M)] = F2 := ⟨_, rfl⟩
    obtain ⟨W2, hW2'⟩ : ∃ W2, W.Wa ++ [(c1, c1', M)] ++ [(c2, c2', M)] = W2 := ⟨_, rfl⟩
    rw [hF2', hW2'] at hS
    rw [hF2', hW2']
    have h1 : SL g ([SchedP (W.TT.getD i default).x (W.TT.getD i default).r (W.TT.getD i default).s, RefP (W.TT.getD i default).y (W.TT.getD i default).r (W.TT.getD i default).s] ++ (starL thP (W.TT.eraseIdx i) :: WL2 wb W.la (W.TT.map xy).length W.lc fa' F2.length fc' wa' W2.length wc' (.slice W.xa W.Ls.length W.xc) (.slice W.ma W.Ms.length W.mc) :: TH W.la W.lc (W.TT.map xy) :: FH fa' fc' F2 :: IH wa' wc' W2 :: SP b1 M.length M :: SP b2 M.length M :: SP c1 c1' M :: SP c2 c2' M :: starL frP W.Fr :: starL ihP W.Wa :: IH W.xa W.xc W.Ls :: starL ihP W.Ls :: SP W.ma W.mc W.Ms :: F)) w := sl_keep (L := [WL2 wb W.la (W.TT.map xy).length W.lc fa' F2.length fc' wa' W2.length wc' (.slice W.xa W.Ls.length W.xc) (.slice W.ma W.Ms.length W.mc), TH W.la W.lc (W.TT.map xy), FH fa' fc' F2, IH wa' wc' W2, SchedP (W.TT.getD i default).x (W.TT.getD i default).r (W.TT.getD i default).s, RefP (W.TT.getD i default).y (W.TT.getD i default).r (W.TT.getD i default).s, SP b1 M.length M, SP b2 M.length M, SP c1 c1' M, SP c2 c2' M, starL thP (W.TT.eraseIdx i), starL frP W.Fr, starL ihP W.Wa, IH W.xa W.xc W.Ls, starL ihP W.Ls, SP W.ma W.mc W.Ms]) [4, 5, 10, 0, 1, 2, 3, 6, 7, 8, 9, 11, 12, 13, 14, 15] rfl hS
    have h2 : SL g (thP (W.TT.getD i default) :: starL thP (W.TT.eraseIdx i) :: _) w := SL.flat.2 h1
    have h3 := starL_perm (eraseD_perm default W.TT i hiT).symm (starL_cons.2 h2)
    have h4 : SL g (frP (b1, M) :: starL frP W.Fr :: frP (b2, M) :: ihP (c1, c1', M) :: starL ihP W.Wa :: ihP (c2, c2', M) :: WL2 wb W.la (W.TT.map xy).length W.lc fa' F2.length fc' wa' W2.length wc' (.slice W.xa W.Ls.length W.xc) (.slice W.ma W.Ms.length W.mc) :: TH W.la W.lc (W.TT.map xy) :: starL thP W.TT :: FH fa' fc' F2 :: IH wa' wc' W2 :: IH W.xa W.xc W.Ls :: starL ihP W.Ls :: SP W.ma W.mc W.Ms :: F) w := sl_keep (L := [starL thP W.TT, WL2 wb W.la (W.TT.map xy).length W.lc fa' F2.length fc' wa' W2.length wc' (.slice W.xa W.Ls.length W.xc) (.slice W.ma W.Ms.length W.mc), TH W.la W.lc (W.TT.map xy), FH fa' fc' F2, IH wa' wc' W2, SP b1 M.length M, SP b2 M.length M, SP c1 c1' M, SP c2 c2' M, starL frP W.Fr, starL ihP W.Wa, IH W.xa W.xc W.Ls, starL ihP W.Ls, SP W.ma W.mc W.Ms]) [5, 9, 6, 7, 10, 8, 1, 2, 0, 3, 4, 11, 12, 13] rfl h3
    have h5 := starL_one h4
    have h6 := starL_one (sl_keep (L := [starL frP (W.Fr ++ [(b1, M)]), frP (b2, M)]) [1, 0] rfl h5)
    rw [hF2'] at h6
    have h7 : SL g (ihP (c1, c1', M) :: starL ihP W.Wa :: ihP (c2, c2', M) :: starL frP F2 :: WL2 wb W.la (W.TT.map xy).length W.lc fa' F2.length fc' wa' W2.length wc' (.slice W.xa W.Ls.length W.xc) (.slice W.ma W.Ms.length W.mc) :: TH W.la W.lc (W.TT.map xy) :: starL thP W.TT :: FH fa' fc' F2 :: IH wa' wc' W2 :: IH W.xa W.xc W.Ls :: starL ihP W.Ls :: SP W.ma W.mc W.Ms :: F) w := sl_keep (L := [starL frP F2, ihP (c1, c1', M), starL ihP W.Wa, ihP (c2, c2', M)]) [1, 2, 3, 0] rfl h6
    have h8 := starL_one h7
    have h9 := starL_one (sl_keep (L := [starL ihP (W.Wa ++ [(c1, c1', M)]), ihP (c2, c2', M)]) [1, 0] rfl h8)
    rw [hW2'] at h9
    exact sl_keep (L := [starL ihP W2, starL frP F2, WL2 wb W.la (W.TT.map xy).length W.lc fa' F2.length fc' wa' W2.length wc' (.slice W.xa W.Ls.length W.xc) (.slice W.ma W.Ms.length W.mc), TH W.la W.lc (W.TT.map xy), starL thP W.TT, FH fa' fc' F2, IH wa' wc' W2, IH W.xa W.xc W.Ls, starL ihP W.Ls, SP W.ma W.mc W.Ms]) [2, 3, 4, 5, 1, 6, 0, 7, 8, 9] rfl h9
  · have hd := step_other wb W.la W.lc (.slice W.fa W.Fr.length W.fc) (.slice W.wa W.Wa.length W.wc) (.slice W.xa W.Ls.length W.xc) (.slice W.ma W.Ms.length W.mc) (W.TT.map xy) o hp (by omega) i (by omega) (by omega) hi hil
    exact does_conv (K := [starL thP W.TT, FH W.fa W.fc W.Fr, starL frP W.Fr, IH W.wa W.wc W.Wa, starL ihP W.Wa, IH W.xa W.xc W.Ls, starL ihP W.Ls, SP W.ma W.mc W.Ms]) (ret_e hd) (fun g w F hS => ws_open hS) fun _ _ g w F hS => ⟨W, ⟨Wok.same h hn W h, by omega⟩, rfl, ws_shut hS⟩
end
end Go.Proofs.Ytijjficnhpokdaa

/- The sched law's World: settle and looks over the whole. -/
namespace Go.Proofs.Ytijjficnhpokdaa
open Go.Sl Go.Xg
set_option linter.unusedVariables false
set_option linter.unusedSimpArgs false
set_option linter.unusedSectionVars false
set_option linter.unnecessarySimpa false
set_option maxHeartbeats 4000000
set_option maxRecDepth 100000

theorem settle_w {wb : Nat} {W : Wst} {n : Nat} (h : Wok n W) (hn : n ≤ 10000000) : Does Try.prog 20 [.pointer (some ⟨wb, 0, none⟩)] [WS wb W] (RetE (fun W' : Wst => Wok n W' ∧ W'.Fr.length = 0) (fun _ => .bool true) (fun W' => [WS wb W'])) := by
  have hl := h.l
  refine does_conv (K := [TH W.la W.lc (W.TT.map xy), starL thP W.TT]) (settle_d wb (.slice W.la (W.TT.map xy).length W.lc) W.fa W.wa W.xa W.ma W.fc W.wc W.xc W.mc W.Fr W.Wa W.Ls W.Ms h.fr h.mkd (by omega)) (fun g w F hS => ?_) fun x hx g w F hS => ?_
  · have h1 := ws_open hS
    exact sl_keep (L := [WRow wb W, TH W.la W.lc (W.TT.map xy), starL thP W.TT, FH W.fa W.fc W.Fr, starL frP W.Fr, IH W.wa W.wc W.Wa, starL ihP W.Wa, IH W.xa W.xc W.Ls, starL ihP W.Ls, SP W.ma W.mc W.Ms]) [0, 3, 4, 5, 6, 7, 8, 9, 1, 2] rfl h1
  · obtain ⟨⟨xa, xc, Ls⟩, ma, mc, Ms⟩ := x
    obtain ⟨hm, hx2⟩ := hx
    dsimp only at hm hx2 hS
    refine ⟨{ W with fa := none, fc := 0, Fr := [], wa := none, wc := 0, Wa := [], xa := xa, xc := xc, Ls := Ls, ma := ma, mc := mc, Ms := Ms }, ⟨⟨h.t, h.ok, ⟨Nat.zero_le _, rfl, fun j hj => by cases hj⟩, hm, by show Ls.length + 4 * 0 ≤ 8 * n; omega⟩, rfl⟩, rfl, ?_⟩
    refine ws_shut ?_
    have h1 : SL g (FH none 0 [] :: _) w := hS.own_nil 24 1
    have h2 : SL g (IH none 0 [] :: _) w := h1.own_nil 24 1
    have h3 := (starL_nil (f := frP)).2 h2
    have h4 := (starL_nil (f := ihP)).2 h3
    exact sl_keep (L := [starL ihP [], starL frP [], IH none 0 [], FH none 0 [], WR wb (.slice W.la (W.TT.map xy).length W.lc) none 0 0 none 0 0 xa Ls.length xc ma Ms.length mc, IH xa xc Ls, starL ihP Ls, SP ma mc Ms, TH W.la W.lc (W.TT.map xy), starL thP W.TT]) [4, 8, 9, 3, 1, 2, 0, 5, 6, 7] rfl h4
theorem looks_w {wb : Nat} {W : Wst} {n : Nat} (h : Wok n W) (hn : n ≤ 10000000) : Does Try.prog 21 [.pointer (some ⟨wb, 0, none⟩)] [WS wb W] (Ret (.bool true) [WS wb W]) := by
  have hl := h.l
  have hd := does_conv (q := fun _ : Unit => True) (V' := fun _ => .bool true) (QS := fun _ => [WS wb W]) (K := [TH W.la W.lc (W.TT.map xy), starL thP W.TT, FH W.fa W.fc W.Fr, starL frP W.Fr, IH W.wa W.wc W.Wa, starL ihP W.Wa]) (pre := [WS wb W]) (ret_e (looks_d wb (.slice W.la (W.TT.map xy).length W.lc) (.slice W.fa W.Fr.length W.fc) (.slice W.wa W.Wa.length W.wc) W.xa W.ma W.xc W.mc W.Ls W.Ms h.mkd (by omega))) (fun g w F hS => sl_keep (L := [WRow wb W, TH W.la W.lc (W.TT.map xy), starL thP W.TT, FH W.fa W.fc W.Fr, starL frP W.Fr, IH W.wa W.wc W.Wa, starL ihP W.Wa, IH W.xa W.xc W.Ls, starL ihP W.Ls, SP W.ma W.mc W.Ms]) [0, 7, 8, 9, 1, 2, 3, 4, 5, 6] rfl (ws_open hS)) fun _ _ g w F hS => ⟨(), trivial, rfl, ws_shut (sl_keep (L := [WRow wb W, IH W.xa W.xc W.Ls, starL ihP W.Ls, SP W.ma W.mc W.Ms, TH W.la W.lc (W.TT.map xy), starL thP W.TT, FH W.fa W.fc W.Fr, starL frP W.Fr, IH W.wa W.wc W.Wa, starL ihP W.Wa]) [0, 4, 5, 6, 7, 8, 9, 1, 2, 3] rfl hS)⟩
  exact hd.mono fun v ps ⟨_, _, e1, e2⟩ => ⟨e1, e2⟩
end Go.Proofs.Ytijjficnhpokdaa

/- The sched law itself, any calls. -/
namespace Go.Proofs.Ytijjficnhpokdaa
open Go.Sl Go.Xg
set_option linter.unusedVariables false
set_option linter.unusedSimpArgs false
set_option linter.unusedSectionVars false
set_option linter.unnecessarySimpa false
set_option maxHeartbeats 4000000
set_option maxRecDepth 100000

abbrev SO (a : Option Addr) (c : Nat) (l : List Sp) : HP := recsO 53 4 spC a c l
def firstL : List Sp := [⟨1, 0, 2, false⟩, ⟨2, 0, 5, false⟩, ⟨2, 0, 7, false⟩, ⟨4, 0, 7, true⟩, ⟨5, 0, 1, false⟩, ⟨7, 0, 0, false⟩]
theorem first_d : Does Try.prog 18 [] [] (RetE (fun x : Option Addr × Nat => True) (fun x => .slice x.1 firstL.length x.2) (fun x => [SO x.1 x.2 firstL])) := by
  have h0 : Does Try.prog 18 [] [] (RetE (fun x : Nat => True) (fun x => .slice (some ⟨x, 0, none⟩) 6 6) (fun x => [row x 53 [.int .i64 1, .int .i64 0, .int .i64 2, .bool false, .int .i64 2, .int .i64 0, .int .i64 5, .bool false, .int .i64 2, .int .i64 0, .int .i64 7, .bool false, .int .i64 4, .int .i64 0, .int .i64 7, .bool true, .int .i64 5, .int .i64 0, .int .i64 1, .bool false, .int .i64 7, .int .i64 0, .int .i64 0, .bool false]])) := by
    (focus
      refine Xg.spec_of Go.Proofs.Try.func18 rfl Go.Proofs.Try.ntmps18 fun g F => ?_)
    (focus
      refine Xg.at_seq ?_
      refine Xg.at_region ?_
      refine Xg.ops_op (by kernel_rfl) (Xg.opx_pure ((Value.slice none (0 : Nat) (0 : Nat))) rfl (fun _ => by kernel_rfl) ?_)
      refine Xg.ops_nil ?_
      refine Xg.at_seq ?_
      refine Xg.at_region ?_
      refine Xg.ops_op (by kernel_rfl) (Xg.opx_pure ((Value.agg #[iv 1, iv 0, iv 2, Value.bool false])) rfl (fun _ => by kernel_rfl) ?_)
      refine Xg.ops_op (by kernel_rfl) (Xg.opx_pure ((Value.agg #[iv 2, iv 0, iv 5, Value.bool false])) rfl (fun _ => by kernel_rfl) ?_)
      refine Xg.ops_op (by kernel_rfl) (Xg.opx_pure ((Value.agg #[iv 2, iv 0, iv 7, Value.bool false])) rfl (fun _ => by kernel_rfl) ?_)
      refine Xg.ops_op (by kernel_rfl) (Xg.opx_pure ((Value.agg #[iv 4, iv 0, iv 7, Value.bool true])) rfl (fun _ => by kernel_rfl) ?_)
      refine Xg.ops_op (by kernel_rfl) (Xg.opx_pure ((Value.agg #[iv 5, iv 0, iv 1, Value.bool false])) rfl (fun _ => by kernel_rfl) ?_)
      refine Xg.ops_op (by kernel_rfl) (Xg.opx_pure ((Value.agg #[iv 7, iv 0, iv 0, Value.bool false])) rfl (fun _ => by kernel_rfl) ?_)
      refine Xg.ops_op (by kernel_rfl) (Xg.opx_bs (elem := 53) 4 [Value.agg #[iv 1, iv 0, iv 2, Value.bool false], Value.agg #[iv 2, iv 0, iv 5, Value.bool false], Value.agg #[iv 2, iv 0, iv 7, Value.bool false], Value.agg #[iv 4, iv 0, iv 7, Value.bool true], Value.agg #[iv 5, iv 0, iv 1, Value.bool false], Value.agg #[iv 7, iv 0, iv 0, Value.bool false]] [iv 1, iv 0, iv 2, Value.bool false, iv 2, iv 0, iv 5, Value.bool false, iv 2, iv 0, iv 7, Value.bool false, iv 4, iv 0, iv 7, Value.bool true, iv 5, iv 0, iv 1, Value.bool false, iv 7, iv 0, iv 0, Value.bool false] (by kernel_rfl) (by kernel_rfl) (by decide) rfl (by kernel_rfl) (by kernel_rfl) (by kernel_rfl) (by kernel_rfl) fun xb1 => ?_)
      refine Xg.ops_op (by kernel_rfl) (Xg.opx_pure ((Value.slice (some (Addr.mk xb1 (0 : Nat) none)) (6 : Nat) (6 : Nat))) rfl (fun _ => by kernel_rfl) ?_)
      refine Xg.ops_nil ?_
      refine Xg.at_ret_ps (v := (Value.slice (some (Addr.mk xb1 (0 : Nat) none)) (6 : Nat) (6 : Nat))) [0] [row xb1 (53 : TypeId) [iv 1, iv 0, iv 2, Value.bool false, iv 2, iv 0, iv 5, Value.bool false, iv 2, iv 0, iv 7, Value.bool false, iv 4, iv 0, iv 7, Value.bool true, iv 5, iv 0, iv 1, Value.bool false, iv 7, iv 0, iv 0, Value.bool false]] Go.Proofs.Try.func18 (fun _ => by kernel_rfl) (by kernel_rfl) (by kernel_rfl) ?_
      refine ⟨xb1, trivial, by kernel_rfl, by kernel_rfl⟩)
  exact does_conv (K := []) h0 (fun g w F hS => hS) fun x _ g w F hS => ⟨(some ⟨x, 0, none⟩, 6), trivial, rfl, SL.own_some (vs := recs spC firstL) (sp := []) (n := firstL.length) (sz := 4) hS rfl (Nat.le_refl _) (show (6 : Nat) ≤ maxLen by unfold maxLen; decide) rfl⟩
theorem firstL_len : firstL.length = 6 := rfl
theorem firstL_ok (i : Nat) (h : i < 6) : i64ok (firstL.getD i default).p := by
  rcases (show i = 0 ∨ i = 1 ∨ i = 2 ∨ i = 3 ∨ i = 4 ∨ i = 5 by omega) with e | e | e | e | e | e <;> subst e <;> exact ⟨by decide, by decide⟩
theorem spC_one (xs : List Sp) : (recs spC xs).all (·.oneCell') = true := by
  induction xs with
  | nil => rfl
  | cons o l ih => exact ih
/-- The first, then the script. -/
theorem all_ok (xs : List Sp) (m : Nat) (hm : xs.length = m) (hB : ∀ i, i < m → i64ok (xs.getD i default).p) (i : Nat) (hi : i < (firstL ++ xs).length) : i64ok ((firstL ++ xs).getD i default).p := by
  rw [List.length_append, firstL_len] at hi
  by_cases h : i < 6
  · rw [List.getD_eq_getElem?_getD, List.getElem?_append_left (by rw [firstL_len]; exact h), ← List.getD_eq_getElem?_getD]
    exact firstL_ok i h
  · rw [List.getD_eq_getElem?_getD, List.getElem?_append_right (by rw [firstL_len]; omega), ← List.getD_eq_getElem?_getD, firstL_len]
    exact hB _ (by omega)
def W0 : Wst := ⟨none, 0, [], none, 0, [], none, 0, [], none, 0, [], none, 0, []⟩
theorem wok0 : Wok 0 W0 := ⟨Nat.le_refl _, (fun i hi => by cases hi), ⟨Nat.zero_le _, rfl, (fun j hj => by cases hj)⟩, ⟨rfl, (fun i hi => by cases hi)⟩, Nat.le_refl _⟩
theorem at_ws0 {f : FuncId} {g : World} {F : List HP} {R : Ending → World → Prop} {k : List Item} {T : List Value} {L : List HP} {wb : Nat} (h : At Try.prog f g F R k T (WS wb W0 :: L)) : At Try.prog f g F R k T (row wb 50 [.slice none 0 0, .slice none 0 0, .slice none 0 0, .slice none 0 0, .slice none 0 0] :: L) :=
  h.sl fun w hS => by
    refine ws_shut (wb := wb) (W := W0) (F := L ++ F) ?_
    have h1 : SL g (TH none 0 [] :: _) w := hS.own_nil 74 2
    have h2 : SL g (FH none 0 [] :: _) w := h1.own_nil 24 1
    have h3 : SL g (IH none 0 [] :: _) w := h2.own_nil 24 1
    have h4 : SL g (SP none 0 [] :: _) w := h3.own_nil 3 1
    have h5 := (starL_nil (f := thP)).2 h4
    have h6 := (starL_nil (f := frP)).2 h5
    have h7 := (starL_nil (f := ihP)).2 h6
    have h8 : SL g (IH none 0 [] :: _) w := h7.own_nil 24 1
    have h9 := (starL_nil (f := ihP)).2 h8
    exact sl_keep (L := [starL ihP [], IH none 0 [], starL ihP [], starL frP [], starL thP [], SP none 0 [], IH none 0 [], FH none 0 [], TH none 0 [], row wb 50 [.slice none 0 0, .slice none 0 0, .slice none 0 0, .slice none 0 0, .slice none 0 0]]) [9, 8, 4, 7, 3, 6, 2, 1, 0, 5] rfl h9
/-- All of the World but its own row. -/
def WK (W : Wst) : HP := seps [TH W.la W.lc (W.TT.map xy), starL thP W.TT, FH W.fa W.fc W.Fr, starL frP W.Fr, IH W.wa W.wc W.Wa, starL ihP W.Wa, IH W.xa W.xc W.Ls, starL ihP W.Ls, SP W.ma W.mc W.Ms]
theorem wk_open {wb : Nat} {W : Wst} {g w : World} {F : List HP} (h : SL g (WS wb W :: F) w) : SL g (WRow wb W :: WK W :: F) w := by
  have h1 : SL g ([WRow wb W, TH W.la W.lc (W.TT.map xy), starL thP W.TT, FH W.fa W.fc W.Fr, starL frP W.Fr, IH W.wa W.wc W.Wa, starL ihP W.Wa, IH W.xa W.xc W.Ls, starL ihP W.Ls, SP W.ma W.mc W.Ms] ++ F) w := ws_open h
  have h2 : SL g ([TH W.la W.lc (W.TT.map xy), starL thP W.TT, FH W.fa W.fc W.Fr, starL frP W.Fr, IH W.wa W.wc W.Wa, starL ihP W.Wa, IH W.xa W.xc W.Ls, starL ihP W.Ls, SP W.ma W.mc W.Ms] ++ (WRow wb W :: F)) w := sl_keep (L := [WRow wb W, TH W.la W.lc (W.TT.map xy), starL thP W.TT, FH W.fa W.fc W.Fr, starL frP W.Fr, IH W.wa W.wc W.Wa, starL ihP W.Wa, IH W.xa W.xc W.Ls, starL ihP W.Ls, SP W.ma W.mc W.Ms]) [1, 2, 3, 4, 5, 6, 7, 8, 9, 0] rfl h1
  have h3 : SL g (WK W :: WRow wb W :: F) w := SL.flat.2 h2
  exact sl_keep (L := [WK W, WRow wb W]) [1, 0] rfl h3
theorem wk_shut {wb : Nat} {W : Wst} {g w : World} {F : List HP} (h : SL g (WRow wb W :: WK W :: F) w) : SL g (WS wb W :: F) w := by
  have h1 : SL g (WK W :: WRow wb W :: F) w := sl_keep (L := [WRow wb W, WK W]) [1, 0] rfl h
  have h2 : SL g ([TH W.la W.lc (W.TT.map xy), starL thP W.TT, FH W.fa W.fc W.Fr, starL frP W.Fr, IH W.wa W.wc W.Wa, starL ihP W.Wa, IH W.xa W.xc W.Ls, starL ihP W.Ls, SP W.ma W.mc W.Ms] ++ (WRow wb W :: F)) w := SL.flat.1 h1
  exact ws_shut (sl_keep (L := [TH W.la W.lc (W.TT.map xy), starL thP W.TT, FH W.fa W.fc W.Fr, starL frP W.Fr, IH W.wa W.wc W.Wa, starL ihP W.Wa, IH W.xa W.xc W.Ls, starL ihP W.Ls, SP W.ma W.mc W.Ms, WRow wb W]) [9, 0, 1, 2, 3, 4, 5, 6, 7, 8] rfl h2)
section
variable {f : FuncId} {g : World} {F : List HP} {R : Ending → World → Prop} {k : List Item} {T : List Value} {L : List HP} {wb : Nat} {W : Wst} {all rem : List Oper} {K : List Value → List HP → Prop}
theorem ops_wk (h : Ops Try.prog g F all K rem T (WRow wb W :: WK W :: L)) : Ops Try.prog g F all K rem T (WS wb W :: L) := ⟨fun w hS => h.run w (wk_open hS)⟩
theorem ops_kw (h : Ops Try.prog g F all K rem T (WS wb W :: L)) : Ops Try.prog g F all K rem T (WRow wb W :: WK W :: L) := ⟨fun w hS => h.run w (wk_shut hS)⟩
end
theorem pall_d (A : HP) (a : Option Addr) (m c : Nat) (xs : List Sp) (hm : xs.length = m) (hmx : m ≤ 1048576) (hR : Reads A 4 (.slice a m c) m (recs spC xs)) (hB : ∀ i, i < m → i64ok (xs.getD i default).p) :
    Does Try.prog 7 [.slice a m c] [A] (Ret (.bool true) [A]) := by
  (focus
    refine Xg.spec_of Go.Proofs.Try.func7 rfl Go.Proofs.Try.ntmps7 fun g F => ?_)
  have hlf := firstL_len
  have hf := first_d
  obtain ⟨Fi, hFi⟩ : ∃ Fi, firstL = Fi := ⟨_, rfl⟩
  have hok := all_ok xs m hm hB
  rw [hFi] at hf hlf hok
  (focus
    refine Xg.at_seq ?_
    refine Xg.at_region ?_
    refine Xg.ops_op (by kernel_rfl) (Xg.opx_pure ((Value.bool false)) rfl (fun _ => by kernel_rfl) ?_)
    refine Xg.ops_nil ?_
    refine Xg.at_seq ?_
    refine Xg.at_region ?_
    refine Xg.ops_op (by kernel_rfl) (Xg.opx_callE' [] (fun xx1 => [SO xx1.fst xx1.snd Fi, A]) (fun _ => by kernel_rfl) (@hf ) (by kernel_rfl) (by kernel_rfl) (by kernel_rfl) fun xx1 xh1 => ?_)
    try dsimp only at xh1
    refine Xg.ops_op (by kernel_rfl) (Xg.opx_pure ((Value.slice xx1.fst Fi.length xx1.snd)) rfl (fun _ => by kernel_rfl) ?_)
    refine Xg.ops_nil ?_
    refine Xg.at_seq ?_
    refine Xg.at_region ?_
    refine Xg.ops_op (by kernel_rfl) (Xg.opx_pure ((Value.slice xx1.fst Fi.length xx1.snd)) rfl (fun _ => by kernel_rfl) ?_)
    refine Xg.ops_op (by kernel_rfl) (Xg.opx_pure ((Value.slice a m c)) rfl (fun _ => by kernel_rfl) ?_))
  refine Xg.ops_op (by kernel_rfl) (Xg.opx_append_recsN (elem := 53) (yv := .slice a m c) (l := Fi) 0 4 128 m xs rfl (by kernel_rfl) (by kernel_rfl) (by kernel_rfl) (by kernel_rfl) hm (fun w hS => reads_rd hR 1 rfl hS) (spC_one xs) (by omega) (by omega) fun aa ac => ?_)
  have hln : (Fi ++ xs).length = 6 + m := by rw [List.length_append]; omega
  obtain ⟨S, hS⟩ : ∃ S, Fi ++ xs = S := ⟨_, rfl⟩
  rw [hS] at hln hok ⊢
  (focus
    refine Xg.ops_op (by kernel_rfl) (Xg.opx_pure ((Value.slice aa S.length ac)) rfl (fun _ => by kernel_rfl) ?_)
    refine Xg.ops_nil ?_
    refine Xg.at_seq ?_
    refine Xg.at_region ?_
    refine Xg.ops_op (by kernel_rfl) (Xg.opx_pure ((Value.agg #[Value.slice none (0 : Nat) (0 : Nat), Value.slice none (0 : Nat) (0 : Nat), Value.slice none (0 : Nat) (0 : Nat), Value.slice none (0 : Nat) (0 : Nat), Value.slice none (0 : Nat) (0 : Nat)])) rfl (fun _ => by kernel_rfl) ?_)
    refine Xg.ops_op (by kernel_rfl) (Xg.opx_box (v := (Value.agg #[Value.slice none (0 : Nat) (0 : Nat), Value.slice none (0 : Nat) (0 : Nat), Value.slice none (0 : Nat) (0 : Nat), Value.slice none (0 : Nat) (0 : Nat), Value.slice none (0 : Nat) (0 : Nat)])) [Value.slice none (0 : Nat) (0 : Nat), Value.slice none (0 : Nat) (0 : Nat), Value.slice none (0 : Nat) (0 : Nat), Value.slice none (0 : Nat) (0 : Nat), Value.slice none (0 : Nat) (0 : Nat)] (by kernel_rfl) (by kernel_rfl) fun xb1 => ?_)
    refine Xg.ops_op (by kernel_rfl) (Xg.opx_pure ((pv xb1 0)) rfl (fun _ => by kernel_rfl) ?_)
    refine Xg.ops_nil ?_
    refine Xg.at_seq ?_
    refine Xg.at_region ?_
    refine Xg.ops_op (by kernel_rfl) (Xg.opx_pure ((Value.bool true)) rfl (fun _ => by kernel_rfl) ?_)
    refine Xg.ops_nil ?_
    refine Xg.at_seq ?_
    refine Xg.at_seq ?_
    refine Xg.at_region ?_
    refine Xg.ops_op (by kernel_rfl) (Xg.opx_pure ((iv 0)) rfl (fun _ => by kernel_rfl) ?_)
    refine Xg.ops_nil ?_
    refine Xg.at_block ?_)
  refine at_ws0 ?_
  (focus
    refine Xg.at_rounds_inv (α := (Nat × Wst) × (Nat → Value)) (fun x => ((fun x => x.1 ≤ S.length ∧ Wok x.1 x.2 ∧ x.2.Fr.length ≤ 4) : (Nat × Wst) → Prop) x.1) (fun x => ((fun x => S.length - x.1) : (Nat × Wst) → Nat) x.1) (fun x => Xg.headT [Value.slice a m c, tu, Value.bool false, Value.slice aa S.length ac, pv xb1 0, Value.bool true, iv 0, Value.slice xx1.fst Fi.length xx1.snd, Value.slice xx1.fst Fi.length xx1.snd, Value.slice a m c, Value.slice aa S.length ac, Value.agg #[Value.slice none (0 : Nat) (0 : Nat), Value.slice none (0 : Nat) (0 : Nat), Value.slice none (0 : Nat) (0 : Nat), Value.slice none (0 : Nat) (0 : Nat), Value.slice none (0 : Nat) (0 : Nat)], pv xb1 0, tu, tu, tu, tu, tu, tu, tu, tu, tu, tu, tu, tu, tu, tu, tu, tu, tu, tu, tu, tu, tu, tu, tu, tu, tu, tu, tu, tu, tu, tu, tu, tu, tu, tu] [13, 14, 15, 16, 17, 18, 19, 20, 21, 22, 23, 24, 25, 26, 27, 28, 29, 30, 31, 32, 33, 34, 35, 36, 37, 38, 39, 40, 41] (((fun x => [(6, .int .i64 (x.1 : Nat)), (5, .bool true)]) : (Nat × Wst) → List (Nat × Go.Value)) x.1) x.2) (fun x => ((fun x => [WS xb1 x.2, SO aa ac S, A]) : (Nat × Wst) → List Go.Sl.HP) x.1) (((0, W0)), fun j9 => ([Value.slice a m c, tu, Value.bool false, Value.slice aa S.length ac, pv xb1 0, Value.bool true, iv 0, Value.slice xx1.fst Fi.length xx1.snd, Value.slice xx1.fst Fi.length xx1.snd, Value.slice a m c, Value.slice aa S.length ac, Value.agg #[Value.slice none (0 : Nat) (0 : Nat), Value.slice none (0 : Nat) (0 : Nat), Value.slice none (0 : Nat) (0 : Nat), Value.slice none (0 : Nat) (0 : Nat), Value.slice none (0 : Nat) (0 : Nat)], pv xb1 0, tu, tu, tu, tu, tu, tu, tu, tu, tu, tu, tu, tu, tu, tu, tu, tu, tu, tu, tu, tu, tu, tu, tu, tu, tu, tu, tu, tu, tu, tu, tu, tu, tu, tu] : List Value).getD j9 undef) (by kernel_rfl) (by kernel_rfl) ?_ ?_)
  · exact ⟨Nat.zero_le _, wok0, Nat.zero_le _⟩
  rintro ⟨⟨i, W⟩, J⟩ hI ih
  obtain ⟨hi, hW, hF⟩ := hI
  dsimp only at hi hW hF
  (focus
    refine Xg.At.same (T' := [Value.slice a m c, tu, Value.bool false, Value.slice aa S.length ac, pv xb1 0, Value.bool true, iv (↑i : Int), Value.slice xx1.fst Fi.length xx1.snd, Value.slice xx1.fst Fi.length xx1.snd, Value.slice a m c, Value.slice aa S.length ac, Value.agg #[Value.slice none (0 : Nat) (0 : Nat), Value.slice none (0 : Nat) (0 : Nat), Value.slice none (0 : Nat) (0 : Nat), Value.slice none (0 : Nat) (0 : Nat), Value.slice none (0 : Nat) (0 : Nat)], pv xb1 0, J 13, J 14, J 15, J 16, J 17, J 18, J 19, J 20, J 21, J 22, J 23, J 24, J 25, J 26, J 27, J 28, J 29, J 30, J 31, J 32, J 33, J 34, J 35, J 36, J 37, J 38, J 39, J 40, J 41, tu, tu, tu, tu, tu]) (L' := [WS xb1 ((i, W), J).fst.snd, SO aa ac S, A]) (by kernel_rfl) rfl ?_)
  by_cases hlt : i < S.length
  · have hst2 := step_w (wb := xb1) hW (by omega) (S.getD i default) (hok i hlt) hF
    unfold StepPost at hst2
    (focus
      refine Xg.at_seq ?_
      refine Xg.at_seq ?_
      refine Xg.at_region ?_
      refine Xg.ops_op (by kernel_rfl) (Xg.opx_pure ((iv (↑i : Int))) rfl (fun _ => by kernel_rfl) ?_)
      refine Xg.ops_op (by kernel_rfl) (Xg.opx_pure ((Value.slice aa S.length ac)) rfl (fun _ => by kernel_rfl) ?_)
      refine Xg.ops_op (by kernel_rfl) (Xg.opx_pure ((iv (↑S.length : Int))) rfl (fun _ => by kernel_rfl) ?_)
      refine Xg.ops_op (by kernel_rfl) (Xg.opx_pure (.bool (decide ((((↑i : Int)) : Int) < ((↑S.length : Int))))) rfl (fun _ => by kernel_rfl) ?_)
      refine Xg.ops_op (by kernel_rfl) (Xg.opx_pure ((Value.bool (decide ((↑i : Int) < (↑S.length : Int))))) rfl (fun _ => by kernel_rfl) ?_)
      refine Xg.ops_flag (j := 17) (c := (decide ((↑i : Int) < (↑S.length : Int)))) (by kernel_rfl) (fun _ => ?_) (fun xh2 => absurd (of_decide_eq_false xh2) (by omega))
      refine Xg.ops_op (by kernel_rfl) (Xg.opx_pure ((Value.bool true)) rfl (fun _ => by kernel_rfl) ?_)
      refine Xg.ops_op (by kernel_rfl) (Xg.opx_pure ((Value.bool true)) rfl (fun _ => by kernel_rfl) ?_)
      refine Xg.ops_nil ?_
      refine Xg.at_true (t := true) (by kernel_rfl) rfl ?_
      refine Xg.at_skip ?_
      refine Xg.at_seq ?_
      refine Xg.at_block ?_
      refine Xg.at_seq ?_
      refine Xg.at_region ?_
      refine Xg.ops_op (by kernel_rfl) (Xg.opx_pure ((pv xb1 0)) rfl (fun _ => by kernel_rfl) ?_)
      refine Xg.ops_op (by kernel_rfl) (Xg.opx_pure ((Value.slice aa S.length ac)) rfl (fun _ => by kernel_rfl) ?_)
      refine Xg.ops_op (by kernel_rfl) (Xg.opx_pure ((iv (↑i : Int))) rfl (fun _ => by kernel_rfl) ?_)
      refine Xg.ops_op (by kernel_rfl) (Xg.opx_ix_own (elem := 53) (kd := .i64) (e := ((↑i : Int))) 1 4 i (i * (4 : Nat)) rfl (by kernel_rfl) (by kernel_rfl) (by kernel_rfl) (by kernel_rfl) rfl (by omega) (by omega) ?_)
      refine Xg.ops_op (by kernel_rfl) (Xg.opx_loadn_own (a := aa) (off := (i * (4 : Nat))) 4 1 [iv (S.getD i default).kd, iv (S.getD i default).p, iv (S.getD i default).n, Value.bool (S.getD i default).b] (by kernel_rfl) rfl (by kernel_rfl) rfl (Xg.recs_at' (wd := 4) (fun _ => rfl) default i (by omega) (by omega) (by kernel_rfl)) (by kernel_rfl) ?_)
      refine Xg.ops_op (by kernel_rfl) (Xg.opx_callE' [0] (fun xx2 => [WS xb1 xx2, SO aa ac S, A]) (fun _ => by kernel_rfl) (@hst2 ) (by kernel_rfl) (by kernel_rfl) (by kernel_rfl) fun xx2 xh2 => ?_)
      try dsimp only at xh2
      obtain ⟨xh2_0, xh2_1⟩ := xh2
      refine Xg.ops_op (by kernel_rfl) (Xg.opx_pure ((Value.bool true)) rfl (fun _ => by kernel_rfl) ?_)
      refine Xg.ops_nil ?_
      refine Xg.at_seq ?_
      refine Xg.at_seq ?_
      refine Xg.at_region ?_
      refine Xg.ops_op (by kernel_rfl) (Xg.opx_pure ((Value.bool true)) rfl (fun _ => by kernel_rfl) ?_)
      refine Xg.ops_op (by kernel_rfl) (Xg.opx_pure ((Value.bool true)) rfl (fun _ => by kernel_rfl) ?_)
      refine Xg.ops_op (by kernel_rfl) (Xg.opx_pure ((pv xb1 0)) rfl (fun _ => by kernel_rfl) ?_)
      refine Xg.ops_op (by kernel_rfl) (Xg.opx_pure ((pv xb1 0)) rfl (fun _ => by kernel_rfl) ?_)
      refine Xg.ops_op (by kernel_rfl) (Xg.opx_pure ((pv xb1 1)) rfl (fun _ => by kernel_rfl) ?_))
    have hW2 := xh2_0
    have hF2 := xh2_1
    refine ops_wk ?_
    by_cases h4 : 4 < xx2.Fr.length
    · (focus
        refine Xg.ops_op (by kernel_rfl) (Xg.opx_load (b := xb1) (off := ((1 : Nat))) 0 (Value.slice xx2.fa xx2.Fr.length xx2.fc) rfl (by kernel_rfl) (by kernel_rfl) (by kernel_rfl) ?_)
        refine Xg.ops_op (by kernel_rfl) (Xg.opx_pure ((iv (↑xx2.Fr.length : Int))) rfl (fun _ => by kernel_rfl) ?_)
        refine Xg.ops_op (by kernel_rfl) (Xg.opx_pure (.bool (decide ((((↑xx2.Fr.length : Int)) : Int) > ((4 : Int))))) rfl (fun _ => by kernel_rfl) ?_)
        refine Xg.ops_flag (j := 35) (c := (decide ((↑xx2.Fr.length : Int) > (4 : Int)))) (by kernel_rfl) (fun _ => ?_) (fun xh3 => absurd (of_decide_eq_false xh3) (by omega))
        refine Xg.ops_op (by kernel_rfl) (Xg.opx_pure ((Value.bool true)) rfl (fun _ => by kernel_rfl) ?_)
        refine Xg.ops_nil ?_
        refine Xg.at_true (t := true) (by kernel_rfl) rfl ?_
        refine Xg.at_region ?_
        refine Xg.ops_op (by kernel_rfl) (Xg.opx_pure ((pv xb1 0)) rfl (fun _ => by kernel_rfl) ?_))
      refine ops_kw ?_
      have hse := settle_w (wb := xb1) hW2 (by omega)
      (focus
        refine Xg.ops_op (by kernel_rfl) (Xg.opx_callE' [0] (fun xx3 => [WS xb1 xx3, SO aa ac S, A]) (fun _ => by kernel_rfl) (@hse ) (by kernel_rfl) (by kernel_rfl) (by kernel_rfl) fun xx3 xh3 => ?_)
        try dsimp only at xh3
        obtain ⟨xh3_0, xh3_1⟩ := xh3
        refine Xg.ops_op (by kernel_rfl) (Xg.opx_pure ((Value.bool true)) rfl (fun _ => by kernel_rfl) ?_)
        refine Xg.ops_nil ?_
        refine Xg.at_seq ?_
        refine Xg.at_region ?_
        refine Xg.ops_op (by kernel_rfl) (Xg.opx_pure ((Value.bool true)) rfl (fun _ => by kernel_rfl) ?_)
        refine Xg.ops_nil ?_
        refine Xg.at_true (t := true) (by kernel_rfl) rfl ?_
        refine Xg.at_region ?_
        refine Xg.ops_op (by kernel_rfl) (Xg.opx_pure ((pv xb1 0)) rfl (fun _ => by kernel_rfl) ?_))
      have hlk := looks_w (wb := xb1) xh3_0 (by omega)
      (focus
        refine Xg.ops_op (by kernel_rfl) (Xg.opx_call1' [0] [WS xb1 xx3, SO aa ac S, A] (fun _ => by kernel_rfl) (@hlk ) (by kernel_rfl) (by kernel_rfl) (by kernel_rfl) ?_)
        refine Xg.ops_op (by kernel_rfl) (Xg.opx_pure ((Value.bool true)) rfl (fun _ => by kernel_rfl) ?_)
        refine Xg.ops_nil ?_
        refine Xg.at_inBlock ?_
        refine Xg.at_region ?_
        refine Xg.ops_op (by kernel_rfl) (Xg.opx_pure ((iv (↑i : Int))) rfl (fun _ => by kernel_rfl) ?_)
        refine Xg.ops_op (by kernel_rfl) (Xg.opx_int .i64 (IntKind.wrap .i64 (((↑i : Int) + (1 : Int)))) rfl (fun _ => by kernel_rfl) (Xg.wrap_i64_in (by omega)) ?_)
        refine Xg.ops_op (by kernel_rfl) (Xg.opx_pure ((iv ((↑i : Int) + (1 : Int)))) rfl (fun _ => by kernel_rfl) ?_)
        refine Xg.ops_nil ?_
        refine Xg.at_inLoop ?_)
      (focus
        refine Xg.at_keep [0, 1, 2] (by kernel_rfl) ?_
        refine Xs.same ?_ (fun J9 => ih (((i + 1, xx3)), J9) ?_ ?_) (by kernel_rfl))
      · rfl
      · exact ⟨hlt, xh3_0, by show xx3.Fr.length ≤ 4; omega⟩
      · show S.length - (i + 1) < S.length - i; omega
    · (focus
        refine Xg.ops_op (by kernel_rfl) (Xg.opx_load (b := xb1) (off := ((1 : Nat))) 0 (Value.slice xx2.fa xx2.Fr.length xx2.fc) rfl (by kernel_rfl) (by kernel_rfl) (by kernel_rfl) ?_)
        refine Xg.ops_op (by kernel_rfl) (Xg.opx_pure ((iv (↑xx2.Fr.length : Int))) rfl (fun _ => by kernel_rfl) ?_)
        refine Xg.ops_op (by kernel_rfl) (Xg.opx_pure (.bool (decide ((((↑xx2.Fr.length : Int)) : Int) > ((4 : Int))))) rfl (fun _ => by kernel_rfl) ?_)
        refine Xg.ops_flag (j := 35) (c := (decide ((↑xx2.Fr.length : Int) > (4 : Int)))) (by kernel_rfl) (fun xh3 => absurd (of_decide_eq_true xh3) (by omega)) (fun _ => ?_)
        refine Xg.ops_op (by kernel_rfl) (Xg.opx_pure ((Value.bool false)) rfl (fun _ => by kernel_rfl) ?_)
        refine Xg.ops_nil ?_
        refine Xg.at_false (t := false) (by kernel_rfl) rfl ?_
        refine Xg.at_skip ?_
        refine Xg.at_seq ?_
        refine Xg.at_region ?_
        refine Xg.ops_op (by kernel_rfl) (Xg.opx_pure ((Value.bool true)) rfl (fun _ => by kernel_rfl) ?_)
        refine Xg.ops_nil ?_
        refine Xg.at_true (t := true) (by kernel_rfl) rfl ?_
        refine Xg.at_region ?_
        refine Xg.ops_op (by kernel_rfl) (Xg.opx_pure ((pv xb1 0)) rfl (fun _ => by kernel_rfl) ?_))
      refine ops_kw ?_
      have hlk := looks_w (wb := xb1) hW2 (by omega)
      (focus
        refine Xg.ops_op (by kernel_rfl) (Xg.opx_call1' [0] [WS xb1 xx2, SO aa ac S, A] (fun _ => by kernel_rfl) (@hlk ) (by kernel_rfl) (by kernel_rfl) (by kernel_rfl) ?_)
        refine Xg.ops_op (by kernel_rfl) (Xg.opx_pure ((Value.bool true)) rfl (fun _ => by kernel_rfl) ?_)
        refine Xg.ops_nil ?_
        refine Xg.at_inBlock ?_
        refine Xg.at_region ?_
        refine Xg.ops_op (by kernel_rfl) (Xg.opx_pure ((iv (↑i : Int))) rfl (fun _ => by kernel_rfl) ?_)
        refine Xg.ops_op (by kernel_rfl) (Xg.opx_int .i64 (IntKind.wrap .i64 (((↑i : Int) + (1 : Int)))) rfl (fun _ => by kernel_rfl) (Xg.wrap_i64_in (by omega)) ?_)
        refine Xg.ops_op (by kernel_rfl) (Xg.opx_pure ((iv ((↑i : Int) + (1 : Int)))) rfl (fun _ => by kernel_rfl) ?_)
        refine Xg.ops_nil ?_
        refine Xg.at_inLoop ?_)
      (focus
        refine Xg.at_keep [0, 1, 2] (by kernel_rfl) ?_
        refine Xs.same ?_ (fun J9 => ih (((i + 1, xx2)), J9) ?_ ?_) (by kernel_rfl))
      · rfl
      · exact ⟨hlt, hW2, by show xx2.Fr.length ≤ 4; omega⟩
      · show S.length - (i + 1) < S.length - i; omega
  · have hse := settle_w (wb := xb1) hW (by omega)
    (focus
      refine Xg.at_seq ?_
      refine Xg.at_seq ?_
      refine Xg.at_region ?_
      refine Xg.ops_op (by kernel_rfl) (Xg.opx_pure ((iv (↑i : Int))) rfl (fun _ => by kernel_rfl) ?_)
      refine Xg.ops_op (by kernel_rfl) (Xg.opx_pure ((Value.slice aa S.length ac)) rfl (fun _ => by kernel_rfl) ?_)
      refine Xg.ops_op (by kernel_rfl) (Xg.opx_pure ((iv (↑S.length : Int))) rfl (fun _ => by kernel_rfl) ?_)
      refine Xg.ops_op (by kernel_rfl) (Xg.opx_pure (.bool (decide ((((↑i : Int)) : Int) < ((↑S.length : Int))))) rfl (fun _ => by kernel_rfl) ?_)
      refine Xg.ops_op (by kernel_rfl) (Xg.opx_pure ((Value.bool (decide ((↑i : Int) < (↑S.length : Int))))) rfl (fun _ => by kernel_rfl) ?_)
      refine Xg.ops_flag (j := 17) (c := (decide ((↑i : Int) < (↑S.length : Int)))) (by kernel_rfl) (fun xh2 => absurd (of_decide_eq_true xh2) (by omega)) (fun _ => ?_)
      refine Xg.ops_skip (by kernel_rfl) ?_
      refine Xg.ops_op (by kernel_rfl) (Xg.opx_pure ((Value.bool false)) rfl (fun _ => by kernel_rfl) ?_)
      refine Xg.ops_nil ?_
      refine Xg.at_false (t := false) (by kernel_rfl) rfl ?_
      refine Xg.at_exit rfl ?_
      refine Xg.at_seq ?_
      refine Xg.at_region ?_
      refine Xg.ops_op (by kernel_rfl) (Xg.opx_pure ((Value.bool true)) rfl (fun _ => by kernel_rfl) ?_)
      refine Xg.ops_op (by kernel_rfl) (Xg.opx_pure ((Value.bool true)) rfl (fun _ => by kernel_rfl) ?_)
      refine Xg.ops_op (by kernel_rfl) (Xg.opx_pure ((pv xb1 0)) rfl (fun _ => by kernel_rfl) ?_)
      refine Xg.ops_op (by kernel_rfl) (Xg.opx_callE' [0] (fun xx2 => [WS xb1 xx2, SO aa ac S, A]) (fun _ => by kernel_rfl) (@hse ) (by kernel_rfl) (by kernel_rfl) (by kernel_rfl) fun xx2 xh2 => ?_)
      try dsimp only at xh2
      obtain ⟨xh2_0, xh2_1⟩ := xh2
      refine Xg.ops_op (by kernel_rfl) (Xg.opx_pure ((Value.bool true)) rfl (fun _ => by kernel_rfl) ?_)
      refine Xg.ops_op (by kernel_rfl) (Xg.opx_pure ((Value.bool true)) rfl (fun _ => by kernel_rfl) ?_)
      refine Xg.ops_nil ?_
      refine Xg.at_ret_ps (v := (Value.bool true)) [2] [A] Go.Proofs.Try.func7 (fun _ => by kernel_rfl) (by kernel_rfl) (by kernel_rfl) ?_
      exact ⟨by kernel_rfl, by kernel_rfl⟩)
end Go.Proofs.Ytijjficnhpokdaa

/- The sched laws: steps in an argument. -/
namespace Go.Proofs.Ytijjficnhpokdaa
open Go.ChangeShapes Go.WideShapes Go.ChangeAt Go.RowKit Go.Sl Go.Xg
set_option maxRecDepth 100000
set_option linter.unusedVariables false
set_option linter.unusedSimpArgs false

section
variable {H : Type} {enc : TypeId × Value → H} {P : Program} {w : World} {base : Nat} {spare : Nat → Bool} {held : Bool}
theorem trod_struct4 {t : TypeId} {f0 f1 f2 f3 : Field} {fuel : Nat} {cs : List Value} {x : DataW H × List MemPlace} (ht : P.underlying t = some (.struct #[f0, f1, f2, f3])) (h : DataW.trod enc P w base spare held fuel t cs = some x) :
    ∃ y0 y1 y2 y3 n, DataW.trod enc P w base spare held n f0.type ((cs.drop f0.offset).take (P.cellsOf f0.type)) = some y0 ∧ DataW.trod enc P w base spare held n f1.type ((cs.drop f1.offset).take (P.cellsOf f1.type)) = some y1 ∧ DataW.trod enc P w base spare held n f2.type ((cs.drop f2.offset).take (P.cellsOf f2.type)) = some y2 ∧ DataW.trod enc P w base spare held n f3.type ((cs.drop f3.offset).take (P.cellsOf f3.type)) = some y3 := by
  obtain ⟨xs, n, _, rfl, hl, hlen, hf⟩ := DataW.trod_struct ht h
  match xs, hlen with
  | [y0, y1, y2, y3], _ => exact ⟨y0, y1, y2, y3, n, by simpa using hf 0 f0 rfl, by simpa using hf 1 f1 rfl, by simpa using hf 2 f2 rfl, by simpa using hf 3 f3 rfl⟩
end
theorem bulk_one {H : Type} (d : DataW H) : 1 ≤ Rows.uptoBulk d := by
  cases d with
  | lit l => cases l <;> simp [Rows.uptoBulk]
  | _ => simp [Rows.uptoBulk] <;> omega
theorem bulk_len {H : Type} (l : List (DataW H)) : l.length ≤ Rows.uptoBulkAll l := by
  induction l with
  | nil => exact Nat.zero_le _
  | cons x r ih =>
    have h1 := bulk_one x
    show r.length + 1 ≤ _
    simp only [Rows.uptoBulkAll]
    omega
theorem ops_arg {H : Type} {enc : TypeId × Value → H} {W : World} {a : Option Addr} {n c : Nat} {d : DataW H} {ps : List MemPlace}
    (h : DataW.Trod enc Try.prog W 0 (fun _ => true) true 44 (.slice a n c) d ps) :
    ∃ l : List Sp, l.length = n ∧ n ≤ maxLen ∧ Reads (old W) 4 (.slice a n c) n (recs spC l) ∧ (∀ i, i < n → i64ok (l.getD i default).p) ∧ n ≤ Rows.uptoBulk d := by
  obtain ⟨fuel, hf⟩ := h
  rcases Deep.open_slice Try.underlying44 hf with ⟨hcs, _⟩ | ⟨x, l, c', m, k, D, Pl, hcs, _, hl, hm, hmm, hxd, hel⟩
  · cases List.head_eq_of_cons_eq (show [Value.slice a n c] = [Value.slice none 0 0] from hcs)
    exact ⟨[], rfl, Nat.zero_le _, reads_old rfl (by simp [recs]), fun i hi => absurd hi (Nat.not_lt_zero _), Nat.zero_le _⟩
  · cases List.head_eq_of_cons_eq (show [Value.slice a n c] = [Value.slice (some x) l c'] from hcs)
    have hnm : n ≤ m := by rw [hmm]; split <;> omega
    obtain ⟨V, hV⟩ := Deep.choose_lt (n := n) (α := Sp) (p := fun i v => i64ok v.p ∧ W.cell? (x.add (i * 4 + 0)) = some (.int .i64 v.kd) ∧ W.cell? (x.add (i * 4 + 1)) = some (.int .i64 v.p) ∧ W.cell? (x.add (i * 4 + 2)) = some (.int .i64 v.n) ∧ W.cell? (x.add (i * 4 + 3)) = some (.bool v.b)) (fun i hi' => by
      obtain ⟨cs', h1, h2⟩ := hel i (by omega)
      rw [show Try.prog.cellsOf 53 = 4 from by kernel_rfl] at h1
      obtain ⟨_, hlen, hcell⟩ := World.cells?_some h1
      obtain ⟨y0, y1, y2, y3, q, e0, e1, e2, e3⟩ := trod_struct4 Try.underlying53 h2
      match cs', hlen with
      | [v0, v1, v2, v3], _ =>
        obtain ⟨n0, c0, _, w0⟩ := DataW.trod_int Try.underlying3 e0
        obtain rfl : v0 = Value.int .i64 n0 := List.head_eq_of_cons_eq (show [v0] = [Value.int .i64 n0] from c0)
        obtain ⟨n1, c1, _, w1⟩ := DataW.trod_int Try.underlying3 e1
        obtain rfl : v1 = Value.int .i64 n1 := List.head_eq_of_cons_eq (show [v1] = [Value.int .i64 n1] from c1)
        obtain ⟨n2, c2, _, w2⟩ := DataW.trod_int Try.underlying3 e2
        obtain rfl : v2 = Value.int .i64 n2 := List.head_eq_of_cons_eq (show [v2] = [Value.int .i64 n2] from c2)
        obtain ⟨n3, c3, _⟩ := DataW.trod_bool Try.underlying4 e3
        obtain rfl : v3 = Value.bool n3 := List.head_eq_of_cons_eq (show [v3] = [Value.bool n3] from c3)
        have g0 := hcell 0 (by omega)
        have g1 := hcell 1 (by omega)
        have g2 := hcell 2 (by omega)
        have g3 := hcell 3 (by omega)
        simp only [Deep.add_add] at g0 g1 g2 g3
        exact ⟨⟨n0, n1, n2, n3⟩, bounds_i64 w1, by simpa using g0, by simpa using g1, by simpa using g2, by simpa using g3⟩)
    refine ⟨(List.range n).map V, by simp, by omega, reads_old (by rw [recs_len (wd := 4) (fun _ => rfl)]; simp) fun j u hu => ⟨x, rfl, ?_⟩, fun i hi => ?_, ?_⟩
    · have hj : j < ((List.range n).map V).length * 4 := by
        have := (List.getElem?_eq_some_iff.1 hu).1
        rwa [recs_len (wd := 4) (fun _ => rfl)] at this
      have hi' : j / 4 < n := by simp at hj; omega
      have g := get_recs (cells := spC) (wd := 4) (fun _ => rfl) default (l := (List.range n).map V) (i := j / 4) (j := j % 4) (by simp; omega) (by omega)
      rw [show j / 4 * 4 + j % 4 = j by omega, hu] at g
      have eV : ((List.range n).map V).getD (j / 4) default = V (j / 4) := by simp [List.getD, hi']
      rw [eV] at g
      obtain ⟨_, k0, k1, k2, k3⟩ := hV (j / 4) hi'
      rcases (show j % 4 = 0 ∨ j % 4 = 1 ∨ j % 4 = 2 ∨ j % 4 = 3 by omega) with e | e | e | e <;> rw [e] at g <;> simp at g <;> rw [g]
      · rw [show j = j / 4 * 4 + 0 by omega]; simpa [show (j / 4 * 4 + 0) / 4 = j / 4 by omega] using k0
      · rw [show j = j / 4 * 4 + 1 by omega]; simpa [show (j / 4 * 4 + 1) / 4 = j / 4 by omega] using k1
      · rw [show j = j / 4 * 4 + 2 by omega]; simpa [show (j / 4 * 4 + 2) / 4 = j / 4 by omega] using k2
      · rw [show j = j / 4 * 4 + 3 by omega]; simpa [show (j / 4 * 4 + 3) / 4 = j / 4 by omega] using k3
    · have eV : ((List.range n).map V).getD i default = V i := by simp [List.getD, hi]
      rw [eV]
      exact (hV i hi).1
    · have hd : d = .slice ((List.range n).map D) ((List.range (m - n)).map fun j => D (n + j)) := congrArg Prod.fst hxd
      rw [hd]
      have h1 := bulk_len ((List.range n).map D)
      rw [List.length_map, List.length_range] at h1
      simp only [Rows.uptoBulk]
      omega
end Go.Proofs.Ytijjficnhpokdaa
