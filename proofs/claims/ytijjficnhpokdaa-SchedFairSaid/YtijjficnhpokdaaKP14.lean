/- The law SchedFair, in plain words. -/
import Derived.Test.YtijjficnhpokdaaKP13
import Derived.Test.YtijjficnhpokdaaKS
namespace Go.Proofs.Ytijjficnhpokdaa
open Go.Sl Go.Xg
set_option linter.unusedVariables false
set_option linter.unusedSimpArgs false
set_option linter.unnecessarySimpa false
set_option maxHeartbeats 4000000
set_option maxRecDepth 100000

def upd {α : Type} (f : Nat → α) (i : Nat) (v : α) : Nat → α := fun j => if j = i then v else f j
def arrI0 (f : Nat → Int) : List Value := (List.range 12).map fun i => .int .i64 (f i)
def arrB0 (f : Nat → Bool) : List Value := (List.range 12).map fun i => .bool (f i)
noncomputable def arrI : (Nat → Int) → List Value := Classical.choose (⟨arrI0, rfl⟩ : ∃ f : (Nat → Int) → List Value, f = arrI0)
theorem arrI_eq : arrI = arrI0 := Classical.choose_spec (⟨arrI0, rfl⟩ : ∃ f : (Nat → Int) → List Value, f = arrI0)
noncomputable def arrB : (Nat → Bool) → List Value := Classical.choose (⟨arrB0, rfl⟩ : ∃ f : (Nat → Bool) → List Value, f = arrB0)
theorem arrB_eq : arrB = arrB0 := Classical.choose_spec (⟨arrB0, rfl⟩ : ∃ f : (Nat → Bool) → List Value, f = arrB0)
theorem zero_arrI : IsZero Try.prog 39 (arrI fun _ => 0) := by
  rw [arrI_eq]
  exact ⟨.agg (List.replicate 12 (Value.int .i64 0)).toArray, 12, 96, El.mk' (by kernel_rfl) rfl, rfl⟩
theorem zero_arrB : IsZero Try.prog 40 (arrB fun _ => false) := by
  rw [arrB_eq]
  exact ⟨.agg (List.replicate 12 (Value.bool false)).toArray, 12, 12, El.mk' (by kernel_rfl) rfl, rfl⟩
theorem g_int (f : Nat → Int) (i : Nat) (h : i < 12) : Gets (arrI f) i (.int .i64 (f i)) := by rw [arrI_eq]; unfold Gets arrI0; simp [h]
theorem g_boo (f : Nat → Bool) (i : Nat) (h : i < 12) : Gets (arrB f) i (.bool (f i)) := by rw [arrB_eq]; unfold Gets arrB0; simp [h]
theorem s_int (f : Nat → Int) (i : Nat) (v : Int) (h : i < 12) : Sets (arrI f) i (.int .i64 v) (arrI (upd f i v)) := by
  rw [arrI_eq]
  refine ⟨by simp [arrI0, h], ?_⟩
  apply List.ext_getElem (by simp [arrI0])
  intro j h1 h2
  simp only [arrI0, List.getElem_set, List.getElem_map, List.getElem_range, upd]
  by_cases e : i = j
  · rw [if_pos e, if_pos e.symm]
  · rw [if_neg e, if_neg (fun h => e h.symm)]
theorem s_boo (f : Nat → Bool) (i : Nat) (v : Bool) (h : i < 12) : Sets (arrB f) i (.bool v) (arrB (upd f i v)) := by
  rw [arrB_eq]
  refine ⟨by simp [arrB0, h], ?_⟩
  apply List.ext_getElem (by simp [arrB0])
  intro j h1 h2
  simp only [arrB0, List.getElem_set, List.getElem_map, List.getElem_range, upd]
  by_cases e : i = j
  · rw [if_pos e, if_pos e.symm]
  · rw [if_neg e, if_neg (fun h => e h.symm)]

/-- Is a number ready behind so many acts? -/
def rdyF (n me : Nat) (xs : List (Int × Int)) : Nat → Nat → Bool
  | 0, _ => true
  | i + 1, j => if 6 ≤ pickN (xs.getD i default).1 8 ∧ pickN (xs.getD i default).2 n = j ∧ pickN (xs.getD i default).2 n ≠ me then decide (pickN (xs.getD i default).1 8 = 6) else rdyF n me xs i j

theorem set_map (id : Int) (b : Bool) : ∀ r : List (Int × Bool), (r.map (·.1)).Nodup → 0 ≤ at_ id r → r.set (at_ id r).toNat (id, b) = r.map fun x => if x.1 = id then (x.1, b) else x
  | [], _, h => by simp [at_, fidx] at h
  | x :: r, hn, h => by
    have hn' : (r.map (·.1)).Nodup ∧ ∀ y ∈ r, y.1 ≠ x.1 := by
      rw [List.map_cons, List.nodup_cons] at hn
      exact ⟨hn.2, fun y hy e => hn.1 (by rw [← e]; exact List.mem_map.2 ⟨y, hy, rfl⟩)⟩
    unfold at_ fidx at h ⊢
    by_cases hx : x.1 = id
    · have hb : (x.1 == id) = true := decide_eq_true hx
      rw [if_pos hb]
      show (id, b) :: r = _
      rw [List.map_cons, if_pos hx, hx]
      congr 1
      rw [show r.map (fun y => if y.1 = id then (y.1, b) else y) = r.map (fun y => y) from List.map_congr_left fun y hy => if_neg (by rw [← hx]; exact hn'.2 y hy)]
      exact (List.map_id' r).symm
    · have hb : ¬ (x.1 == id) = true := by simpa using hx
      rw [if_neg hb] at h ⊢
      have h0 : ¬ fidx (fun x : Int × Bool => x.1 == id) r < 0 := fun hh => by rw [if_pos hh] at h; omega
      rw [if_neg h0]
      have := set_map id b r hn'.1 (by unfold at_; omega)
      unfold at_ at this
      rw [show (fidx (fun x : Int × Bool => x.1 == id) r + 1).toNat = (fidx (fun x : Int × Bool => x.1 == id) r).toNat + 1 from by omega, List.set_cons_succ, this, List.map_cons, if_neg hx]

theorem fidx_app1 {α : Type} {p : α → Bool} (d : α) (l m : List α) (h : 0 ≤ fidx p l) : fidx p (l ++ m) = fidx p l := by
  have h1 := fidx_ge (p := p) l
  have h2 := fidx_pos (p := p) d l h
  obtain ⟨q, hq⟩ : ∃ q : Nat, fidx p l = q := ⟨(fidx p l).toNat, by omega⟩
  rw [hq] at h1 h2 ⊢
  rw [Int.toNat_natCast] at h2
  refine fidx_at d _ q (by rw [List.length_append]; omega) (fun j hj => ?_) ?_
  · rw [List.getD_eq_getElem?_getD, List.getElem?_append_left (by omega), ← List.getD_eq_getElem?_getD]
    cases e : p (l.getD j d) with
    | false => rfl
    | true =>
      exfalso
      -- the first one is the first one
      have : ∀ (l : List α) (q j : Nat), fidx p l = q → j < q → p (l.getD j d) = false := by
        intro l
        induction l with
        | nil => intro q j h _; simp [fidx] at h
        | cons x l ih =>
          intro q j h hj
          unfold fidx at h
          split at h
          · omega
          · rename_i h1
            split at h
            · omega
            · cases j with
              | zero => simpa using h1
              | succ j => simpa using ih (q - 1) j (by omega) (by omega)
      rw [this l q j hq hj] at e
      cases e
  · rw [List.getD_eq_getElem?_getD, List.getElem?_append_left (by omega), ← List.getD_eq_getElem?_getD]; exact h2
theorem fidx_app2 {α : Type} {p : α → Bool} (d : α) (l m : List α) (y : α) (h : fidx p l < 0) (hy : p y = true) : fidx p (l ++ y :: m) = l.length := by
  refine fidx_at d _ l.length (by simp) (fun j hj => ?_) ?_
  · rw [List.getD_eq_getElem?_getD, List.getElem?_append_left hj, ← List.getD_eq_getElem?_getD]
    have := fidx_neg (p := p) l h l[j] (List.getElem_mem hj)
    simpa [List.getD, hj] using this
  · simp [List.getD, hy]

structure Fair (n me : Nat) (xs : List (Int × Int)) (i : Nat) (pre post : List (Int × Bool)) (tu : Nat → Int) (st : Nat → Bool) (w : Nat) (mine : Bool) : Prop where
  len : pre.length + post.length + 1 = n
  nd : ((pre ++ ((me : Int), true) :: post).map (·.1)).Nodup
  ids : ∀ x ∈ pre ++ post, 0 ≤ x.1 ∧ x.1 < n ∧ x.1 ≠ me
  all : ∀ id : Nat, id < n → id ≠ me → ∃ b, ((id : Int), b) ∈ pre ++ post
  wt : w + pre.length + 1 ≤ n
  t0 : ∀ x ∈ pre, tu x.1.toNat = 0
  t1 : mine = true → ∀ x ∈ post, tu x.1.toNat = 1
  fl : ∀ x ∈ pre ++ post, x.2 = rdyF n me xs i x.1.toNat
  st : ∀ x ∈ pre ++ post, st x.1.toNat = true → x.2 = true

theorem idle0 (k : Nat) (x : Int) (h : 0 ≤ x) : decide (0 ≤ fidx (fun y => x == y) (List.replicate k (-1))) = false := by
  rw [fidx_no _ fun y hy => by rw [List.eq_of_mem_replicate hy]; exact decide_eq_false (by omega)]
  rfl
section
variable {n me : Nat} {xs : List (Int × Int)} {i : Nat} {pre post : List (Int × Bool)} {tu : Nat → Int} {st : Nat → Bool} {w : Nat} {mine : Bool} (h : Fair n me xs i pre post tu st w mine)
include h
theorem Fair.fr (k : Nat) (x : Int × Bool) (hx : x ∈ pre ++ ((me : Int), true) :: post) : Go.Proofs.Ytijjficnhpokdaa.free (List.replicate k (-1)) x = x.2 := by
  have h0 : 0 ≤ x.1 := by
    rcases List.mem_append.1 hx with e | e
    · exact (h.ids x (List.mem_append_left _ e)).1
    · rcases List.mem_cons.1 e with e | e
      · subst e; exact Int.natCast_nonneg _
      · exact (h.ids x (List.mem_append_right _ e)).1
  unfold Go.Proofs.Ytijjficnhpokdaa.free
  rw [idle0 k x.1 h0]; simp
/-- The first of those ahead of me that is ready, or I. -/
theorem Fair.nxt (k : Nat) : next (pre ++ ((me : Int), true) :: post) (List.replicate k (-1)) = if 0 ≤ fidx (fun x : Int × Bool => x.2) pre then fidx (fun x : Int × Bool => x.2) pre else pre.length := by
  have hc : ∀ l : List (Int × Bool), (∀ x ∈ l, x ∈ pre ++ ((me : Int), true) :: post) → fidx (Go.Proofs.Ytijjficnhpokdaa.free (List.replicate k (-1))) l = fidx (fun x : Int × Bool => x.2) l := by
    intro l
    induction l with
    | nil => intro _; rfl
    | cons x l ih =>
      intro hl
      unfold fidx
      rw [h.fr k x (hl x (.head _)), ih fun y hy => hl y (.tail _ hy)]
  unfold next
  rw [hc _ fun x hx => hx]
  split
  · exact fidx_app1 default _ _ (by assumption)
  · exact fidx_app2 default _ _ _ (by omega) rfl

theorem Fair.rdy (id : Nat) (b : Bool) (hid : id < n) (hme : id ≠ me) (hk : 6 ≤ pickN (xs.getD i default).1 8) (hb : b = decide (pickN (xs.getD i default).1 8 = 6)) (hj : pickN (xs.getD i default).2 n = id) :
    ∃ pre' post', rdyR (id : Int) b (pre ++ ((me : Int), true) :: post) = pre' ++ ((me : Int), true) :: post' ∧ Fair n me xs (i + 1) pre' post' tu (upd st id (st id && b)) w mine := by
  obtain ⟨b0, hb0⟩ := h.all id hid hme
  have hat : 0 ≤ at_ (id : Int) (pre ++ ((me : Int), true) :: post) := (at_mem _ _).2 ⟨((id : Int), b0), by
    rcases List.mem_append.1 hb0 with e | e
    · exact List.mem_append_left _ e
    · exact List.mem_append_right _ (.tail _ e), rfl⟩
  refine ⟨pre.map fun x => if x.1 = (id : Int) then (x.1, b) else x, post.map fun x => if x.1 = (id : Int) then (x.1, b) else x, ?_, ?_⟩
  · unfold rdyR
    rw [if_neg (by omega), set_map _ _ _ h.nd hat, List.map_append, List.map_cons, if_neg (by dsimp only; omega)]
  · have hf : ∀ l : List (Int × Bool), (l.map fun x => if x.1 = (id : Int) then (x.1, b) else x).map (·.1) = l.map (·.1) := fun l => by
      rw [List.map_map]
      exact List.map_congr_left fun x _ => by dsimp only [Function.comp]; split <;> rfl
    have hm : ∀ y, y ∈ (pre.map fun x => if x.1 = (id : Int) then (x.1, b) else x) ++ (post.map fun x => if x.1 = (id : Int) then (x.1, b) else x) → ∃ x ∈ pre ++ post, y = if x.1 = (id : Int) then (x.1, b) else x := fun y hy => by
      rw [← List.map_append] at hy
      obtain ⟨x, hx, e⟩ := List.mem_map.1 hy
      exact ⟨x, hx, e.symm⟩
    have h1 : ∀ x : Int × Bool, (if x.1 = (id : Int) then (x.1, b) else x).1 = x.1 := fun x => by split <;> rfl
    refine ⟨by rw [List.length_map, List.length_map]; exact h.len, ?_, fun y hy => ?_, fun id' hi' hne => ?_, by rw [List.length_map]; exact h.wt, fun y hy => ?_, fun hmi y hy => ?_, fun y hy => ?_, fun y hy hs => ?_⟩
    · have := h.nd
      rw [List.map_append, List.map_cons] at this ⊢
      rw [hf, hf]; exact this
    · obtain ⟨x, hx, rfl⟩ := hm y hy
      rw [h1]; exact h.ids x hx
    · obtain ⟨b1, hb1⟩ := h.all id' hi' hne
      rw [← List.map_append]
      by_cases hc : (id' : Int) = (id : Int)
      · exact ⟨b, List.mem_map.2 ⟨_, hb1, by dsimp only; rw [if_pos hc]⟩⟩
      · exact ⟨b1, List.mem_map.2 ⟨_, hb1, by dsimp only; rw [if_neg hc]⟩⟩
    · obtain ⟨x, hx, rfl⟩ := List.mem_map.1 hy
      rw [h1]; exact h.t0 x hx
    · obtain ⟨x, hx, rfl⟩ := List.mem_map.1 hy
      rw [h1]; exact h.t1 hmi x hx
    · obtain ⟨x, hx, rfl⟩ := hm y hy
      rw [h1]
      have hx0 := h.ids x hx
      show _ = if _ then _ else _
      by_cases hc : x.1 = (id : Int)
      · rw [if_pos hc, if_pos ⟨hk, by rw [hj]; omega, by rw [hj]; exact hme⟩]; exact hb
      · rw [if_neg hc, if_neg (fun hh => by rw [hj] at hh; omega)]; exact h.fl x hx
    · obtain ⟨x, hx, rfl⟩ := hm y hy
      rw [h1] at hs
      have hx0 := h.ids x hx
      by_cases hc : x.1 = (id : Int)
      · rw [if_pos hc]
        unfold upd at hs
        rw [if_pos (by omega)] at hs
        simp only [Bool.and_eq_true] at hs
        exact hs.2
      · rw [if_neg hc]
        unfold upd at hs
        rw [if_neg (by omega)] at hs
        exact h.st x hx hs
/-- An act that speaks of me says nothing. -/
theorem Fair.same (hk : pickN (xs.getD i default).1 8 < 6 ∨ pickN (xs.getD i default).2 n = me) : Fair n me xs (i + 1) pre post tu st w mine :=
  ⟨h.len, h.nd, h.ids, h.all, h.wt, h.t0, h.t1, fun x hx => by
    show _ = if _ then _ else _
    rw [if_neg (fun hh => by omega)]; exact h.fl x hx, h.st⟩
/-- A turn of another one. -/
theorem Fair.oth (q : Nat) (hq : fidx (fun x : Int × Bool => x.2) pre = q) (hk : pickN (xs.getD i default).1 8 < 6) :
    Fair n me xs (i + 1) (pre.eraseIdx q) (post ++ [pre.getD q default]) (upd tu (pre.getD q default).1.toNat 1) st (w + 1) mine := by
  have hl : q < pre.length := by have := (fidx_ge (p := fun x : Int × Bool => x.2) pre).2; omega
  have hg : pre.getD q default = pre[q] := by simp [List.getD, hl]
  have e : pre = pre.take q ++ pre.getD q default :: pre.drop (q + 1) := by rw [hg, List.getElem_cons_drop, List.take_append_drop]
  have hsub : ∀ x, x ∈ pre.eraseIdx q ++ (post ++ [pre.getD q default]) ↔ x ∈ pre ++ post := fun x => by
    rw [List.eraseIdx_eq_take_drop_succ]
    constructor
    · intro hx
      rw [e]
      simp only [List.mem_append, List.mem_cons, List.not_mem_nil, or_false] at hx ⊢
      rcases hx with (hx | hx) | hx | hx
      · exact .inl (.inl hx)
      · exact .inl (.inr (.inr hx))
      · exact .inr hx
      · exact .inl (.inr (.inl hx))
    · intro hx
      rw [e] at hx
      simp only [List.mem_append, List.mem_cons, List.not_mem_nil, or_false] at hx ⊢
      rcases hx with (hx | hx | hx) | hx
      · exact .inl (.inl hx)
      · exact .inr (.inr hx)
      · exact .inl (.inr hx)
      · exact .inr (.inl hx)
  have hs := h.same (.inl hk)
  have hnd : ((pre.eraseIdx q ++ ((me : Int), true) :: (post ++ [pre.getD q default])).map (·.1)).Nodup := by
    refine (List.Perm.nodup_iff (List.Perm.map _ ?_)).1 h.nd
    rw [List.eraseIdx_eq_take_drop_succ]
    conv => lhs; rw [e]
    generalize pre.getD q default = y
    generalize pre.take q = A
    generalize pre.drop (q + 1) = B
    have : (A ++ y :: B ++ ((me : Int), true) :: post).Perm (A ++ (B ++ (((me : Int), true) :: post ++ [y]))) := by
      rw [List.append_assoc]
      refine List.Perm.append_left A ?_
      rw [List.cons_append, ← List.append_assoc]
      exact (List.perm_append_singleton y _).symm
    simpa using this
  have hne : ∀ x ∈ pre.eraseIdx q ++ post, x.1 ≠ (pre.getD q default).1 := fun x hx e1 => by
    have h2 := hnd
    rw [show pre.eraseIdx q ++ ((me : Int), true) :: (post ++ [pre.getD q default]) = (pre.eraseIdx q ++ ((me : Int), true) :: post) ++ [pre.getD q default] from by simp, List.map_append, List.nodup_append] at h2
    refine h2.2.2 x.1 (List.mem_map.2 ⟨x, ?_, rfl⟩) (pre.getD q default).1 (by simp) e1
    rcases List.mem_append.1 hx with g | g
    · exact List.mem_append_left _ g
    · exact List.mem_append_right _ (.tail _ g)
  have hy0 := h.ids (pre.getD q default) (List.mem_append_left _ (by rw [hg]; exact List.getElem_mem _))
  have hel : (pre.eraseIdx q).length = pre.length - 1 := by rw [List.length_eraseIdx, if_pos hl]
  have hup : ∀ x ∈ pre.eraseIdx q ++ post, upd tu (pre.getD q default).1.toNat 1 x.1.toNat = tu x.1.toNat := fun x hx => by
    have h3 := hne x hx
    have h4 := h.ids x (by
      rcases List.mem_append.1 hx with g | g
      · exact List.mem_append_left _ (List.mem_of_mem_eraseIdx g)
      · exact List.mem_append_right _ g)
    unfold upd
    rw [if_neg (by omega)]
  refine ⟨?_, hnd, fun x hx => h.ids x ((hsub x).1 hx), fun id hi hn => ?_, ?_, fun x hx => ?_, fun hm x hx => ?_, fun x hx => hs.fl x ((hsub x).1 hx), fun x hx => hs.st x ((hsub x).1 hx)⟩
  · have := h.len; rw [hel, List.length_append]; simp; omega
  · obtain ⟨b, hb⟩ := h.all id hi hn
    exact ⟨b, (hsub _).2 hb⟩
  · have := h.wt; rw [hel]; omega
  · rw [hup x (List.mem_append_left _ hx)]; exact h.t0 x (List.mem_of_mem_eraseIdx hx)
  · rcases List.mem_append.1 hx with g | g
    · rw [hup x (List.mem_append_right _ g)]; exact h.t1 hm x g
    · have : x = pre.getD q default := by simpa using g
      subst this
      unfold upd; rw [if_pos rfl]
/-- A turn of mine. -/
theorem Fair.mine_ok (hq : fidx (fun x : Int × Bool => x.2) pre < 0) (j : Nat) (hj : j < n) (hjm : j ≠ me) (hm : mine = true) (hs : st j = true) : tu j = 1 := by
  obtain ⟨b, hb⟩ := h.all j hj hjm
  rcases List.mem_append.1 hb with g | g
  · have h1 := fidx_neg (p := fun x : Int × Bool => x.2) pre hq _ g
    have h2 := h.st _ hb (by simpa using hs)
    dsimp only at h1 h2
    rw [h1] at h2; cases h2
  · have := h.t1 hm _ g
    simpa using this
theorem Fair.mine_do (hk : pickN (xs.getD i default).1 8 < 6) (tu' : Nat → Int) (ht : ∀ j, j < n → tu' j = 0) (st' : Nat → Bool) (hst : ∀ j, j < n → st' j = rdyF n me xs (i + 1) j) :
    Fair n me xs (i + 1) (pre ++ post) [] tu' st' 0 true := by
  have hs := h.same (.inl hk)
  have hn0 := h.len
  refine ⟨by simp; omega, ?_, fun x hx => h.ids x (by simpa using hx), fun id hi hn => ?_, by simp; omega, fun x hx => ?_, fun _ x hx => (by cases hx), fun x hx => hs.fl x (by simpa using hx), fun x hx e => ?_⟩
  · refine (List.Perm.nodup_iff (List.Perm.map _ ?_)).1 h.nd
    have : (pre ++ ((me : Int), true) :: post).Perm (pre ++ (post ++ [((me : Int), true)])) := List.Perm.append_left pre (List.perm_append_singleton _ _).symm
    simpa using this
  · obtain ⟨b, hb⟩ := h.all id hi hn
    exact ⟨b, by simpa using hb⟩
  · have := h.ids x hx
    exact ht _ (by omega)
  · have hx' : x ∈ pre ++ post := by simpa using hx
    have := h.ids x hx'
    rw [hst _ (by omega)] at e
    rw [hs.fl x hx']; exact e
end
end Go.Proofs.Ytijjficnhpokdaa
