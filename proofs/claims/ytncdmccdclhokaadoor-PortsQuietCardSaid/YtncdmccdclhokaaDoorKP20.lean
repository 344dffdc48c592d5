/- The ports' laws: what is loaded. -/
import Derived.Test.YtncdmccdclhokaaDoorKP18
import Derived.Test.YtncdmccdclhokaaDoorKQ3
namespace Go.Proofs.YtncdmccdclhokaaDoor
open Go.Sl Go.Xg
set_option linter.unusedVariables false
set_option linter.unusedSimpArgs false
set_option maxHeartbeats 4000000
set_option maxRecDepth 100000
variable {te : TypeId}

theorem load_st (q : Nat) (σ : Po) (s : Value) (σ' : Po) (h : σ'.Inv) (a : Option Addr) (c : Nat) :
    Does Tryd.prog 24 [pt q, .slice a (stL σ').length c] [PoR q σ s, bts a c (stL σ')] (Ret (.int .i64 0) [PoR q σ' (.slice none 0 0), bts a c (stL σ')]) := by
  obtain ⟨h1, h2, h3⟩ := load_state h
  refine Does.own 1 rfl fun hc hm => ?_
  have := load_ok q σ s (bts a c (stL σ')) a (stL σ').length c (stL σ') reads_own rfl hc h3 h1
  rwa [h2] at this

theorem acts_f (p : Nat) (σ : Po) (a : Option Addr) (c : Nat) (xs : List Int) (hx : OkX (σ, xs)) (A : HP) (la : Option Addr) (n lc : Nat) (l : List Act) (hn : l.length = n) (hn2 : n ≤ maxLen) (hr : Reads A 3 (.slice la n lc) n (recs actC l)) (hl : ∀ i, i < n → (l.getD i default).ok)
    (σ' : Po) (xs' : List Int) (he : doN l (min n 200) (σ, xs) = (σ', xs')) :
    Does Tryd.prog 26 [pt p, .slice la n lc] [PoS p σ a c xs, bts a c xs, (Drv te), A]
      (RetE (fun x : Option Addr × Nat => True) (fun _ => .bool true) (fun x => [PoS p σ' x.1 x.2 xs', bts x.1 x.2 xs', (Drv te), A])) := by
  refine (acts_d p σ a c xs hx A la n lc l hn hn2 hr hl).mono fun v ps ⟨x, h1, h2, h3⟩ => ⟨(x.2.1, x.2.2.1), trivial, h2, ?_⟩
  obtain ⟨σx, ax, cx, xsx⟩ := x
  obtain ⟨rfl, rfl⟩ := Prod.mk.inj (h1.trans he)
  exact h3

theorem made_inv (l : List Act) (n : Nat) : ∃ σ xs, doN l n (new0, []) = (σ, xs) ∧ σ.Inv ∧ xs.length ≤ 256 := by
  have := doN_ok (x := (new0, [])) ⟨new0_wf, by decide⟩ l n
  exact ⟨_, _, rfl, inv_doN (x := (new0, [])) inv_new0 l n, this.2⟩

set_option maxHeartbeats 0 in
theorem loaded_d (A : HP) (la : Option Addr) (n lc : Nat) (l : List Act) (hn : l.length = n) (hn2 : n ≤ maxLen) (hr : Reads A 3 (.slice la n lc) n (recs actC l)) (hl : ∀ i, i < n → (l.getD i default).ok)
    (lb : Option Addr) (nb lcb : Nat) (l2 : List Act) (hnb : l2.length = nb) (hnb2 : nb ≤ maxLen) (hrb : Reads A 3 (.slice lb nb lcb) nb (recs actC l2)) (hlb : ∀ i, i < nb → (l2.getD i default).ok)
    (ld : Option Addr) (nd lcd : Nat) (l3 : List Act) (hnd : l3.length = nd) (hnd2 : nd ≤ maxLen) (hrd : Reads A 3 (.slice ld nd lcd) nd (recs actC l3)) (hld : ∀ i, i < nd → (l3.getD i default).ok) :
    Does Tryd.prog 9 [.slice la n lc, .slice lb nb lcb, .slice ld nd lcd] [(Drv te), A] (Ret (.bool true) [(Drv te), A]) := by
  obtain ⟨σ, xs, he, hσ, hxl⟩ := made_inv l (min n 200)
  have hm := made_f (te := te) A la n lc l hn hn2 hr hl σ xs he
  obtain ⟨σ2, xs2, he2, hσ2, hxl2⟩ := made_inv l2 (min nb 200)
  have hm2 := made_f (te := te) A lb nb lcb l2 hnb hnb2 hrb hlb σ2 xs2 he2
  obtain ⟨σ3, xs3, he3⟩ : ∃ σ3 xs3, doN l3 (min nd 200) (σ, xs) = (σ3, xs3) := ⟨_, _, rfl⟩
  obtain ⟨σ4, xs4, he4⟩ : ∃ σ4 xs4, doN l3 (min nd 200) (σ, []) = (σ4, xs4) := ⟨_, _, rfl⟩
  obtain rfl : σ4 = σ3 := by
    have := doN_fst l3 (min nd 200) σ [] xs
    rw [he3, he4] at this; exact this
  have hlaw := sent_law l3 (min nd 200) σ hxl
  rw [he3, he4] at hlaw
  dsimp only at hlaw
  obtain ⟨hle, hcat⟩ := hlaw
  have hok3 := doN_ok (x := (σ, xs)) ⟨hσ.wf, hxl⟩ l3 (min nd 200)
  rw [he3] at hok3
  have hok4 := doN_ok (x := (σ, [])) ⟨hσ.wf, Nat.zero_le _⟩ l3 (min nd 200)
  rw [he4] at hok4
  obtain ⟨hw3, hx3⟩ := hok3
  obtain ⟨_, hx4⟩ := hok4
  dsimp only at hw3 hx3 hx4
  have ha3 := fun p a c => acts_f (te := te) p σ a c xs ⟨hσ.wf, hxl⟩ A ld nd lcd l3 hnd hnd2 hrd hld _ xs3 he3
  have ha4 := fun p => acts_f (te := te) p σ none 0 [] ⟨hσ.wf, Nat.zero_le _⟩ A ld nd lcd l3 hnd hnd2 hrd hld _ xs4 he4
  have hw := hσ.wf
  clear he he2 he3 he4 hr hrb hrd hl hlb hld
  by_cases hcase : ((xs.length : Nat) : Int) + ((xs4.length : Nat) : Int) > 256
  · (focus
      refine Xg.spec_of Go.Proofs.Tryd.func9 rfl Go.Proofs.Tryd.ntmps9 fun g F => ?_)
    refine Xg.at_nil_ints 5 .u8 ?_
    (focus
      refine Xg.at_seq ?_
      refine Xg.at_region ?_
      refine Xg.ops_op (by kernel_rfl) (Xg.opx_pure ((Value.bool false)) rfl (fun _ => by kernel_rfl) ?_)
      refine Xg.ops_nil ?_
      refine Xg.at_seq ?_
      refine Xg.at_region ?_
      refine Xg.ops_op (by kernel_rfl) (Xg.opx_pure ((Value.slice la n lc)) rfl (fun _ => by kernel_rfl) ?_)
      refine Xg.ops_op (by kernel_rfl) (Xg.opx_callE' [1, 2] (fun xx1 => [PoS xx1.fst σ xx1.snd.fst xx1.snd.snd xs, bts xx1.snd.fst xx1.snd.snd xs, Drv te, A, ints (5 : TypeId) IntKind.u8 none (0 : Nat) []]) (fun _ => by kernel_rfl) (@hm ) (by kernel_rfl) (by kernel_rfl) (by kernel_rfl) fun xx1 xh1 => ?_)
      try dsimp only at xh1
      refine Xg.ops_op (by kernel_rfl) (Xg.opx_pure ((Value.pointer (some (Addr.mk xx1.fst (0 : Nat) none)))) rfl (fun _ => by kernel_rfl) ?_)
      refine Xg.ops_nil ?_
      refine Xg.at_seq ?_
      refine Xg.at_region ?_
      refine Xg.ops_op (by kernel_rfl) (Xg.opx_pure ((Value.slice lb nb lcb)) rfl (fun _ => by kernel_rfl) ?_)
      refine Xg.ops_op (by kernel_rfl) (Xg.opx_callE' [2, 3] (fun xx2 => [PoS xx2.fst σ2 xx2.snd.fst xx2.snd.snd xs2, bts xx2.snd.fst xx2.snd.snd xs2, Drv te, A, PoS xx1.fst σ xx1.snd.fst xx1.snd.snd xs, bts xx1.snd.fst xx1.snd.snd xs, ints (5 : TypeId) IntKind.u8 none (0 : Nat) []]) (fun _ => by kernel_rfl) (@hm2 ) (by kernel_rfl) (by kernel_rfl) (by kernel_rfl) fun xx2 xh2 => ?_)
      try dsimp only at xh2
      refine Xg.ops_op (by kernel_rfl) (Xg.opx_pure ((Value.pointer (some (Addr.mk xx2.fst (0 : Nat) none)))) rfl (fun _ => by kernel_rfl) ?_)
      refine Xg.ops_nil ?_
      refine Xg.at_seq ?_
      refine Xg.at_seq ?_
      refine Xg.at_region ?_
      refine Xg.ops_op (by kernel_rfl) (Xg.opx_pure ((Value.pointer (some (Addr.mk xx1.fst (0 : Nat) none)))) rfl (fun _ => by kernel_rfl) ?_)
      refine Xg.ops_op (by kernel_rfl) (Xg.opx_pure ((Value.bool false)) rfl (fun _ => by kernel_rfl) ?_)
      refine Xg.ops_op (by kernel_rfl) (Xg.opx_pure ((Value.bool false)) rfl (fun _ => by kernel_rfl) ?_)
      refine Xg.ops_op (by kernel_rfl) (Xg.opx_pure ((Value.pointer (some (Addr.mk xx2.fst (0 : Nat) none)))) rfl (fun _ => by kernel_rfl) ?_)
      refine Xg.ops_op (by kernel_rfl) (Xg.opx_pure ((Value.bool false)) rfl (fun _ => by kernel_rfl) ?_)
      refine Xg.ops_op (by kernel_rfl) (Xg.opx_pure ((Value.bool false)) rfl (fun _ => by kernel_rfl) ?_)
      refine Xg.ops_nil ?_
      refine Xg.at_false (t := false) (by kernel_rfl) rfl ?_
      refine Xg.at_skip ?_
      refine Xg.at_seq ?_
      refine Xg.at_region ?_
      refine Xg.ops_op (by kernel_rfl) (Xg.opx_pure ((Value.pointer (some (Addr.mk xx2.fst (0 : Nat) none)))) rfl (fun _ => by kernel_rfl) ?_)
      refine Xg.ops_op (by kernel_rfl) (Xg.opx_pure ((Value.pointer (some (Addr.mk xx1.fst (0 : Nat) none)))) rfl (fun _ => by kernel_rfl) ?_)
      refine Xg.ops_op (by kernel_rfl) (Xg.opx_callE' [4] (fun xx3 => [bts xx3.fst xx3.snd (stL σ), PoR xx1.fst σ (Value.slice xx1.snd.fst xs.length xx1.snd.snd), PoS xx2.fst σ2 xx2.snd.fst xx2.snd.snd xs2, bts xx2.snd.fst xx2.snd.snd xs2, Drv te, A, bts xx1.snd.fst xx1.snd.snd xs, ints (5 : TypeId) IntKind.u8 none (0 : Nat) []]) (fun _ => by kernel_rfl) (@Go.Proofs.YtncdmccdclhokaaDoor.state_d (xx1.fst) (σ) (by omega) ((Value.slice xx1.snd.fst xs.length xx1.snd.snd))) (by kernel_rfl) (by kernel_rfl) (by kernel_rfl) fun xx3 xh3 => ?_)
      try dsimp only at xh3
      refine Xg.ops_op (by kernel_rfl) (Xg.opx_call1' [2, 0] [PoR xx2.fst σ (Value.slice none (0 : Nat) (0 : Nat)), bts xx3.fst xx3.snd (stL σ), PoR xx1.fst σ (Value.slice xx1.snd.fst xs.length xx1.snd.snd), bts xx2.snd.fst xx2.snd.snd xs2, Drv te, A, bts xx1.snd.fst xx1.snd.snd xs, ints (5 : TypeId) IntKind.u8 none (0 : Nat) []] (fun _ => by kernel_rfl) (@Go.Proofs.YtncdmccdclhokaaDoor.load_st (xx2.fst) (σ2) ((Value.slice xx2.snd.fst xs2.length xx2.snd.snd)) (σ) (by omega) (xx3.fst) (xx3.snd)) (by kernel_rfl) (by kernel_rfl) (by kernel_rfl) ?_)
      refine Xg.ops_op (by kernel_rfl) (Xg.opx_pure ((Value.int IntKind.i64 (0 : Int))) rfl (fun _ => by kernel_rfl) ?_)
      refine Xg.ops_nil ?_
      refine Xg.at_seq ?_
      refine Xg.at_region ?_
      refine Xg.ops_op (by kernel_rfl) (Xg.opx_pure ((Value.pointer (some (Addr.mk xx1.fst (0 : Nat) none)))) rfl (fun _ => by kernel_rfl) ?_)
      refine Xg.ops_op (by kernel_rfl) (Xg.opx_pure ((Value.pointer (some (Addr.mk xx2.fst (0 : Nat) none)))) rfl (fun _ => by kernel_rfl) ?_)
      refine Xg.ops_op (by kernel_rfl) (Xg.opx_call1' [2, 0] [PoR xx1.fst σ (Value.slice xx1.snd.fst xs.length xx1.snd.snd), PoR xx2.fst σ (Value.slice none (0 : Nat) (0 : Nat)), bts xx3.fst xx3.snd (stL σ), bts xx2.snd.fst xx2.snd.snd xs2, Drv te, A, bts xx1.snd.fst xx1.snd.snd xs, ints (5 : TypeId) IntKind.u8 none (0 : Nat) []] (fun _ => by kernel_rfl) (@Go.Proofs.YtncdmccdclhokaaDoor.alike_d (xx1.fst) (xx2.fst) (σ) (by omega) ((Value.slice xx1.snd.fst xs.length xx1.snd.snd)) ((Value.slice none (0 : Nat) (0 : Nat)))) (by kernel_rfl) (by kernel_rfl) (by kernel_rfl) ?_)
      refine Xg.ops_op (by kernel_rfl) (Xg.opx_pure ((Value.bool true)) rfl (fun _ => by kernel_rfl) ?_)
      refine Xg.ops_nil ?_
      refine Xg.at_seq ?_
      refine Xg.at_region ?_
      refine Xg.ops_op (by kernel_rfl) (Xg.opx_pure ((Value.pointer (some (Addr.mk xx1.fst (0 : Nat) none)))) rfl (fun _ => by kernel_rfl) ?_)
      refine Xg.ops_op (by kernel_rfl) (Xg.opx_callE' [0, 6] (fun xx4 => [bts xx4.fst xx4.snd xs, PoS xx1.fst σ xx1.snd.fst xx1.snd.snd xs, bts xx1.snd.fst xx1.snd.snd xs, PoR xx2.fst σ (Value.slice none (0 : Nat) (0 : Nat)), bts xx3.fst xx3.snd (stL σ), bts xx2.snd.fst xx2.snd.snd xs2, Drv te, A, ints (5 : TypeId) IntKind.u8 none (0 : Nat) []]) (fun _ => by kernel_rfl) (@Go.Proofs.YtncdmccdclhokaaDoor.sent_d (xx1.fst) (σ) (xx1.snd.fst) (xx1.snd.snd) (xs) (by omega)) (by kernel_rfl) (by kernel_rfl) (by kernel_rfl) fun xx4 xh4 => ?_)
      try dsimp only at xh4
      refine Xg.ops_op (by kernel_rfl) (Xg.opx_pure ((Value.slice xx4.fst xs.length xx4.snd)) rfl (fun _ => by kernel_rfl) ?_)
      refine Xg.ops_nil ?_
      refine Xg.at_seq ?_
      refine Xg.at_region ?_
      refine Xg.ops_op (by kernel_rfl) (Xg.opx_pure ((Value.pointer (some (Addr.mk xx1.fst (0 : Nat) none)))) rfl (fun _ => by kernel_rfl) ?_)
      refine Xg.ops_op (by kernel_rfl) (Xg.opx_pure ((Value.slice ld nd lcd)) rfl (fun _ => by kernel_rfl) ?_)
      refine Xg.ops_op (by kernel_rfl) (Xg.opx_callE' [1, 2, 6, 7] (fun xx5 => [PoS xx1.fst σ4 xx5.fst xx5.snd xs3, bts xx5.fst xx5.snd xs3, Drv te, A, bts xx4.fst xx4.snd xs, PoR xx2.fst σ (Value.slice none (0 : Nat) (0 : Nat)), bts xx3.fst xx3.snd (stL σ), bts xx2.snd.fst xx2.snd.snd xs2, ints (5 : TypeId) IntKind.u8 none (0 : Nat) []]) (fun _ => by kernel_rfl) (@ha3 (xx1.fst) (xx1.snd.fst) (xx1.snd.snd)) (by kernel_rfl) (by kernel_rfl) (by kernel_rfl) fun xx5 xh5 => ?_)
      try dsimp only at xh5
      refine Xg.ops_op (by kernel_rfl) (Xg.opx_pure ((Value.bool true)) rfl (fun _ => by kernel_rfl) ?_)
      refine Xg.ops_nil ?_
      refine Xg.at_seq ?_
      refine Xg.at_region ?_
      refine Xg.ops_op (by kernel_rfl) (Xg.opx_pure ((Value.pointer (some (Addr.mk xx2.fst (0 : Nat) none)))) rfl (fun _ => by kernel_rfl) ?_)
      refine Xg.ops_op (by kernel_rfl) (Xg.opx_pure ((Value.slice ld nd lcd)) rfl (fun _ => by kernel_rfl) ?_)
      refine Xg.ops_op (by kernel_rfl) (Xg.opx_callE' [5, 8, 2, 3] (fun xx6 => [PoS xx2.fst σ4 xx6.fst xx6.snd xs4, bts xx6.fst xx6.snd xs4, Drv te, A, PoS xx1.fst σ4 xx5.fst xx5.snd xs3, bts xx5.fst xx5.snd xs3, bts xx4.fst xx4.snd xs, bts xx3.fst xx3.snd (stL σ), bts xx2.snd.fst xx2.snd.snd xs2]) (fun _ => by kernel_rfl) (@ha4 (xx2.fst)) (by kernel_rfl) (by kernel_rfl) (by kernel_rfl) fun xx6 xh6 => ?_)
      try dsimp only at xh6
      refine Xg.ops_op (by kernel_rfl) (Xg.opx_pure ((Value.bool true)) rfl (fun _ => by kernel_rfl) ?_)
      refine Xg.ops_nil ?_
      refine Xg.at_seq ?_
      refine Xg.at_region ?_
      refine Xg.ops_op (by kernel_rfl) (Xg.opx_pure ((Value.pointer (some (Addr.mk xx1.fst (0 : Nat) none)))) rfl (fun _ => by kernel_rfl) ?_)
      refine Xg.ops_op (by kernel_rfl) (Xg.opx_pure ((Value.pointer (some (Addr.mk xx2.fst (0 : Nat) none)))) rfl (fun _ => by kernel_rfl) ?_)
      refine Xg.ops_op (by kernel_rfl) (Xg.opx_call1' [4, 0] [PoR xx1.fst σ4 (Value.slice xx5.fst xs3.length xx5.snd), PoR xx2.fst σ4 (Value.slice xx6.fst xs4.length xx6.snd), bts xx6.fst xx6.snd xs4, Drv te, A, bts xx5.fst xx5.snd xs3, bts xx4.fst xx4.snd xs, bts xx3.fst xx3.snd (stL σ), bts xx2.snd.fst xx2.snd.snd xs2] (fun _ => by kernel_rfl) (@Go.Proofs.YtncdmccdclhokaaDoor.alike_d (xx1.fst) (xx2.fst) (σ4) (by omega) ((Value.slice xx5.fst xs3.length xx5.snd)) ((Value.slice xx6.fst xs4.length xx6.snd))) (by kernel_rfl) (by kernel_rfl) (by kernel_rfl) ?_)
      refine Xg.ops_op (by kernel_rfl) (Xg.opx_pure ((Value.bool true)) rfl (fun _ => by kernel_rfl) ?_)
      refine Xg.ops_nil ?_
      refine Xg.at_seq ?_
      refine Xg.at_region ?_
      refine Xg.ops_op (by kernel_rfl) (Xg.opx_pure ((Value.pointer (some (Addr.mk xx1.fst (0 : Nat) none)))) rfl (fun _ => by kernel_rfl) ?_)
      refine Xg.ops_op (by kernel_rfl) (Xg.opx_callE' [0, 5] (fun xx7 => [bts xx7.fst xx7.snd xs3, PoS xx1.fst σ4 xx5.fst xx5.snd xs3, bts xx5.fst xx5.snd xs3, PoR xx2.fst σ4 (Value.slice xx6.fst xs4.length xx6.snd), bts xx6.fst xx6.snd xs4, Drv te, A, bts xx4.fst xx4.snd xs, bts xx3.fst xx3.snd (stL σ), bts xx2.snd.fst xx2.snd.snd xs2]) (fun _ => by kernel_rfl) (@Go.Proofs.YtncdmccdclhokaaDoor.sent_d (xx1.fst) (σ4) (xx5.fst) (xx5.snd) (xs3) (by omega)) (by kernel_rfl) (by kernel_rfl) (by kernel_rfl) fun xx7 xh7 => ?_)
      try dsimp only at xh7
      refine Xg.ops_op (by kernel_rfl) (Xg.opx_pure ((Value.slice xx7.fst xs3.length xx7.snd)) rfl (fun _ => by kernel_rfl) ?_)
      refine Xg.ops_nil ?_
      refine Xg.at_seq ?_
      refine Xg.at_region ?_
      refine Xg.ops_op (by kernel_rfl) (Xg.opx_pure ((Value.pointer (some (Addr.mk xx2.fst (0 : Nat) none)))) rfl (fun _ => by kernel_rfl) ?_)
      refine Xg.ops_op (by kernel_rfl) (Xg.opx_callE' [3, 4] (fun xx8 => [bts xx8.fst xx8.snd xs4, PoS xx2.fst σ4 xx6.fst xx6.snd xs4, bts xx6.fst xx6.snd xs4, bts xx7.fst xx7.snd xs3, PoS xx1.fst σ4 xx5.fst xx5.snd xs3, bts xx5.fst xx5.snd xs3, Drv te, A, bts xx4.fst xx4.snd xs, bts xx3.fst xx3.snd (stL σ), bts xx2.snd.fst xx2.snd.snd xs2]) (fun _ => by kernel_rfl) (@Go.Proofs.YtncdmccdclhokaaDoor.sent_d (xx2.fst) (σ4) (xx6.fst) (xx6.snd) (xs4) (by omega)) (by kernel_rfl) (by kernel_rfl) (by kernel_rfl) fun xx8 xh8 => ?_)
      try dsimp only at xh8
      refine Xg.ops_op (by kernel_rfl) (Xg.opx_pure ((Value.slice xx8.fst xs4.length xx8.snd)) rfl (fun _ => by kernel_rfl) ?_)
      refine Xg.ops_nil ?_
      refine Xg.at_seq ?_
      refine Xg.at_seq ?_
      refine Xg.at_region ?_
      refine Xg.ops_op (by kernel_rfl) (Xg.opx_pure ((Value.int IntKind.i64 (0 : Int))) rfl (fun _ => by kernel_rfl) ?_)
      refine Xg.ops_op (by kernel_rfl) (Xg.opx_pure ((Value.bool false)) rfl (fun _ => by kernel_rfl) ?_)
      refine Xg.ops_op (by kernel_rfl) (Xg.opx_pure ((Value.bool false)) rfl (fun _ => by kernel_rfl) ?_)
      refine Xg.ops_op (by kernel_rfl) (Xg.opx_pure ((Value.bool true)) rfl (fun _ => by kernel_rfl) ?_)
      refine Xg.ops_op (by kernel_rfl) (Xg.opx_pure (.bool false) rfl (fun _ => by kernel_rfl) ?_)
      refine Xg.ops_op (by kernel_rfl) (Xg.opx_pure ((Value.bool false)) rfl (fun _ => by kernel_rfl) ?_)
      refine Xg.ops_op (by kernel_rfl) (Xg.opx_pure ((Value.bool false)) rfl (fun _ => by kernel_rfl) ?_)
      refine Xg.ops_op (by kernel_rfl) (Xg.opx_pure ((Value.bool true)) rfl (fun _ => by kernel_rfl) ?_)
      refine Xg.ops_op (by kernel_rfl) (Xg.opx_pure (.bool false) rfl (fun _ => by kernel_rfl) ?_)
      refine Xg.ops_op (by kernel_rfl) (Xg.opx_pure ((Value.bool false)) rfl (fun _ => by kernel_rfl) ?_)
      refine Xg.ops_op (by kernel_rfl) (Xg.opx_pure ((Value.bool false)) rfl (fun _ => by kernel_rfl) ?_)
      refine Xg.ops_op (by kernel_rfl) (Xg.opx_pure ((Value.bool true)) rfl (fun _ => by kernel_rfl) ?_)
      refine Xg.ops_op (by kernel_rfl) (Xg.opx_pure (.bool false) rfl (fun _ => by kernel_rfl) ?_)
      refine Xg.ops_op (by kernel_rfl) (Xg.opx_pure ((Value.bool false)) rfl (fun _ => by kernel_rfl) ?_)
      refine Xg.ops_op (by kernel_rfl) (Xg.opx_pure ((Value.bool false)) rfl (fun _ => by kernel_rfl) ?_)
      refine Xg.ops_op (by kernel_rfl) (Xg.opx_pure ((Value.bool true)) rfl (fun _ => by kernel_rfl) ?_)
      refine Xg.ops_op (by kernel_rfl) (Xg.opx_pure (.bool false) rfl (fun _ => by kernel_rfl) ?_)
      refine Xg.ops_op (by kernel_rfl) (Xg.opx_pure ((Value.bool false)) rfl (fun _ => by kernel_rfl) ?_)
      refine Xg.ops_op (by kernel_rfl) (Xg.opx_pure ((Value.bool false)) rfl (fun _ => by kernel_rfl) ?_)
      refine Xg.ops_op (by kernel_rfl) (Xg.opx_pure ((Value.slice xx8.fst xs4.length xx8.snd)) rfl (fun _ => by kernel_rfl) ?_)
      refine Xg.ops_op (by kernel_rfl) (Xg.opx_pure ((Value.int IntKind.i64 (↑xs4.length : Int))) rfl (fun _ => by kernel_rfl) ?_)
      refine Xg.ops_op (by kernel_rfl) (Xg.opx_pure ((Value.slice xx7.fst xs3.length xx7.snd)) rfl (fun _ => by kernel_rfl) ?_)
      refine Xg.ops_op (by kernel_rfl) (Xg.opx_pure ((Value.int IntKind.i64 (↑xs3.length : Int))) rfl (fun _ => by kernel_rfl) ?_)
      refine Xg.ops_op (by kernel_rfl) (Xg.opx_pure (.bool (decide ((((↑xs4.length : Int)) : Int) > ((↑xs3.length : Int))))) rfl (fun _ => by kernel_rfl) ?_)
      refine Xg.ops_flag (j := 72) (c := (decide ((↑xs4.length : Int) > (↑xs3.length : Int)))) (by kernel_rfl) (fun xh9 => absurd (of_decide_eq_true xh9) (by omega)) (fun _ => ?_)
      refine Xg.ops_op (by kernel_rfl) (Xg.opx_pure ((Value.bool false)) rfl (fun _ => by kernel_rfl) ?_)
      refine Xg.ops_nil ?_
      refine Xg.at_false (t := false) (by kernel_rfl) rfl ?_
      refine Xg.at_skip ?_
      refine Xg.at_seq ?_
      refine Xg.at_seq ?_
      refine Xg.at_region ?_
      refine Xg.ops_op (by kernel_rfl) (Xg.opx_pure ((Value.slice xx4.fst xs.length xx4.snd)) rfl (fun _ => by kernel_rfl) ?_)
      refine Xg.ops_op (by kernel_rfl) (Xg.opx_pure ((Value.int IntKind.i64 (↑xs.length : Int))) rfl (fun _ => by kernel_rfl) ?_)
      refine Xg.ops_op (by kernel_rfl) (Xg.opx_pure ((Value.slice xx8.fst xs4.length xx8.snd)) rfl (fun _ => by kernel_rfl) ?_)
      refine Xg.ops_op (by kernel_rfl) (Xg.opx_pure ((Value.int IntKind.i64 (↑xs4.length : Int))) rfl (fun _ => by kernel_rfl) ?_)
      refine Xg.ops_op (by kernel_rfl) (Xg.opx_int .i64 (IntKind.wrap .i64 (((↑xs.length : Int) + (↑xs4.length : Int)))) rfl (fun _ => by kernel_rfl) (Xg.wrap_i64_in (by omega)) ?_)
      refine Xg.ops_op (by kernel_rfl) (Xg.opx_pure (.bool (decide ((((↑xs.length : Int) + (↑xs4.length : Int)) : Int) > ((256 : Int))))) rfl (fun _ => by kernel_rfl) ?_)
      refine Xg.ops_nil ?_
      refine Xg.at_true (t := decide (((↑xs.length : Int) + (↑xs4.length : Int) > (256 : Int)))) (by kernel_rfl) (decide_eq_true (by omega)) ?_
      refine Xg.at_seq ?_
      refine Xg.at_region ?_
      refine Xg.ops_op (by kernel_rfl) (Xg.opx_pure ((Value.bool true)) rfl (fun _ => by kernel_rfl) ?_)
      refine Xg.ops_nil ?_
      refine Xg.at_ret_ps (v := (Value.bool true)) [6, 7] [Drv te, A] Go.Proofs.Tryd.func9 (fun _ => by kernel_rfl) (by kernel_rfl) (by kernel_rfl) ?_
      exact ⟨by kernel_rfl, by kernel_rfl⟩)
  · have hE := hcat (by omega)
    (focus
      refine Xg.spec_of Go.Proofs.Tryd.func9 rfl Go.Proofs.Tryd.ntmps9 fun g F => ?_)
    refine Xg.at_nil_ints 5 .u8 ?_
    (focus
      refine Xg.at_seq ?_
      refine Xg.at_region ?_
      refine Xg.ops_op (by kernel_rfl) (Xg.opx_pure ((Value.bool false)) rfl (fun _ => by kernel_rfl) ?_)
      refine Xg.ops_nil ?_
      refine Xg.at_seq ?_
      refine Xg.at_region ?_
      refine Xg.ops_op (by kernel_rfl) (Xg.opx_pure ((Value.slice la n lc)) rfl (fun _ => by kernel_rfl) ?_)
      refine Xg.ops_op (by kernel_rfl) (Xg.opx_callE' [1, 2] (fun xx1 => [PoS xx1.fst σ xx1.snd.fst xx1.snd.snd xs, bts xx1.snd.fst xx1.snd.snd xs, Drv te, A, ints (5 : TypeId) IntKind.u8 none (0 : Nat) []]) (fun _ => by kernel_rfl) (@hm ) (by kernel_rfl) (by kernel_rfl) (by kernel_rfl) fun xx1 xh1 => ?_)
      try dsimp only at xh1
      refine Xg.ops_op (by kernel_rfl) (Xg.opx_pure ((Value.pointer (some (Addr.mk xx1.fst (0 : Nat) none)))) rfl (fun _ => by kernel_rfl) ?_)
      refine Xg.ops_nil ?_
      refine Xg.at_seq ?_
      refine Xg.at_region ?_
      refine Xg.ops_op (by kernel_rfl) (Xg.opx_pure ((Value.slice lb nb lcb)) rfl (fun _ => by kernel_rfl) ?_)
      refine Xg.ops_op (by kernel_rfl) (Xg.opx_callE' [2, 3] (fun xx2 => [PoS xx2.fst σ2 xx2.snd.fst xx2.snd.snd xs2, bts xx2.snd.fst xx2.snd.snd xs2, Drv te, A, PoS xx1.fst σ xx1.snd.fst xx1.snd.snd xs, bts xx1.snd.fst xx1.snd.snd xs, ints (5 : TypeId) IntKind.u8 none (0 : Nat) []]) (fun _ => by kernel_rfl) (@hm2 ) (by kernel_rfl) (by kernel_rfl) (by kernel_rfl) fun xx2 xh2 => ?_)
      try dsimp only at xh2
      refine Xg.ops_op (by kernel_rfl) (Xg.opx_pure ((Value.pointer (some (Addr.mk xx2.fst (0 : Nat) none)))) rfl (fun _ => by kernel_rfl) ?_)
      refine Xg.ops_nil ?_
      refine Xg.at_seq ?_
      refine Xg.at_seq ?_
      refine Xg.at_region ?_
      refine Xg.ops_op (by kernel_rfl) (Xg.opx_pure ((Value.pointer (some (Addr.mk xx1.fst (0 : Nat) none)))) rfl (fun _ => by kernel_rfl) ?_)
      refine Xg.ops_op (by kernel_rfl) (Xg.opx_pure ((Value.bool false)) rfl (fun _ => by kernel_rfl) ?_)
      refine Xg.ops_op (by kernel_rfl) (Xg.opx_pure ((Value.bool false)) rfl (fun _ => by kernel_rfl) ?_)
      refine Xg.ops_op (by kernel_rfl) (Xg.opx_pure ((Value.pointer (some (Addr.mk xx2.fst (0 : Nat) none)))) rfl (fun _ => by kernel_rfl) ?_)
      refine Xg.ops_op (by kernel_rfl) (Xg.opx_pure ((Value.bool false)) rfl (fun _ => by kernel_rfl) ?_)
      refine Xg.ops_op (by kernel_rfl) (Xg.opx_pure ((Value.bool false)) rfl (fun _ => by kernel_rfl) ?_)
      refine Xg.ops_nil ?_
      refine Xg.at_false (t := false) (by kernel_rfl) rfl ?_
      refine Xg.at_skip ?_
      refine Xg.at_seq ?_
      refine Xg.at_region ?_
      refine Xg.ops_op (by kernel_rfl) (Xg.opx_pure ((Value.pointer (some (Addr.mk xx2.fst (0 : Nat) none)))) rfl (fun _ => by kernel_rfl) ?_)
      refine Xg.ops_op (by kernel_rfl) (Xg.opx_pure ((Value.pointer (some (Addr.mk xx1.fst (0 : Nat) none)))) rfl (fun _ => by kernel_rfl) ?_)
      refine Xg.ops_op (by kernel_rfl) (Xg.opx_callE' [4] (fun xx3 => [bts xx3.fst xx3.snd (stL σ), PoR xx1.fst σ (Value.slice xx1.snd.fst xs.length xx1.snd.snd), PoS xx2.fst σ2 xx2.snd.fst xx2.snd.snd xs2, bts xx2.snd.fst xx2.snd.snd xs2, Drv te, A, bts xx1.snd.fst xx1.snd.snd xs, ints (5 : TypeId) IntKind.u8 none (0 : Nat) []]) (fun _ => by kernel_rfl) (@Go.Proofs.YtncdmccdclhokaaDoor.state_d (xx1.fst) (σ) (by omega) ((Value.slice xx1.snd.fst xs.length xx1.snd.snd))) (by kernel_rfl) (by kernel_rfl) (by kernel_rfl) fun xx3 xh3 => ?_)
      try dsimp only at xh3
      refine Xg.ops_op (by kernel_rfl) (Xg.opx_call1' [2, 0] [PoR xx2.fst σ (Value.slice none (0 : Nat) (0 : Nat)), bts xx3.fst xx3.snd (stL σ), PoR xx1.fst σ (Value.slice xx1.snd.fst xs.length xx1.snd.snd), bts xx2.snd.fst xx2.snd.snd xs2, Drv te, A, bts xx1.snd.fst xx1.snd.snd xs, ints (5 : TypeId) IntKind.u8 none (0 : Nat) []] (fun _ => by kernel_rfl) (@Go.Proofs.YtncdmccdclhokaaDoor.load_st (xx2.fst) (σ2) ((Value.slice xx2.snd.fst xs2.length xx2.snd.snd)) (σ) (by omega) (xx3.fst) (xx3.snd)) (by kernel_rfl) (by kernel_rfl) (by kernel_rfl) ?_)
      refine Xg.ops_op (by kernel_rfl) (Xg.opx_pure ((Value.int IntKind.i64 (0 : Int))) rfl (fun _ => by kernel_rfl) ?_)
      refine Xg.ops_nil ?_
      refine Xg.at_seq ?_
      refine Xg.at_region ?_
      refine Xg.ops_op (by kernel_rfl) (Xg.opx_pure ((Value.pointer (some (Addr.mk xx1.fst (0 : Nat) none)))) rfl (fun _ => by kernel_rfl) ?_)
      refine Xg.ops_op (by kernel_rfl) (Xg.opx_pure ((Value.pointer (some (Addr.mk xx2.fst (0 : Nat) none)))) rfl (fun _ => by kernel_rfl) ?_)
      refine Xg.ops_op (by kernel_rfl) (Xg.opx_call1' [2, 0] [PoR xx1.fst σ (Value.slice xx1.snd.fst xs.length xx1.snd.snd), PoR xx2.fst σ (Value.slice none (0 : Nat) (0 : Nat)), bts xx3.fst xx3.snd (stL σ), bts xx2.snd.fst xx2.snd.snd xs2, Drv te, A, bts xx1.snd.fst xx1.snd.snd xs, ints (5 : TypeId) IntKind.u8 none (0 : Nat) []] (fun _ => by kernel_rfl) (@Go.Proofs.YtncdmccdclhokaaDoor.alike_d (xx1.fst) (xx2.fst) (σ) (by omega) ((Value.slice xx1.snd.fst xs.length xx1.snd.snd)) ((Value.slice none (0 : Nat) (0 : Nat)))) (by kernel_rfl) (by kernel_rfl) (by kernel_rfl) ?_)
      refine Xg.ops_op (by kernel_rfl) (Xg.opx_pure ((Value.bool true)) rfl (fun _ => by kernel_rfl) ?_)
      refine Xg.ops_nil ?_
      refine Xg.at_seq ?_
      refine Xg.at_region ?_
      refine Xg.ops_op (by kernel_rfl) (Xg.opx_pure ((Value.pointer (some (Addr.mk xx1.fst (0 : Nat) none)))) rfl (fun _ => by kernel_rfl) ?_)
      refine Xg.ops_op (by kernel_rfl) (Xg.opx_callE' [0, 6] (fun xx4 => [bts xx4.fst xx4.snd xs, PoS xx1.fst σ xx1.snd.fst xx1.snd.snd xs, bts xx1.snd.fst xx1.snd.snd xs, PoR xx2.fst σ (Value.slice none (0 : Nat) (0 : Nat)), bts xx3.fst xx3.snd (stL σ), bts xx2.snd.fst xx2.snd.snd xs2, Drv te, A, ints (5 : TypeId) IntKind.u8 none (0 : Nat) []]) (fun _ => by kernel_rfl) (@Go.Proofs.YtncdmccdclhokaaDoor.sent_d (xx1.fst) (σ) (xx1.snd.fst) (xx1.snd.snd) (xs) (by omega)) (by kernel_rfl) (by kernel_rfl) (by kernel_rfl) fun xx4 xh4 => ?_)
      try dsimp only at xh4
      refine Xg.ops_op (by kernel_rfl) (Xg.opx_pure ((Value.slice xx4.fst xs.length xx4.snd)) rfl (fun _ => by kernel_rfl) ?_)
      refine Xg.ops_nil ?_
      refine Xg.at_seq ?_
      refine Xg.at_region ?_
      refine Xg.ops_op (by kernel_rfl) (Xg.opx_pure ((Value.pointer (some (Addr.mk xx1.fst (0 : Nat) none)))) rfl (fun _ => by kernel_rfl) ?_)
      refine Xg.ops_op (by kernel_rfl) (Xg.opx_pure ((Value.slice ld nd lcd)) rfl (fun _ => by kernel_rfl) ?_)
      refine Xg.ops_op (by kernel_rfl) (Xg.opx_callE' [1, 2, 6, 7] (fun xx5 => [PoS xx1.fst σ4 xx5.fst xx5.snd xs3, bts xx5.fst xx5.snd xs3, Drv te, A, bts xx4.fst xx4.snd xs, PoR xx2.fst σ (Value.slice none (0 : Nat) (0 : Nat)), bts xx3.fst xx3.snd (stL σ), bts xx2.snd.fst xx2.snd.snd xs2, ints (5 : TypeId) IntKind.u8 none (0 : Nat) []]) (fun _ => by kernel_rfl) (@ha3 (xx1.fst) (xx1.snd.fst) (xx1.snd.snd)) (by kernel_rfl) (by kernel_rfl) (by kernel_rfl) fun xx5 xh5 => ?_)
      try dsimp only at xh5
      refine Xg.ops_op (by kernel_rfl) (Xg.opx_pure ((Value.bool true)) rfl (fun _ => by kernel_rfl) ?_)
      refine Xg.ops_nil ?_
      refine Xg.at_seq ?_
      refine Xg.at_region ?_
      refine Xg.ops_op (by kernel_rfl) (Xg.opx_pure ((Value.pointer (some (Addr.mk xx2.fst (0 : Nat) none)))) rfl (fun _ => by kernel_rfl) ?_)
      refine Xg.ops_op (by kernel_rfl) (Xg.opx_pure ((Value.slice ld nd lcd)) rfl (fun _ => by kernel_rfl) ?_)
      refine Xg.ops_op (by kernel_rfl) (Xg.opx_callE' [5, 8, 2, 3] (fun xx6 => [PoS xx2.fst σ4 xx6.fst xx6.snd xs4, bts xx6.fst xx6.snd xs4, Drv te, A, PoS xx1.fst σ4 xx5.fst xx5.snd xs3, bts xx5.fst xx5.snd xs3, bts xx4.fst xx4.snd xs, bts xx3.fst xx3.snd (stL σ), bts xx2.snd.fst xx2.snd.snd xs2]) (fun _ => by kernel_rfl) (@ha4 (xx2.fst)) (by kernel_rfl) (by kernel_rfl) (by kernel_rfl) fun xx6 xh6 => ?_)
      try dsimp only at xh6
      refine Xg.ops_op (by kernel_rfl) (Xg.opx_pure ((Value.bool true)) rfl (fun _ => by kernel_rfl) ?_)
      refine Xg.ops_nil ?_
      refine Xg.at_seq ?_
      refine Xg.at_region ?_
      refine Xg.ops_op (by kernel_rfl) (Xg.opx_pure ((Value.pointer (some (Addr.mk xx1.fst (0 : Nat) none)))) rfl (fun _ => by kernel_rfl) ?_)
      refine Xg.ops_op (by kernel_rfl) (Xg.opx_pure ((Value.pointer (some (Addr.mk xx2.fst (0 : Nat) none)))) rfl (fun _ => by kernel_rfl) ?_)
      refine Xg.ops_op (by kernel_rfl) (Xg.opx_call1' [4, 0] [PoR xx1.fst σ4 (Value.slice xx5.fst xs3.length xx5.snd), PoR xx2.fst σ4 (Value.slice xx6.fst xs4.length xx6.snd), bts xx6.fst xx6.snd xs4, Drv te, A, bts xx5.fst xx5.snd xs3, bts xx4.fst xx4.snd xs, bts xx3.fst xx3.snd (stL σ), bts xx2.snd.fst xx2.snd.snd xs2] (fun _ => by kernel_rfl) (@Go.Proofs.YtncdmccdclhokaaDoor.alike_d (xx1.fst) (xx2.fst) (σ4) (by omega) ((Value.slice xx5.fst xs3.length xx5.snd)) ((Value.slice xx6.fst xs4.length xx6.snd))) (by kernel_rfl) (by kernel_rfl) (by kernel_rfl) ?_)
      refine Xg.ops_op (by kernel_rfl) (Xg.opx_pure ((Value.bool true)) rfl (fun _ => by kernel_rfl) ?_)
      refine Xg.ops_nil ?_
      refine Xg.at_seq ?_
      refine Xg.at_region ?_
      refine Xg.ops_op (by kernel_rfl) (Xg.opx_pure ((Value.pointer (some (Addr.mk xx1.fst (0 : Nat) none)))) rfl (fun _ => by kernel_rfl) ?_)
      refine Xg.ops_op (by kernel_rfl) (Xg.opx_callE' [0, 5] (fun xx7 => [bts xx7.fst xx7.snd xs3, PoS xx1.fst σ4 xx5.fst xx5.snd xs3, bts xx5.fst xx5.snd xs3, PoR xx2.fst σ4 (Value.slice xx6.fst xs4.length xx6.snd), bts xx6.fst xx6.snd xs4, Drv te, A, bts xx4.fst xx4.snd xs, bts xx3.fst xx3.snd (stL σ), bts xx2.snd.fst xx2.snd.snd xs2]) (fun _ => by kernel_rfl) (@Go.Proofs.YtncdmccdclhokaaDoor.sent_d (xx1.fst) (σ4) (xx5.fst) (xx5.snd) (xs3) (by omega)) (by kernel_rfl) (by kernel_rfl) (by kernel_rfl) fun xx7 xh7 => ?_)
      try dsimp only at xh7
      refine Xg.ops_op (by kernel_rfl) (Xg.opx_pure ((Value.slice xx7.fst xs3.length xx7.snd)) rfl (fun _ => by kernel_rfl) ?_)
      refine Xg.ops_nil ?_
      refine Xg.at_seq ?_
      refine Xg.at_region ?_
      refine Xg.ops_op (by kernel_rfl) (Xg.opx_pure ((Value.pointer (some (Addr.mk xx2.fst (0 : Nat) none)))) rfl (fun _ => by kernel_rfl) ?_)
      refine Xg.ops_op (by kernel_rfl) (Xg.opx_callE' [3, 4] (fun xx8 => [bts xx8.fst xx8.snd xs4, PoS xx2.fst σ4 xx6.fst xx6.snd xs4, bts xx6.fst xx6.snd xs4, bts xx7.fst xx7.snd xs3, PoS xx1.fst σ4 xx5.fst xx5.snd xs3, bts xx5.fst xx5.snd xs3, Drv te, A, bts xx4.fst xx4.snd xs, bts xx3.fst xx3.snd (stL σ), bts xx2.snd.fst xx2.snd.snd xs2]) (fun _ => by kernel_rfl) (@Go.Proofs.YtncdmccdclhokaaDoor.sent_d (xx2.fst) (σ4) (xx6.fst) (xx6.snd) (xs4) (by omega)) (by kernel_rfl) (by kernel_rfl) (by kernel_rfl) fun xx8 xh8 => ?_)
      try dsimp only at xh8
      refine Xg.ops_op (by kernel_rfl) (Xg.opx_pure ((Value.slice xx8.fst xs4.length xx8.snd)) rfl (fun _ => by kernel_rfl) ?_)
      refine Xg.ops_nil ?_
      refine Xg.at_seq ?_
      refine Xg.at_seq ?_
      refine Xg.at_region ?_
      refine Xg.ops_op (by kernel_rfl) (Xg.opx_pure ((Value.int IntKind.i64 (0 : Int))) rfl (fun _ => by kernel_rfl) ?_)
      refine Xg.ops_op (by kernel_rfl) (Xg.opx_pure ((Value.bool false)) rfl (fun _ => by kernel_rfl) ?_)
      refine Xg.ops_op (by kernel_rfl) (Xg.opx_pure ((Value.bool false)) rfl (fun _ => by kernel_rfl) ?_)
      refine Xg.ops_op (by kernel_rfl) (Xg.opx_pure ((Value.bool true)) rfl (fun _ => by kernel_rfl) ?_)
      refine Xg.ops_op (by kernel_rfl) (Xg.opx_pure (.bool false) rfl (fun _ => by kernel_rfl) ?_)
      refine Xg.ops_op (by kernel_rfl) (Xg.opx_pure ((Value.bool false)) rfl (fun _ => by kernel_rfl) ?_)
      refine Xg.ops_op (by kernel_rfl) (Xg.opx_pure ((Value.bool false)) rfl (fun _ => by kernel_rfl) ?_)
      refine Xg.ops_op (by kernel_rfl) (Xg.opx_pure ((Value.bool true)) rfl (fun _ => by kernel_rfl) ?_)
      refine Xg.ops_op (by kernel_rfl) (Xg.opx_pure (.bool false) rfl (fun _ => by kernel_rfl) ?_)
      refine Xg.ops_op (by kernel_rfl) (Xg.opx_pure ((Value.bool false)) rfl (fun _ => by kernel_rfl) ?_)
      refine Xg.ops_op (by kernel_rfl) (Xg.opx_pure ((Value.bool false)) rfl (fun _ => by kernel_rfl) ?_)
      refine Xg.ops_op (by kernel_rfl) (Xg.opx_pure ((Value.bool true)) rfl (fun _ => by kernel_rfl) ?_)
      refine Xg.ops_op (by kernel_rfl) (Xg.opx_pure (.bool false) rfl (fun _ => by kernel_rfl) ?_)
      refine Xg.ops_op (by kernel_rfl) (Xg.opx_pure ((Value.bool false)) rfl (fun _ => by kernel_rfl) ?_)
      refine Xg.ops_op (by kernel_rfl) (Xg.opx_pure ((Value.bool false)) rfl (fun _ => by kernel_rfl) ?_)
      refine Xg.ops_op (by kernel_rfl) (Xg.opx_pure ((Value.bool true)) rfl (fun _ => by kernel_rfl) ?_)
      refine Xg.ops_op (by kernel_rfl) (Xg.opx_pure (.bool false) rfl (fun _ => by kernel_rfl) ?_)
      refine Xg.ops_op (by kernel_rfl) (Xg.opx_pure ((Value.bool false)) rfl (fun _ => by kernel_rfl) ?_)
      refine Xg.ops_op (by kernel_rfl) (Xg.opx_pure ((Value.bool false)) rfl (fun _ => by kernel_rfl) ?_)
      refine Xg.ops_op (by kernel_rfl) (Xg.opx_pure ((Value.slice xx8.fst xs4.length xx8.snd)) rfl (fun _ => by kernel_rfl) ?_)
      refine Xg.ops_op (by kernel_rfl) (Xg.opx_pure ((Value.int IntKind.i64 (↑xs4.length : Int))) rfl (fun _ => by kernel_rfl) ?_)
      refine Xg.ops_op (by kernel_rfl) (Xg.opx_pure ((Value.slice xx7.fst xs3.length xx7.snd)) rfl (fun _ => by kernel_rfl) ?_)
      refine Xg.ops_op (by kernel_rfl) (Xg.opx_pure ((Value.int IntKind.i64 (↑xs3.length : Int))) rfl (fun _ => by kernel_rfl) ?_)
      refine Xg.ops_op (by kernel_rfl) (Xg.opx_pure (.bool (decide ((((↑xs4.length : Int)) : Int) > ((↑xs3.length : Int))))) rfl (fun _ => by kernel_rfl) ?_)
      refine Xg.ops_flag (j := 72) (c := (decide ((↑xs4.length : Int) > (↑xs3.length : Int)))) (by kernel_rfl) (fun xh9 => absurd (of_decide_eq_true xh9) (by omega)) (fun _ => ?_)
      refine Xg.ops_op (by kernel_rfl) (Xg.opx_pure ((Value.bool false)) rfl (fun _ => by kernel_rfl) ?_)
      refine Xg.ops_nil ?_
      refine Xg.at_false (t := false) (by kernel_rfl) rfl ?_
      refine Xg.at_skip ?_
      refine Xg.at_seq ?_
      refine Xg.at_seq ?_
      refine Xg.at_region ?_
      refine Xg.ops_op (by kernel_rfl) (Xg.opx_pure ((Value.slice xx4.fst xs.length xx4.snd)) rfl (fun _ => by kernel_rfl) ?_)
      refine Xg.ops_op (by kernel_rfl) (Xg.opx_pure ((Value.int IntKind.i64 (↑xs.length : Int))) rfl (fun _ => by kernel_rfl) ?_)
      refine Xg.ops_op (by kernel_rfl) (Xg.opx_pure ((Value.slice xx8.fst xs4.length xx8.snd)) rfl (fun _ => by kernel_rfl) ?_)
      refine Xg.ops_op (by kernel_rfl) (Xg.opx_pure ((Value.int IntKind.i64 (↑xs4.length : Int))) rfl (fun _ => by kernel_rfl) ?_)
      refine Xg.ops_op (by kernel_rfl) (Xg.opx_int .i64 (IntKind.wrap .i64 (((↑xs.length : Int) + (↑xs4.length : Int)))) rfl (fun _ => by kernel_rfl) (Xg.wrap_i64_in (by omega)) ?_)
      refine Xg.ops_op (by kernel_rfl) (Xg.opx_pure (.bool (decide ((((↑xs.length : Int) + (↑xs4.length : Int)) : Int) > ((256 : Int))))) rfl (fun _ => by kernel_rfl) ?_)
      refine Xg.ops_nil ?_
      refine Xg.at_false (t := decide (((↑xs.length : Int) + (↑xs4.length : Int) > (256 : Int)))) (by kernel_rfl) (decide_eq_false (by omega)) ?_
      refine Xg.at_skip ?_
      refine Xg.at_seq ?_
      refine Xg.at_region ?_
      refine Xg.ops_op (by kernel_rfl) (Xg.opx_pure ((Value.slice xx7.fst xs3.length xx7.snd)) rfl (fun _ => by kernel_rfl) ?_)
      refine Xg.ops_op (by kernel_rfl) (Xg.opx_rd 3 (.string (Xg.St xs3)) rfl (Xg.reads_own (E := ((5 : TypeId))) (sz := ((1 : Nat))) (n := xs3.length) (c := xx7.snd) (a := xx7.fst) (vs := (List.map (Value.int IntKind.u8) xs3))) (by kernel_rfl) (Xg.run_str_rd (e := 5) (a := xx7.fst) (n := xs3.length) (c := xx7.snd) (xs := xs3) (by kernel_rfl) (by kernel_rfl) (by kernel_rfl) (by kernel_rfl)) ?_)
      refine Xg.ops_op (by kernel_rfl) (Xg.opx_pure ((Value.slice xx4.fst xs.length xx4.snd)) rfl (fun _ => by kernel_rfl) ?_)
      refine Xg.ops_op (by kernel_rfl) (Xg.opx_rd 8 (.string (Xg.St xs)) rfl (Xg.reads_own (E := ((5 : TypeId))) (sz := ((1 : Nat))) (n := xs.length) (c := xx4.snd) (a := xx4.fst) (vs := (List.map (Value.int IntKind.u8) xs))) (by kernel_rfl) (Xg.run_str_rd (e := 5) (a := xx4.fst) (n := xs.length) (c := xx4.snd) (xs := xs) (by kernel_rfl) (by kernel_rfl) (by kernel_rfl) (by kernel_rfl)) ?_)
      refine Xg.ops_op (by kernel_rfl) (Xg.opx_pure ((Value.slice xx8.fst xs4.length xx8.snd)) rfl (fun _ => by kernel_rfl) ?_)
      refine Xg.ops_op (by kernel_rfl) (Xg.opx_rd 0 (.string (Xg.St xs4)) rfl (Xg.reads_own (E := ((5 : TypeId))) (sz := ((1 : Nat))) (n := xs4.length) (c := xx8.snd) (a := xx8.fst) (vs := (List.map (Value.int IntKind.u8) xs4))) (by kernel_rfl) (Xg.run_str_rd (e := 5) (a := xx8.fst) (n := xs4.length) (c := xx8.snd) (xs := xs4) (by kernel_rfl) (by kernel_rfl) (by kernel_rfl) (by kernel_rfl)) ?_)
      refine Xg.ops_op (by kernel_rfl) (Xg.opx_run (.string (Xg.St (xs ++ xs4))) rfl (Xg.run_str_add (xs := xs) (ys := xs4) (by kernel_rfl) (by kernel_rfl) (by first | omega | (simp; done) | (simp; omega))) ?_)
      refine Xg.ops_op (by kernel_rfl) (Xg.opx_run (.bool true) rfl (Xg.run_str_same (xs := xs3) (ys := (xs ++ xs4)) (by kernel_rfl) (by kernel_rfl) (by kernel_rfl) (by assumption)) ?_)
      refine Xg.ops_op (by kernel_rfl) (Xg.opx_pure ((Value.bool true)) rfl (fun _ => by kernel_rfl) ?_)
      refine Xg.ops_nil ?_
      refine Xg.at_ret_ps (v := (Value.bool true)) [6, 7] [Drv te, A] Go.Proofs.Tryd.func9 (fun _ => by kernel_rfl) (by kernel_rfl) (by kernel_rfl) ?_
      exact ⟨by kernel_rfl, by kernel_rfl⟩)

end Go.Proofs.YtncdmccdclhokaaDoor
