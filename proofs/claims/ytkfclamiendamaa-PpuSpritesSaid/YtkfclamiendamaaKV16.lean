/- The picture: what a Tick makes of it (plain). -/
import Derived.Test.YtkfclamiendamaaKV15
import Derived.Test.YtkfclamiendamaaKS
namespace Go.Proofs.Ytkfclamiendamaa
open Go.Sl Go.Xg
set_option linter.unusedVariables false
set_option linter.unusedSimpArgs false
set_option maxHeartbeats 4000000
set_option maxRecDepth 100000

/-- Of a palette's register. -/
def palI (σ : Pp) (r n : Int) : Int := σ.regs r.toNat / 2 ^ (2 * n).toNat % 4
theorem palI_bd (σ : Pp) (r n : Int) : 0 ≤ palI σ r n ∧ palI σ r n ≤ 3 := by unfold palI; omega
def winB (σ : Pp) : Bool := hasB (σ.regs 0) 5 && (σ.seen && decide (σ.regs 11 ≤ 166))
/-- The background's number. -/
def groundI (σ : Pp) (x : Int) : Int :=
  if hasB (σ.regs 0) 0 = true then
    (if winB σ = true ∧ x + 7 ≥ σ.regs 11 then tileI σ (hasB (σ.regs 0) 6) σ.rows (x + 7 - σ.regs 11)
     else tileI σ (hasB (σ.regs 0) 3) ((σ.regs 4 + σ.regs 2) % 256) ((x + σ.regs 3) % 256))
  else 0
def mixI (σ : Pp) (n : Int) (o : Spr × Int) : Int :=
  if o.2 > 0 ∧ (band .i64 o.1.flags 128 = 0 ∨ n = 0) then palI σ (8 + o.1.flags / 16 % 2) o.2 else palI σ 7 n
def pixI (σ : Pp) (l : List Spr) (x : Int) : Int := mixI σ (groundI σ x) (overI σ (σ.regs 4) x l)
theorem pixI_bd (σ : Pp) (l : List Spr) (x : Int) : 0 ≤ pixI σ l x ∧ pixI σ l x ≤ 3 := by
  unfold pixI mixI
  split <;> exact palI_bd _ _ _
/-- The picture with a line's first points drawn. -/
def drawF (σ : Pp) (l : List Spr) (k : Nat) : Nat → Int := fun i => if 160 * (σ.regs 4).toNat ≤ i ∧ i < 160 * (σ.regs 4).toNat + k then pixI σ l ((i : Int) - 160 * σ.regs 4) else σ.now i
theorem drawF_0 (σ : Pp) (l : List Spr) : drawF σ l 0 = σ.now := by
  funext i
  unfold drawF
  rw [if_neg (by omega)]
theorem drawF_succ (σ : Pp) (l : List Spr) (k : Nat) (h : 0 ≤ σ.regs 4) : drawF σ l (k + 1) = upd (drawF σ l k) (160 * (σ.regs 4).toNat + k) (pixI σ l k) := by
  funext i
  by_cases e : i = 160 * (σ.regs 4).toNat + k
  · subst e
    rw [upd_same]
    unfold drawF
    rw [if_pos (by omega), show ((160 * (σ.regs 4).toNat + k : Nat) : Int) - 160 * σ.regs 4 = k from by omega]
  · rw [upd_ne e]
    unfold drawF
    by_cases h1 : 160 * (σ.regs 4).toNat ≤ i ∧ i < 160 * (σ.regs 4).toNat + k
    · rw [if_pos h1, if_pos (by omega)]
    · rw [if_neg h1, if_neg (by omega)]
theorem drawF_bd {σ : Pp} (hσ : σ.Wf) (l : List Spr) (k : Nat) : ∀ i, 0 ≤ drawF σ l k i ∧ drawF σ l k i ≤ 3 := fun i => by
  unfold drawF
  split
  · exact pixI_bd _ _ _
  · exact hσ.now i
/-- A line is drawn. -/
def drawP (σ : Pp) : Pp := { σ with now := drawF σ (sprL σ (σ.regs 4)) 160, rows := if winB σ = true then σ.rows + 1 else σ.rows }

/-- The STAT line. -/
def lineB (σ : Pp) : Bool :=
  hasB (σ.regs 0) 7 && ((decide (band .i64 (σ.regs 1) 64 ≠ 0) && decide (σ.regs 4 = σ.regs 5)) ||
    (if modeI σ = 0 then decide (band .i64 (σ.regs 1) 8 ≠ 0) else if modeI σ = 1 then decide (band .i64 (σ.regs 1) 16 ≠ 0) else if modeI σ = 2 then decide (band .i64 (σ.regs 1) 32 ≠ 0) else false))

/-- Four clocks; what comes behind is told. -/
def lyP (σ : Pp) : Pp := { σ with clock := 0, regs := upd σ.regs 4 (σ.regs 4 + 1) }
def nextP (σ : Pp) : Pp :=
  if σ.clock + 4 = 80 then (if σ.regs 4 < 144 ∧ σ.regs 4 = σ.regs 10 then { σ with clock := σ.clock + 4, seen := true } else { σ with clock := σ.clock + 4 })
  else if σ.clock + 4 = 252 then (if σ.regs 4 < 144 then drawP { σ with clock := σ.clock + 4 } else { σ with clock := σ.clock + 4 })
  else if σ.clock + 4 = 456 then
    (if σ.regs 4 + 1 = 144 then { lyP σ with last := σ.now } else if σ.regs 4 + 1 = 154 then begP (lyP σ) else lyP σ)
  else { σ with clock := σ.clock + 4 }
def tickP (σ : Pp) : Pp := if hasB (σ.regs 0) 7 = true then nextP σ else σ
def tickA (σ : Pp) : Int :=
  if hasB (σ.regs 0) 7 = true then
    (if σ.clock = 452 ∧ σ.regs 4 = 143 then 1 else 0) + (if lineB σ = false ∧ lineB (nextP σ) = true then 2 else 0)
  else 0

/-- What holds of it always, with what the lines need: rows are no more than lines. -/
structure Pp.Ok (σ : Pp) : Prop where
  wf : σ.Wf
  four : σ.clock % 4 = 0
  rowsLy : σ.regs 4 < 144 → σ.rows ≤ σ.regs 4 + 1 ∧ (σ.clock < 252 → σ.rows ≤ σ.regs 4)

theorem wf_clock {σ : Pp} (h : σ.Wf) {c : Int} (hc : 0 ≤ c ∧ c ≤ 452) : ({ σ with clock := c } : Pp).Wf := ⟨h.regs, h.vram, h.oam, hc, h.ly, h.rows, h.now, h.last⟩
theorem wf_seen {σ : Pp} (h : σ.Wf) (b : Bool) : ({ σ with seen := b } : Pp).Wf := ⟨h.regs, h.vram, h.oam, h.clock, h.ly, h.rows, h.now, h.last⟩
theorem wf_now {σ : Pp} (h : σ.Wf) {f : Nat → Int} (hf : ∀ i, 0 ≤ f i ∧ f i ≤ 3) : ({ σ with now := f } : Pp).Wf := ⟨h.regs, h.vram, h.oam, h.clock, h.ly, h.rows, hf, h.last⟩
theorem wf_last {σ : Pp} (h : σ.Wf) {f : Nat → Int} (hf : ∀ i, 0 ≤ f i ∧ f i ≤ 3) : ({ σ with last := f } : Pp).Wf := ⟨h.regs, h.vram, h.oam, h.clock, h.ly, h.rows, h.now, hf⟩
theorem wf_beg {σ : Pp} (h : ∀ i, 0 ≤ σ.regs i ∧ σ.regs i ≤ 255) (hv : ∀ i, 0 ≤ σ.vram i ∧ σ.vram i ≤ 255) (ho : ∀ i, 0 ≤ σ.oam i ∧ σ.oam i ≤ 255) (hn : ∀ i, 0 ≤ σ.now i ∧ σ.now i ≤ 3) (hl : ∀ i, 0 ≤ σ.last i ∧ σ.last i ≤ 3) : (begP σ).Wf :=
  ⟨upd_bd h 4 (by omega), hv, ho, by show (0:Int) ≤ 0 ∧ (0:Int) ≤ 452; omega, by show upd σ.regs 4 0 4 ≤ 153; rw [upd_same]; omega, by show (0:Int) ≤ 0 ∧ (0:Int) ≤ 144; omega, hn, hl⟩
theorem ok_beg {σ : Pp} (h : (begP σ).Wf) : (begP σ).Ok := ⟨h, rfl, fun _ => by
  show (0:Int) ≤ upd σ.regs 4 0 4 + 1 ∧ ((0:Int) < 252 → (0:Int) ≤ upd σ.regs 4 0 4)
  rw [upd_same]; omega⟩
theorem wf_draw {σ : Pp} (h : σ.Wf) (hr : σ.rows ≤ 143) : (drawP σ).Wf := by
  refine ⟨h.regs, h.vram, h.oam, h.clock, h.ly, ?_, drawF_bd h _ _, h.last⟩
  have := h.rows
  show 0 ≤ (if winB σ = true then σ.rows + 1 else σ.rows) ∧ (if winB σ = true then σ.rows + 1 else σ.rows) ≤ 144
  split <;> omega
theorem ok_next {σ : Pp} (h : σ.Ok) : (nextP σ).Ok := by
  have hc := h.wf.clock
  have h4 := h.four
  have hly := h.wf.ly
  have hl0 := (h.wf.regs 4).1
  have hrl := h.rowsLy
  have hr := h.wf.rows
  unfold nextP
  split
  · split
    · exact ⟨wf_seen (wf_clock (c := σ.clock + 4) h.wf (by omega)) true, by show (σ.clock + 4) % 4 = 0; omega, fun hh => by
        show σ.rows ≤ σ.regs 4 + 1 ∧ (σ.clock + 4 < 252 → σ.rows ≤ σ.regs 4)
        have := hrl hh; omega⟩
    · exact ⟨wf_clock h.wf (by omega), by show (σ.clock + 4) % 4 = 0; omega, fun hh => by
        show σ.rows ≤ σ.regs 4 + 1 ∧ (σ.clock + 4 < 252 → σ.rows ≤ σ.regs 4)
        have := hrl hh; omega⟩
  · split
    · split
      · rename_i hlt
        have := hrl hlt
        refine ⟨wf_draw (wf_clock (c := σ.clock + 4) h.wf (by omega)) (by show σ.rows ≤ 143; omega), by show (σ.clock + 4) % 4 = 0; omega, fun hh => ?_⟩
        show (if winB { σ with clock := σ.clock + 4 } = true then σ.rows + 1 else σ.rows) ≤ σ.regs 4 + 1 ∧ (σ.clock + 4 < 252 → (if winB { σ with clock := σ.clock + 4 } = true then σ.rows + 1 else σ.rows) ≤ σ.regs 4)
        split <;> omega
      · exact ⟨wf_clock h.wf (by omega), by show (σ.clock + 4) % 4 = 0; omega, fun hh => absurd hh (by assumption)⟩
    · split
      · have hw : (lyP σ).Wf ∨ σ.regs 4 = 153 := by
          by_cases e : σ.regs 4 = 153
          · exact .inr e
          · refine .inl ⟨upd_bd h.wf.regs 4 (by omega), h.wf.vram, h.wf.oam, by show (0:Int) ≤ 0 ∧ (0:Int) ≤ 452; omega, ?_, h.wf.rows, h.wf.now, h.wf.last⟩
            show upd σ.regs 4 (σ.regs 4 + 1) 4 ≤ 153
            rw [upd_same]; omega
        have hok : σ.regs 4 ≠ 153 → (lyP σ).Ok := fun e => by
          rcases hw with hw | hw
          · refine ⟨hw, rfl, ?_⟩
            show upd σ.regs 4 (σ.regs 4 + 1) 4 < 144 → σ.rows ≤ upd σ.regs 4 (σ.regs 4 + 1) 4 + 1 ∧ ((0:Int) < 252 → σ.rows ≤ upd σ.regs 4 (σ.regs 4 + 1) 4)
            rw [upd_same]
            intro hh
            have := hrl (by omega)
            omega
          · exact absurd hw e
        split
        · have ho := hok (by omega)
          exact ⟨wf_last ho.wf h.wf.now, ho.four, ho.rowsLy⟩
        · split
          · exact ok_beg (wf_beg (upd_bd h.wf.regs 4 (by omega)) h.wf.vram h.wf.oam h.wf.now h.wf.last)
          · exact hok (by omega)
      · exact ⟨wf_clock h.wf (by omega), by show (σ.clock + 4) % 4 = 0; omega, fun hh => by
          show σ.rows ≤ σ.regs 4 + 1 ∧ (σ.clock + 4 < 252 → σ.rows ≤ σ.regs 4)
          have := hrl hh; omega⟩
theorem ok_tick {σ : Pp} (h : σ.Ok) : (tickP σ).Ok := by
  unfold tickP; split
  · exact ok_next h
  · exact h
theorem tickA_bd (σ : Pp) : 0 ≤ tickA σ ∧ tickA σ ≤ 3 := by
  unfold tickA
  (repeat' split) <;> omega

/-- What a write keeps. -/
theorem ok_set {σ : Pp} (h : σ.Ok) {r v : Int} (hr : 0 ≤ r ∧ r ≤ 11) (hv : 0 ≤ v ∧ v ≤ 255) : (setP σ r v).Ok := by
  have hb : ∀ v : Int, 0 ≤ v ∧ v ≤ 255 → 0 ≤ band .i64 v 120 ∧ band .i64 v 120 ≤ 255 := fun v hv => by
    obtain ⟨n, rfl⟩ := nat_of hv.1
    have := band64N (x := n) (y := 120) (by omega) (by omega)
    have h2 : n &&& 120 ≤ n := Nat.and_le_left
    have e : ((120 : Nat) : Int) = 120 := rfl
    rw [e] at this
    omega
  have plain : ∀ i : Nat, i ≠ 4 → ∀ v : Int, 0 ≤ v ∧ v ≤ 255 → ({ σ with regs := upd σ.regs i v } : Pp).Ok := fun i hi v hv =>
    ⟨wf_regs h.wf i hi hv, h.four, by
      show upd σ.regs i v 4 < 144 → σ.rows ≤ upd σ.regs i v 4 + 1 ∧ (σ.clock < 252 → σ.rows ≤ upd σ.regs i v 4)
      rw [upd_ne (Ne.symm hi)]; exact h.rowsLy⟩
  unfold setP
  split
  · exact h
  · split
    · exact plain 1 (by omega) _ (hb v hv)
    · split
      · have p0 := plain 0 (by omega) v hv
        have hw := wf_beg p0.wf.regs p0.wf.vram p0.wf.oam p0.wf.now p0.wf.last
        split
        · exact p0
        · split
          · have hz : ∀ _ : Nat, (0:Int) ≤ 0 ∧ (0:Int) ≤ 3 := fun _ => by omega
            have ho := ok_beg hw
            exact ⟨wf_now (wf_last hw hz) hz, ho.four, ho.rowsLy⟩
          · exact ok_beg hw
      · exact plain r.toNat (by omega) v hv
theorem ok_write {σ : Pp} (h : σ.Ok) (a d : Int) : (writeP σ a d).Ok := by
  unfold writeP
  split
  · split
    · exact h
    · exact ⟨wf_vram h.wf _ (by omega), h.four, h.rowsLy⟩
  · split
    · split
      · exact h
      · exact ⟨wf_oam h.wf _ (by omega), h.four, h.rowsLy⟩
    · split
      · exact h
      · exact ok_set h (by omega) (by omega)
theorem ok_new : newP.Ok := ⟨wf_new, rfl, fun _ => by
  show (0:Int) ≤ (0:Int) + 1 ∧ ((0:Int) < 252 → (0:Int) ≤ 0); omega⟩

end Go.Proofs.Ytkfclamiendamaa
