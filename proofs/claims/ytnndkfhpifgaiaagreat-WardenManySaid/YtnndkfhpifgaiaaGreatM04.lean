/-
  The disk in memory, and the contracts of its small calls.
-/
import Derived.Test.YtnndkfhpifgaiaaGreatM02
set_option linter.unusedVariables false
set_option linter.unusedSimpArgs false
namespace Go.Proofs.YtnndkfhpifgaiaaGreat
open Go.RowKit

/-- 258 cells are a write that waits: a number, a sector below n, 256 bytes. -/
def WrOk (n : Nat) (cs : List Value) : Prop :=
  cs.length = 258 ∧ ∃ (t : Int) (i : Nat) (bs : List UInt8), i < n ∧ bs.length = 256 ∧ cs = .int .i64 t :: .int .i64 i :: bcells bs

structure Dk where
  bd : Nat
  dur : Array Value
  ws : Array Value
  wr : Int

def dcells (n : Nat) (D : Dk) : Array Value := #[.slice (some ⟨D.bd, 0, none⟩) n n] ++ D.ws ++ #[.int .i64 D.wr, .int .i64 (-1), .bool false]

/-- Block d is a disk of n sectors with power, without a cut; no owner has more than B writes that wait. -/
structure DiskIs (w : World) (d n B : Nat) (D : Dk) : Prop where
  cells : At w d (dcells n D) 71
  dur : At w D.bd D.dur 116
  dsize : D.dur.size = n * 256
  bytes : ∀ v ∈ D.dur.toList, IsB v
  wsize : D.ws.size = 17
  waits : ∀ i, i < 17 → ∃ v k xs, D.ws[i]? = some v ∧ w.ownsRow 0 118 258 v k xs ∧ k ≤ B ∧ ∀ j, j < k → WrOk n ((xs.drop (j * 258)).take 258)
  ne : d ≠ D.bd
  apart : ∀ (i : Nat) (v : Value) (k : Nat), D.ws[i]? = some v → v.ownBlock = some k → k ≠ d ∧ k ≠ D.bd ∧ ∀ (j : Nat) (u : Value), D.ws[j]? = some u → u.ownBlock = some k → i = j

/-- The blocks that are the disk's. -/
def Dk.foot (d : Nat) (D : Dk) (k : Nat) : Prop := k = d ∨ k = D.bd ∨ ∃ (i : Nat) (v : Value), D.ws[i]? = some v ∧ v.ownBlock = some k

def DiskAt (w : World) (d n B : Nat) (F : Nat → Prop) : Prop := ∃ D, DiskIs w d n B D ∧ (∀ k, D.foot d k → F k) ∧ ∀ k, F k → k < w.heap.size

/-- From w to w' the disk's blocks alone have turned, and new ones. -/
def Step (d n : Nat) (F : Nat → Prop) (w : World) (B' : Nat) (w' : World) : Prop :=
  ∃ F', DiskAt w' d n B' F' ∧ (∀ k, F' k → F k ∨ w.heap.size ≤ k) ∧ Keep F w w'

section
variable {w w1 w2 : World} {d n B B1 B2 : Nat} {F F1 : Nat → Prop} {D : Dk}

theorem DiskIs.kept (h : DiskIs w d n B D) {G : Nat → Prop} (hk : Keep G w w1) (hG : ∀ k, D.foot d k → ¬ G k) : DiskIs w1 d n B D where
  cells := hk.at h.cells (hG _ (.inl rfl))
  dur := hk.at h.dur (hG _ (.inr (.inl rfl)))
  dsize := h.dsize
  bytes := h.bytes
  wsize := h.wsize
  waits := fun i hi => by
    obtain ⟨v, k, xs, h1, h2, h3⟩ := h.waits i hi
    exact ⟨v, k, xs, h1, hk.ownsRow h2 (fun b hb => hG _ (.inr (.inr ⟨i, v, h1, hb⟩))), h3⟩
  ne := h.ne
  apart := h.apart
theorem DiskIs.drew (h : DiskIs w d n B D) : DiskIs w.drew d n B D := h.kept (Keep.refl (fun _ => False) w).drew (fun _ _ h => h)
theorem DiskAt.kept (h : DiskAt w d n B F) {G : Nat → Prop} (hk : Keep G w w1) (hG : ∀ k, F k → ¬ G k) : DiskAt w1 d n B F := by
  obtain ⟨D, h1, h2, h3⟩ := h
  exact ⟨D, h1.kept hk (fun k hf => hG k (h2 k hf)), h2, fun k hf => Nat.lt_of_lt_of_le (h3 k hf) hk.size⟩
theorem DiskAt.below (h : DiskAt w d n B F) (hb : Below w.heap.size w w1) : DiskAt w1 d n B F :=
  h.kept (Keep.of_below hb (fun _ => False)) (fun _ _ => id)
theorem DiskAt.lt (h : DiskAt w d n B F) : ∀ k, F k → k < w.heap.size := h.choose_spec.2.2
theorem DiskAt.own (h : DiskAt w d n B F) : F d := h.choose_spec.2.1 _ (.inl rfl)
theorem DiskIs.mono (h : DiskIs w d n B D) (hB : B ≤ B1) : DiskIs w d n B1 D :=
  { h with waits := fun i hi => by obtain ⟨v, k, xs, h1, h2, h3, h4⟩ := h.waits i hi; exact ⟨v, k, xs, h1, h2, by omega, h4⟩ }
theorem DiskAt.mono (h : DiskAt w d n B F) (hB : B ≤ B1) : DiskAt w d n B1 F := by
  obtain ⟨D, h1, h2, h3⟩ := h; exact ⟨D, h1.mono hB, h2, h3⟩

theorem Step.refl (h : DiskAt w d n B F) : Step d n F w B w := ⟨F, h, fun _ h => .inl h, Keep.refl _ _⟩
theorem Step.of_below (h : DiskAt w d n B F) (hb : Below w.heap.size w w1) : Step d n F w B w1 := ⟨F, h.below hb, fun _ h => .inl h, Keep.of_below hb _⟩
theorem Step.keep (h : Step d n F w B w1) : Keep F w w1 := h.choose_spec.2.2
theorem Step.at (h : Step d n F w B w1) {b : Nat} {cs : Array Value} {T : TypeId} (ha : At w b cs T) (hF : ¬ F b) : At w1 b cs T := h.keep.at ha hF
/-- One step behind another one: the second begins at the disk's blocks as the first has left them. -/
theorem Step.next (h : Step d n F w B w1) (k : ∀ F', DiskAt w1 d n B F' → (∀ k, F' k → F k ∨ w.heap.size ≤ k) → Step d n F' w1 B1 w2) : Step d n F w B1 w2 := by
  obtain ⟨F1, h1, h2, h3⟩ := h
  obtain ⟨F2, k1, k2, k3⟩ := k F1 h1 h2
  refine ⟨F2, k1, fun b hb => ?_, h3.trans k3 (fun b hb hf => ?_)⟩
  · rcases k2 b hb with hf | hf
    · exact h2 b hf
    · right; have := h3.size; omega
  · rcases h2 b hf with hf | hf
    · exact hf
    · omega
end

theorem dcells_get (n : Nat) (D : Dk) (h : D.ws.size = 17) : (dcells n D)[0]? = some (.slice (some ⟨D.bd, 0, none⟩) n n) ∧ (∀ o, o < 17 → (dcells n D)[1 + o]? = D.ws[o]?) ∧
    (dcells n D)[18]? = some (.int .i64 D.wr) ∧ (dcells n D)[19]? = some (.int .i64 (-1)) ∧ (dcells n D)[20]? = some (.bool false) := by
  unfold dcells
  refine ⟨by simp [Array.getElem?_append], fun o ho => ?_, by simp [Array.getElem?_append, h], by simp [Array.getElem?_append, h], by simp [Array.getElem?_append, h]⟩
  rw [Array.append_assoc, Array.getElem?_append_right (by simp), Array.getElem?_append_left (by simp; omega)]
  simp

section
variable {w : World} {d n B : Nat} {D : Dk}
theorem DiskIs.c0 (h : DiskIs w d n B D) : w.cell? ⟨d, 0, none⟩ = some (.slice (some ⟨D.bd, 0, none⟩) n n) := by rw [h.cells.cell]; exact (dcells_get n D h.wsize).1
theorem DiskIs.cw (h : DiskIs w d n B D) {o : Nat} (ho : o < 17) : w.cell? ⟨d, 1 + o, none⟩ = D.ws[o]? := by rw [h.cells.cell]; exact (dcells_get n D h.wsize).2.1 o ho
theorem DiskIs.c18 (h : DiskIs w d n B D) : w.cell? ⟨d, 18, none⟩ = some (.int .i64 D.wr) := by rw [h.cells.cell]; exact (dcells_get n D h.wsize).2.2.1
theorem DiskIs.c19 (h : DiskIs w d n B D) : w.cell? ⟨d, 19, none⟩ = some (.int .i64 (-1)) := by rw [h.cells.cell]; exact (dcells_get n D h.wsize).2.2.2.1
theorem DiskIs.c20 (h : DiskIs w d n B D) : w.cell? ⟨d, 20, none⟩ = some (.bool false) := by rw [h.cells.cell]; exact (dcells_get n D h.wsize).2.2.2.2
end

/-- What a write leaves: a disk whose blocks are the same, or new. -/
def WriteEnd (d n B : Nat) (D : Dk) (w w' : World) : Prop := ∃ D', DiskIs w' d n (B + 1) D' ∧ D'.bd = D.bd ∧ (∀ k, D'.foot d k → D.foot d k ∨ w.heap.size ≤ k) ∧ Keep (D.foot d) w w'

theorem dcells_set (n : Nat) (D : Dk) (h : D.ws.size = 17) (o : Nat) (ho : o < 17) (v : Value) (x : Int) :
    (((dcells n D).setIfInBounds (1 + o) v).setIfInBounds 18 (.int .i64 x)).setIfInBounds 20 (.bool false) = dcells n { D with ws := D.ws.setIfInBounds o v, wr := x } := by
  apply Array.ext_getElem?
  intro i
  have hg := dcells_get n D h
  have hg' := dcells_get n { D with ws := D.ws.setIfInBounds o v, wr := x } (by simpa using h)
  have hsz : ∀ E : Dk, E.ws.size = 17 → (dcells n E).size = 21 := fun E hE => by simp [dcells, hE]
  simp only [Array.getElem?_setIfInBounds, hsz D h, Array.size_setIfInBounds]
  by_cases h20 : 20 = i
  · subst h20; simp [hg'.2.2.2.2]
  rw [if_neg h20]
  by_cases h18 : 18 = i
  · subst h18; simp [hg'.2.2.1]
  rw [if_neg h18]
  by_cases h0 : i = 0
  · subst h0; rw [if_neg (by omega), hg.1, hg'.1]
  by_cases h19 : i = 19
  · subst h19; rw [if_neg (by omega), hg.2.2.2.1, hg'.2.2.2.1]
  by_cases hlt : i < 18
  · obtain ⟨j, rfl⟩ : ∃ j, i = 1 + j := ⟨i - 1, by omega⟩
    rw [hg'.2.1 j (by omega)]
    simp only [Array.getElem?_setIfInBounds, h]
    by_cases hj : o = j
    · subst hj; simp [ho]; omega
    · rw [if_neg (by omega), if_neg hj, hg.2.1 j (by omega)]
  · rw [if_neg (by omega), Array.getElem?_eq_none (by rw [hsz D h]; omega), Array.getElem?_eq_none (by rw [hsz _ (by simpa using h)]; omega)]

theorem write_end {w w5 : World} {d n B : Nat} {D : Dk} (hd : DiskIs w d n B D) {o : Nat} (ho : o < 17) {v v' : Value} {k : Nat} {xs cs : List Value} (hv : D.ws[o]? = some v)
    (hown : w.ownsRow 0 118 258 v k xs) (hk : k ≤ B) (hxs : ∀ j, j < k → WrOk n ((xs.drop (j * 258)).take 258)) (K5 : Keep (fun b => v.ownBlock = some b) w w5)
    (hown5 : w5.ownsRow 0 118 258 v' (k + 1) (xs ++ cs)) (hb : v'.ownBlock = v.ownBlock ∨ ∃ b, v'.ownBlock = some b ∧ w.heap.size ≤ b) (x : Int) (hcs : WrOk n cs) :
    WriteEnd d n B D w (((w5.setCell ⟨d, 1 + o, none⟩ v').setCell ⟨d, 18, none⟩ (.int .i64 x)).setCell ⟨d, 20, none⟩ (.bool false)) := by
  have hvd : ¬ v.ownBlock = some d := fun h => (hd.apart o v d hv h).1 rfl
  have hvb : ¬ v.ownBlock = some D.bd := fun h => (hd.apart o v D.bd hv h).2.1 rfl
  have A5 := K5.at hd.cells hvd
  have hdlt := hd.cells.lt
  have hblt := hd.dur.lt
  have hv'd : ∀ b, v'.ownBlock = some b → b ≠ d ∧ b ≠ D.bd := fun b h => by
    rcases hb with h' | ⟨c, h', hc⟩
    · rw [h'] at h; exact ⟨fun e => hvd (e ▸ h), fun e => hvb (e ▸ h)⟩
    · rw [h'] at h; simp only [Option.some.injEq] at h; subst h; exact ⟨by omega, by omega⟩
  have hxl : xs.length = k * 258 := hown.1
  have KF : Keep (D.foot d) w (((w5.setCell ⟨d, 1 + o, none⟩ v').setCell ⟨d, 18, none⟩ (.int .i64 x)).setCell ⟨d, 20, none⟩ (.bool false)) :=
    (((K5.mono (fun b _ h => .inr (.inr ⟨o, v, hv, h⟩))).setCell (a := ⟨d, 1 + o, none⟩) (.inl (.inl rfl)) _).setCell (a := ⟨d, 18, none⟩) (.inl (.inl rfl)) _).setCell (a := ⟨d, 20, none⟩) (.inl (.inl rfl)) _
  have Kd : Keep (· = d) w5 (((w5.setCell ⟨d, 1 + o, none⟩ v').setCell ⟨d, 18, none⟩ (.int .i64 x)).setCell ⟨d, 20, none⟩ (.bool false)) :=
    (((Keep.refl (· = d) w5).setCell (a := ⟨d, 1 + o, none⟩) (.inl rfl) _).setCell (a := ⟨d, 18, none⟩) (.inl rfl) _).setCell (a := ⟨d, 20, none⟩) (.inl rfl) _
  refine ⟨{ D with ws := D.ws.setIfInBounds o v', wr := x }, ⟨?_, ?_, hd.dsize, hd.bytes, by simpa using hd.wsize, ?_, hd.ne, ?_⟩, rfl, ?_, KF⟩
  · rw [← dcells_set n D hd.wsize o ho v' x]
    exact ((A5.set _ _).set _ _).set _ _
  · exact Kd.at (K5.at hd.dur hvb) (fun e => hd.ne e.symm)
  · intro i hi
    simp only [Array.getElem?_setIfInBounds, hd.wsize, ho, if_true]
    by_cases hoi : o = i
    · refine ⟨v', k + 1, xs ++ cs, by simp [hoi], Kd.ownsRow hown5 (fun b h => (hv'd b h).1), by omega, fun j hj => ?_⟩
      by_cases hjk : j < k
      · rw [List.drop_append_of_le_length (by rw [hxl]; omega), List.take_append_of_le_length (by rw [List.length_drop, hxl]; omega)]
        exact hxs j hjk
      · obtain rfl : j = k := by omega
        rw [← hxl, List.drop_left, List.take_of_length_le (by rw [hcs.1]; omega)]
        exact hcs
    · obtain ⟨u, m, ys, h1, h2, h3, h4⟩ := hd.waits i hi
      rw [if_neg hoi]
      refine ⟨u, m, ys, h1, Kd.ownsRow (K5.ownsRow h2 (fun b hbu hbv => hoi ((hd.apart o v b hv hbv).2.2 i u h1 hbu))) (fun b hbu => (hd.apart i u b h1 hbu).1), by omega, h4⟩
  · intro i u b hu hub
    have hlt : i < 17 := by
      have := (Array.getElem?_eq_some_iff.1 hu).1
      simpa [hd.wsize] using this
    simp only [Array.getElem?_setIfInBounds, hd.wsize, ho, if_true] at hu ⊢
    by_cases hoi : o = i
    · rw [if_pos hoi] at hu
      simp only [Option.some.injEq] at hu
      subst hu
      refine ⟨(hv'd b hub).1, (hv'd b hub).2, fun j t ht htb => ?_⟩
      by_cases hoj : o = j
      · omega
      · rw [if_neg hoj] at ht
        obtain ⟨u2, m, ys, g1, g2, g3, g4⟩ := hd.waits j (by have := (Array.getElem?_eq_some_iff.1 ht).1; rw [hd.wsize] at this; exact this)
        rw [ht] at g1; simp only [Option.some.injEq] at g1; subst g1
        rcases hb with h' | ⟨c, h', hc⟩
        · rw [h'] at hub
          exact absurd ((hd.apart o v b hv hub).2.2 j t ht htb) hoj
        · rw [h'] at hub; simp only [Option.some.injEq] at hub; subst hub
          have := (g2.lt _ htb).2
          omega
    · rw [if_neg hoi] at hu
      have ha := hd.apart i u b hu hub
      refine ⟨ha.1, ha.2.1, fun j t ht htb => ?_⟩
      by_cases hoj : o = j
      · rw [if_pos hoj] at ht
        simp only [Option.some.injEq] at ht
        subst ht
        rcases hb with h' | ⟨c, h', hc⟩
        · rw [h'] at htb
          exact absurd (ha.2.2 o v hv htb).symm hoi
        · rw [h'] at htb; simp only [Option.some.injEq] at htb; subst htb
          obtain ⟨u2, m, ys, g1, g2, g3, g4⟩ := hd.waits i hlt
          rw [hu] at g1; simp only [Option.some.injEq] at g1; subst g1
          have := (g2.lt _ hub).2
          omega
      · rw [if_neg hoj] at ht
        exact ha.2.2 j t ht htb
  · intro b hbf
    rcases hbf with h | h | ⟨i, u, hu, hub⟩
    · exact .inl (.inl h)
    · exact .inl (.inr (.inl h))
    · simp only [Array.getElem?_setIfInBounds, hd.wsize, ho, if_true] at hu
      by_cases hoi : o = i
      · rw [if_pos hoi] at hu
        simp only [Option.some.injEq] at hu
        subst hu
        rcases hb with h' | ⟨c, h', hc⟩
        · rw [h'] at hub; exact .inl (.inr (.inr ⟨o, v, hv, hub⟩))
        · rw [h'] at hub; simp only [Option.some.injEq] at hub; subst hub; exact .inr hc
      · rw [if_neg hoi] at hu
        exact .inl (.inr (.inr ⟨i, u, hu, hub⟩))

theorem nobody_no (o : Int) (w : World) (h0 : 0 ≤ o) (h1 : o ≤ 16) :
    Calls Tryz.prog 54 #[.int .i64 o] w fun e w' => e = .returned (.bool false) ∧ w = w' := by
  have e0 : decide (o < 0) = false := by simp; omega
  have e1 : decide (16 < o) = false := by simp; omega
  go_enter Tryz.func54, Tryz.ntmps54
  go_wp2
  go_ret
  exact ⟨rfl, rfl⟩

theorem none_no (d n B : Nat) (D : Dk) (i : Int) (w : World) (hd : DiskIs w d n B D) (h0 : 0 ≤ i) (h1 : i < n) :
    Calls Tryz.prog 56 #[.pointer (some ⟨d, 0, none⟩), .int .i64 i] w fun e w' => e = .returned (.bool false) ∧ w = w' := by
  have e0 : decide (i < 0) = false := by simp; omega
  have e1 : decide ((n : Int) ≤ i) = false := by simp; omega
  have hc : w.cell? ⟨d, 0, none⟩ = some (.slice (some ⟨D.bd, 0, none⟩) n n) := hd.c0
  clear hd
  go_enter Tryz.func56, Tryz.ntmps56
  go_wp2
  go_ret
  exact ⟨rfl, rfl⟩

theorem sectors_any (d n B : Nat) (D : Dk) (w : World) (hd : DiskIs w d n B D) :
    Calls Tryz.prog 30 #[.pointer (some ⟨d, 0, none⟩)] w fun e w' => e = .returned (.int .i64 n) ∧ w = w' := by
  have hc := hd.c0
  clear hd
  go_enter Tryz.func30, Tryz.ntmps30
  go_wp2
  go_ret
  exact ⟨rfl, rfl⟩

theorem down_any (d n B : Nat) (D : Dk) (w : World) (hd : DiskIs w d n B D) :
    Calls Tryz.prog 25 #[.pointer (some ⟨d, 0, none⟩)] w fun e w' => e = .returned (.bool false) ∧ w = w' := by
  have hc := hd.c20
  clear hd
  go_enter Tryz.func25, Tryz.ntmps25
  go_wp2
  go_ret
  exact ⟨rfl, rfl⟩

end Go.Proofs.YtnndkfhpifgaiaaGreat
