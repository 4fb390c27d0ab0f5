/-
  disk.New, Forget.
-/
import Derived.Test.YtnndkfhpifgaiaaGreatM06
set_option linter.unusedVariables false
set_option linter.unusedSimpArgs false
namespace Go.Proofs.YtnndkfhpifgaiaaGreat
open Go.RowKit

theorem zero116 : (Tryz.prog.info? 116).map (fun i => (i.zero, i.size, i.bytes)) = some (some (.agg z256), 256, 256) := by kernel_rfl

/-- A disk that has just come. -/
def NewDisk (n : Nat) (w : World) (e : Ending) (w' : World) : Prop :=
  ∃ d F, e = .returned (.pointer (some ⟨d, 0, none⟩)) ∧ DiskAt w' d n 0 F ∧ (∀ k, F k → w.heap.size ≤ k) ∧ Below w.heap.size w w'

theorem madeCells_bytes (m : Nat) : ∀ v ∈ (madeCells z256 m).toList, IsB v := by
  intro v hv
  simp only [madeCells, Array.toList_map, List.mem_map] at hv
  obtain ⟨i, _, rfl⟩ := hv
  refine ⟨0, ?_⟩
  have h : i % z256.size < z256.size := Nat.mod_lt _ (by rw [z256_size]; omega)
  rw [getElem!_pos z256 _ h]
  simp [z256]

theorem new_disk {w : World} {n : Nat} {b : Nat} (hn : n ≤ 16384) (hb : w.heap.size = b) :
    NewDisk n w (.returned (.pointer (some ⟨b + 1, 0, none⟩))) ((w.alloc (.cells (madeCells z256 (n * 256)) 116)).alloc (.cells (dcells n ⟨b, madeCells z256 (n * 256), Array.replicate 17 (.slice none 0 0), 0⟩) 71)) := by
  subst hb
  refine ⟨w.heap.size + 1, fun k => k = w.heap.size ∨ k = w.heap.size + 1, rfl, ⟨⟨w.heap.size, madeCells z256 (n * 256), Array.replicate 17 (.slice none 0 0), 0⟩, ⟨?_, ?_, ?_, ?_, ?_, ?_, ?_, ?_⟩, ?_, ?_⟩, ?_, ?_⟩
  · have := At.new (w.alloc (.cells (madeCells z256 (n * 256)) 116)) (dcells n ⟨w.heap.size, madeCells z256 (n * 256), Array.replicate 17 (.slice none 0 0), 0⟩) 71
    simpa using this
  · exact (At.new w _ _).alloc _
  · exact size_madeCells _ _
  · exact madeCells_bytes _
  · simp
  · intro i hi
    refine ⟨.slice none 0 0, 0, [], by simp [hi], World.ownsRow_nil _ _ _ _, Nat.zero_le _, fun j hj => by omega⟩
  · show w.heap.size + 1 ≠ w.heap.size; omega
  · intro i v k hv hk
    simp only [Array.getElem?_replicate] at hv
    split at hv
    · simp only [Option.some.injEq] at hv; subst hv; simp [Value.ownBlock] at hk
    · cases hv
  · intro k hk
    rcases hk with h | h | ⟨i, v, hv, hk⟩
    · exact .inr h
    · exact .inl h
    · simp only [Array.getElem?_replicate] at hv
      split at hv
      · simp only [Option.some.injEq] at hv; subst hv; simp [Value.ownBlock] at hk
      · cases hv
  · intro k hk; simp; omega
  · intro k hk; omega
  · exact ((Below.refl _ _).alloc (Nat.le_refl _) _).alloc (by simp) _

theorem dcells_lit (n b : Nat) (X : Array Value) : dcells n ⟨b, X, Array.replicate 17 (.slice none 0 0), 0⟩ = #[.slice (some ⟨b, 0, none⟩) n n, .slice none 0 0, .slice none 0 0, .slice none 0 0, .slice none 0 0, .slice none 0 0, .slice none 0 0, .slice none 0 0, .slice none 0 0, .slice none 0 0, .slice none 0 0, .slice none 0 0, .slice none 0 0, .slice none 0 0, .slice none 0 0, .slice none 0 0, .slice none 0 0, .slice none 0 0, .int .i64 0, .int .i64 (-1), .bool false] := by kernel_rfl

theorem new_any (n : Nat) (w : World) (h0 : 1 ≤ n) (h1 : n ≤ 16384) :
    Calls Tryz.prog 13 #[.int .i64 n] w (NewDisk n w) := by
  obtain ⟨i0, hi, hz, hs, hb⟩ := info_parts zero116
  have hmk := fun w => run_make (P := Tryz.prog) w 67 116 i0 (.agg z256) Tryz.underlying67 hi hz .i64 .i64 n n (by omega) (by omega) (by rw [hb]; omega) (by omega)
  simp only [Int.toNat_natCast, hs, Value.cells] at hmk
  have hn := new_disk (w := w) (n := n) h1 rfl
  have e1 : min (n : Int) 16384 = n := by omega
  have e2 : max 1 (n : Int) = n := by omega
  rw [dcells_lit] at hn
  clear hi hz hs hb
  go_enter Tryz.func13, Tryz.ntmps13
  go_wp2
  go_ret
  exact hn

theorem dcells_set1 (n : Nat) (D : Dk) (h : D.ws.size = 17) (o : Nat) (ho : o < 17) (v : Value) : (dcells n D).setIfInBounds (1 + o) v = dcells n { D with ws := D.ws.setIfInBounds o v } := by
  have hg := dcells_get n D h
  have := dcells_set n D h o ho v D.wr
  rw [← this]
  have hsz : (dcells n D).size = 21 := by simp [dcells, h]
  apply Array.ext_getElem?
  intro i
  simp only [Array.getElem?_setIfInBounds, Array.size_setIfInBounds, hsz]
  by_cases h20 : 20 = i
  · subst h20; rw [if_neg (by omega)]; simp [hg.2.2.2.2]
  rw [if_neg h20]
  by_cases h18 : 18 = i
  · subst h18; rw [if_neg (by omega)]; simp [hg.2.2.1]
  rw [if_neg h18]

/-- An owner's list is set to nil: the disk behind it. -/
theorem forget_is {w w1 : World} {d n B : Nat} {D : Dk} (hD : DiskIs w1 d n B D) {o : Nat} (ho : o < 17) :
    DiskIs (w1.setCell ⟨d, 1 + o, none⟩ (.slice none 0 0)) d n B { D with ws := D.ws.setIfInBounds o (.slice none 0 0) } := by
  have Kd : Keep (· = d) w1 (w1.setCell ⟨d, 1 + o, none⟩ (.slice none 0 0)) := (Keep.refl (· = d) w1).setCell (a := ⟨d, 1 + o, none⟩) (.inl rfl) _
  refine ⟨?_, Kd.at hD.dur (fun e => hD.ne e.symm), hD.dsize, hD.bytes, by simpa using hD.wsize, ?_, hD.ne, ?_⟩
  · rw [← dcells_set1 n D hD.wsize o ho]; exact hD.cells.set _ _
  · intro i hi
    simp only [Array.getElem?_setIfInBounds, hD.wsize, ho, if_true]
    by_cases hoi : o = i
    · exact ⟨.slice none 0 0, 0, [], by simp [hoi], World.ownsRow_nil _ _ _ _, Nat.zero_le _, fun j hj => by omega⟩
    · obtain ⟨u, m, ys, h1, h2, h3, h4⟩ := hD.waits i hi
      rw [if_neg hoi]
      exact ⟨u, m, ys, h1, Kd.ownsRow h2 (fun b hbu => (hD.apart i u b h1 hbu).1), h3, h4⟩
  · intro i u b hu hub
    simp only [Array.getElem?_setIfInBounds, hD.wsize, ho, if_true] at hu ⊢
    by_cases hoi : o = i
    · rw [if_pos hoi] at hu; simp only [Option.some.injEq] at hu; subst hu; simp [Value.ownBlock] at hub
    · rw [if_neg hoi] at hu
      have ha := hD.apart i u b hu hub
      refine ⟨ha.1, ha.2.1, fun j t ht htb => ?_⟩
      by_cases hoj : o = j
      · rw [if_pos hoj] at ht; simp only [Option.some.injEq] at ht; subst ht; simp [Value.ownBlock] at htb
      · rw [if_neg hoj] at ht; exact ha.2.2 j t ht htb

theorem forget_foot {d : Nat} {D : Dk} (hw : D.ws.size = 17) {o : Nat} (ho : o < 17) : ∀ k, ({ D with ws := D.ws.setIfInBounds o (.slice none 0 0) } : Dk).foot d k → D.foot d k := by
  intro k hk
  rcases hk with h | h | ⟨i, u, hu, hub⟩
  · exact .inl h
  · exact .inr (.inl h)
  · simp only [Array.getElem?_setIfInBounds, hw, ho, if_true] at hu
    by_cases hoi : o = i
    · rw [if_pos hoi] at hu; simp only [Option.some.injEq] at hu; subst hu; simp [Value.ownBlock] at hub
    · rw [if_neg hoi] at hu; exact .inr (.inr ⟨i, u, hu, hub⟩)

theorem forget_end {w : World} {d n B : Nat} {F : Nat → Prop} {D : Dk} (hD : DiskIs w d n B D) (hF : ∀ k, D.foot d k → F k) (hlt : ∀ k, F k → k < w.heap.size) {o : Nat} (ho : o < 17) :
    Step d n F w B (w.setCell ⟨d, 1 + o, none⟩ (.slice none 0 0)) :=
  ⟨F, ⟨_, forget_is (w := w) hD ho, fun k hk => hF k (forget_foot hD.wsize ho k hk), fun k hk => by simpa using hlt k hk⟩, fun k hk => .inl hk,
    (Keep.refl F w).setCell (a := ⟨d, 1 + o, none⟩) (.inl (hF d (.inl rfl))) _⟩

theorem forget_ok (d n B : Nat) (F : Nat → Prop) (o : Int) (w : World) (hd : DiskAt w d n B F) (h0 : 0 ≤ o) (h0' : o ≤ 16) :
    Calls Tryz.prog 26 #[.pointer (some ⟨d, 0, none⟩), .int .i64 o] w fun e w' => e = .returned (.tuple #[]) ∧ Step d n F w B w' := by
  obtain ⟨D, hD, hF, hlt⟩ := hd
  obtain ⟨o, rfl⟩ := Int.eq_ofNat_of_zero_le h0
  obtain ⟨v, k, xs, hv, hown, hk, hxs⟩ := hD.waits o (by omega)
  have hc : w.cell? ⟨d, 1 + o, none⟩ = some v := by rw [hD.cw (by omega)]; exact hv
  have hf := hD.cells.free
  have e17 : (o : Int) < 17 := by omega
  go_enter Tryz.func26, Tryz.ntmps26
  go_wp2_with (first | (go_at_call 54; refine (nobody_no _ _ (by omega) (by omega)).mono ?_; rintro e w' ⟨rfl, rfl⟩))
  go_end0
  refine ⟨rfl, ?_⟩
  exact forget_end hD hF hlt (by omega)
end Go.Proofs.YtnndkfhpifgaiaaGreat
