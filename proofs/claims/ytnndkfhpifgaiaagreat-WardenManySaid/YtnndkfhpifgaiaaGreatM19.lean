/-
  chunk.Make: a chunk's bytes.
-/
import Derived.Test.YtnndkfhpifgaiaaGreatM12
import Derived.Test.YtnndkfhpifgaiaaGreatM14
set_option linter.unusedVariables false
set_option linter.unusedSimpArgs false
namespace Go.Proofs.YtnndkfhpifgaiaaGreat
open Go.RowKit

/-- A slice of m blocks: texts of 256 bytes. -/
def BlocksAt (w : World) (v : Value) (m N : Nat) : Prop :=
  ∃ p c, v = .slice p m c ∧ m ≤ c ∧ (m = 0 ∨ ∃ (b : Nat) (xs : List ByteArray), b < N ∧ p = some ⟨b, 0, none⟩ ∧ xs.length = m ∧ (∀ x ∈ xs, x.size = 256) ∧ ∀ (j : Nat) (x : ByteArray), xs[j]? = some x → w.cell? ⟨b, j, none⟩ = some (.string x))

theorem BlocksAt.keep {w w' : World} {v : Value} {m N : Nat} {F : Nat → Prop} (h : BlocksAt w v m N) (hb : Keep F w w') (hN : ∀ b, b < N → ¬ F b) (hlt : N ≤ w.heap.size) : BlocksAt w' v m N := by
  obtain ⟨p, c, rfl, hc, h⟩ := h
  refine ⟨p, c, rfl, hc, ?_⟩
  rcases h with h | ⟨b, xs, hbN, rfl, hl, hx, h⟩
  · exact .inl h
  · exact .inr ⟨b, xs, hbN, rfl, hl, hx, fun j x hj => Keep.keepCell hb (hN b hbN) (h j x hj)⟩
theorem BlocksAt.below {w w' : World} {v : Value} {m N : Nat} (h : BlocksAt w v m N) (hb : Below N w w') (hlt : N ≤ w.heap.size) : BlocksAt w' v m N := by
  obtain ⟨p, c, rfl, hc, h⟩ := h
  refine ⟨p, c, rfl, hc, ?_⟩
  rcases h with h | ⟨b, xs, hbN, rfl, hl, hx, h⟩
  · exact .inl h
  · exact .inr ⟨b, xs, hbN, rfl, hl, hx, fun j x hj => by rw [hb.cell (p := ⟨b, j, none⟩) hbN]; exact h j x hj⟩

theorem sum_const (xs : List ByteArray) (h : ∀ x ∈ xs, x.size = 256) : (xs.map (·.size)).sum = xs.length * 256 := by
  induction xs with
  | nil => rfl
  | cons x r ih =>
    have h1 := h x (by simp)
    have h2 := ih (fun y hy => h y (by simp [hy]))
    simp [h1, h2]; omega

/-- The blocks, joined. -/
theorem joinB_any (v : Value) (m N : Nat) (w : World) (hB : BlocksAt w v m N) (hN : N ≤ w.heap.size) (hm : m ≤ 100) : Calls Tryz.prog 167 #[v] w (Str (m * 256) w) := by
  obtain ⟨p, c, rfl, hc, h⟩ := hB
  rcases h with rfl | ⟨b, xs, hbN, rfl, hl, hx, h⟩
  · exact join_none p c w
  · subst hl
    refine join_any b 0 c xs w (fun j x hj => by rw [Nat.zero_add]; exact h j x hj) (by omega) (by omega) hc _ (sum_const xs hx) (by omega)

/-- What chunk.Make answers: so many blocks' bytes. -/
def MakeEnd (m : Nat) (w : World) (e : Ending) (w' : World) : Prop := ∃ s : ByteArray, s.size = (m + 1) * 256 ∧ e = .returned (.tuple #[.string s, .bool true]) ∧ Below w.heap.size w w'

set_option maxRecDepth 100000 in
set_option maxHeartbeats 1000000 in
theorem make_ok (a b c d e f g h : Int) (v vb : Value) (m : Nat) (w : World) (hE : EntriesAt EntryOk w v m w.heap.size) (hB : BlocksAt w vb m w.heap.size) (hl : m ≤ 24)
    (ha : 1 ≤ a ∧ a ≤ 16) (hb : 1 ≤ b ∧ b ≤ 65535) (hc : 1 ≤ c ∧ c ≤ 1048575) (hd : 1 ≤ d ∧ d ≤ 1099511627776) (he : 0 ≤ e ∧ e ≤ 65535) (hf : 0 ≤ f ∧ f ≤ 1099511627776) (hg : 0 ≤ g ∧ g ≤ 1099511627777) (hh : 0 ≤ h ∧ h ≤ 1099511627777) :
    Calls Tryz.prog 120 #[.agg #[.int .i64 a, .int .i64 b, .int .i64 c, .int .i64 d, .int .i64 e, .int .i64 f, .int .i64 g, .int .i64 h, v], vb] w (MakeEnd m w) := by
  have hb0 : Below w.heap.size w (w.alloc (.cells #[.int .i64 a, .int .i64 b, .int .i64 c, .int .i64 d, .int .i64 e, .int .i64 f, .int .i64 g, .int .i64 h, v] 126)) := (Below.refl _ _).alloc (Nat.le_refl _) _
  have hE1 := (EntriesAt.below hE hb0).mono hb0.size
  have hB1 := BlocksAt.below hB hb0 (Nat.le_refl _)
  have HB := Lib.hid hB
  have HE := Lib.hid hE1
  have hE0 := hE
  obtain ⟨pe, ce, rfl, hjunk⟩ := hE0
  clear hjunk
  obtain ⟨pb, cb, rfl, hcb, hrest⟩ := hB
  have Hrest := Lib.hid hrest
  clear hE hE1 hrest
  have hm2 : (m : Int) ≤ 24 := by omega
  go_enter Tryz.func120, Tryz.ntmps120
  go_wp2
  go_loopg [13] m (fun gk i wr => ∃ k : Nat, k ≤ m ∧ gk = m - k ∧ i = .int .i64 k ∧ wr = w.alloc (.cells #[.int .i64 a, .int .i64 b, .int .i64 c, .int .i64 d, .int .i64 e, .int .i64 f, .int .i64 g, .int .i64 h, .slice pe m ce] 126))
  case atStart => exact ⟨0, by omega, by omega, rfl, rfl⟩
  case round =>
    obtain ⟨k, hk, hgk, rfl, rfl⟩ := hrel
    have Hgk := Lib.hid hgk
    clear hgk
    by_cases hlt : k < m
    · obtain ⟨bb, xs, hbN, rfl, hl', hx, hcells⟩ : ∃ (bb : Nat) (xs : List ByteArray), bb < w.heap.size ∧ pb = some ⟨bb, 0, none⟩ ∧ xs.length = m ∧ (∀ x ∈ xs, x.size = 256) ∧ ∀ (j : Nat) (x : ByteArray), xs[j]? = some x → w.cell? ⟨bb, j, none⟩ = some (.string x) := by
        rcases Hrest.out with h0 | h0
        · omega
        · exact h0
      obtain ⟨x, hx1⟩ : ∃ x, xs[k]? = some x := ⟨xs[k]'(by omega), List.getElem?_eq_getElem _⟩
      have hsz := hx x (List.mem_of_getElem? hx1)
      have hck2 := Below.keepCell hb0 (hcells k x hx1)
      clear hcells hx hx1 Hrest
      go_wp2
      go_roundg (m - (k + 1))
      case measure => have := Hgk.out; omega
      case rel => exact ⟨k + 1, by omega, rfl, by go_num, rfl⟩
    · obtain rfl : k = m := by omega
      clear Hrest
      go_wp2_with (first
        | (go_at_call 167; (with_reducible refine (joinB_any (.slice pb k cb) k _ _ hB1 (by simp) (by omega)).mono ?_); rintro e w1 ⟨body, hbody, rfl, hb1⟩; obtain ⟨hc1, hf1, hz1⟩ := bcell hb1; have hE2 := (EntriesAt.below HE.out hb1).mono hb1.size)
        | (go_at_call 168; refine (hput_ok a b c d e f g h _ k _ _ hE2 hl hbody ha hb hc hd he hf hg hh).mono ?_; rintro e w2 ⟨s, hs, rfl, hb2⟩))
      refine (join_any w2.heap.size 0 2 [s, body] _ (fun j x hj => ?_) (by simp) (by simp) (by simp) ((k + 1) * 256) (by simp [hs, hbody]; omega) (by omega)).mono ?_
      · rw [(At.new w2 #[.string s, .string body] 9).cell]
        match j, hj with
        | 0, hj => simpa using hj
        | 1, hj => simpa using hj
      rintro e w3 ⟨t, ht, rfl, hb3⟩
      go_wp2
      go_ret2
      have B1 := hb0.trans (hb1.mono hb0.size)
      have B2 := B1.trans (hb2.mono B1.size)
      have B3 := B2.alloc B2.size (.cells #[.string s, .string body] 9)
      exact ⟨t, ht, rfl, B3.trans (hb3.mono B3.size)⟩
end Go.Proofs.YtnndkfhpifgaiaaGreat
