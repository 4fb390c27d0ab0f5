/-
  Contracts of small functions: geometry, limits, plain tests.
-/
import Derived.Test.YtnndkfhpifgaiaaGreatM03
import Derived.Deep.QuietTactic
import Derived.BigQuiet
set_option linter.unusedVariables false
set_option linter.unusedSimpArgs false
namespace Go.Proofs.YtnndkfhpifgaiaaGreat
open Go.RowKit

/-- A call answers v, and nothing that was there has turned. -/
def Ans (v : Value) (w : World) (e : Ending) (w' : World) : Prop := e = .returned v ∧ Below w.heap.size w w'

/-- A geometry: 48 sectors and n segments of 32. -/
def geo (s : Int) : Value := .agg #[.int .i64 s, .int .i64 32]

theorem check_ok (s : Int) (w : World) (h0 : 304 ≤ s) (h1 : s ≤ 16384) : Calls Tryz.prog 29 #[.agg #[.int .i64 s, .int .i64 32]] w (Ans (.bool true) w) := by
  go_enter Tryz.func29, Tryz.ntmps29
  go_wp2
  go_ret
  exact ⟨by simp [h0], (Below.refl _ _).alloc (Nat.le_refl _) _⟩

theorem segs_ok (s : Int) (n : Nat) (w : World) (hs : s = 48 + 32 * n) (h0 : 8 ≤ n) (h1 : n ≤ 137) : Calls Tryz.prog 17 #[.agg #[.int .i64 s, .int .i64 32]] w (Ans (.int .i64 n) w) := by
  have b0 : 304 ≤ s := by omega
  have b1 : s ≤ 16384 := by omega
  have hfin : (s - 48) / 32 = n := by omega
  have H := Lib.hid hfin
  clear hs hfin
  go_enter Tryz.func17, Tryz.ntmps17
  go_wp2_with (first | (go_at_call 29; refine (check_ok _ _ (by omega) (by omega)).mono ?_; rintro e w' ⟨rfl, hb⟩; obtain ⟨hc, hf, hz⟩ := bcell hb))
  go_ret
  exact ⟨ret_int H.out, ((Below.refl _ _).alloc (Nat.le_refl _) _).trans (hb.mono (by simp))⟩

theorem start_ok (s i : Int) (n : Nat) (w : World) (hs : s = 48 + 32 * n) (h0 : 8 ≤ n) (h1 : n ≤ 137) (hi : 0 ≤ i) (hin : i < n) :
    Calls Tryz.prog 55 #[.agg #[.int .i64 s, .int .i64 32], .int .i64 i] w (Ans (.int .i64 (48 + i * 32)) w) := by
  have e0 : decide (i < 0) = false := by simp; omega
  have e1 : decide ((n : Int) ≤ i) = false := by simp; omega
  have b1 : i ≤ 137 := by omega
  have Hs := Lib.hid hs
  clear hs
  go_enter Tryz.func55, Tryz.ntmps55
  go_wp2_with (first | (go_at_call 17; refine (segs_ok _ n _ Hs.out h0 h1).mono ?_; rintro e w' ⟨rfl, hb⟩; obtain ⟨hc, hf, hz⟩ := bcell hb))
  go_ret
  exact ⟨rfl, ((Below.refl _ _).alloc (Nat.le_refl _) _).trans (hb.mono (by simp))⟩

theorem slotAt_ok (h c : Int) (w : World) (h0 : 1 ≤ h) (h1 : h ≤ 16) (c0 : 0 ≤ c) (c1 : c ≤ 1) :
    Calls Tryz.prog 93 #[.int .i64 h, .int .i64 c] w fun e w' => e = .returned (.int .i64 (16 + 2 * (h - 1) + c)) ∧ w = w' := by
  have e0 : decide (h < 1) = false := by simp; omega
  have e1 : decide (16 < h) = false := by simp; omega
  have e2 : decide (c < 0) = false := by simp; omega
  have e3 : decide (1 < c) = false := by simp; omega
  go_enter Tryz.func93, Tryz.ntmps93
  go_wp2
  go_ret
  exact ⟨rfl, rfl⟩

theorem at_in (s x : Int) (n : Nat) (w : World) (hs : s = 48 + 32 * n) (h0 : 8 ≤ n) (h1 : n ≤ 137) (hi : 48 ≤ x) (hin : x < s) :
    Calls Tryz.prog 165 #[.agg #[.int .i64 s, .int .i64 32], .int .i64 x] w (Ans (.tuple #[.int .i64 ((x - 48) / 32), .int .i64 ((x - 48) % 32), .bool true]) w) := by
  have e0 : decide (x < 48) = false := by simp; omega
  have e1 : decide (48 + (n : Int) * 32 ≤ x) = false := by simp; omega
  have b0 : 0 ≤ (x - 48) / 32 := by omega
  have b1 : x ≤ 16384 := by omega
  have Hs := Lib.hid hs
  have hw1 : IntKind.i64.wrap ((n : Int) * 32) = n * 32 := by rw [IntKind.wrap_i64]; omega
  have hw2 : IntKind.i64.wrap (48 + (n : Int) * 32) = 48 + n * 32 := by rw [IntKind.wrap_i64]; omega
  have hw3 : IntKind.i64.wrap (x - 48) = x - 48 := by rw [IntKind.wrap_i64]; omega
  clear hs hin
  go_enter Tryz.func165, Tryz.ntmps165
  go_wp2
  go_region_held3 (fun w' => ∀ b o, b < w.heap.size + 1 → w'.cell? ⟨b, o, none⟩ = (w.alloc (.cells #[.int .i64 s, .int .i64 32] 25)).cell? ⟨b, o, none⟩) (first | exact fun _ _ _ => rfl | exact fun b o h => hc b o (by simpa using h)) (first | (go_at_call 17; refine (segs_ok _ n _ Hs.out h0 h1).mono ?_; rintro e w' ⟨rfl, hb⟩; obtain ⟨hc, hf, hz⟩ := bcell hb))
  clear hw1 hw2
  go_wp2
  go_quiet (fail)
  go_wp2
  go_ret3
  exact ⟨rfl, below_drewN (((Below.refl _ _).alloc (Nat.le_refl _) _).drew.trans (hb.mono (by simp))) _⟩

theorem at_low (s x : Int) (w : World) (hi : x < 48) :
    Calls Tryz.prog 165 #[.agg #[.int .i64 s, .int .i64 32], .int .i64 x] w (Ans (.tuple #[.int .i64 0, .int .i64 0, .bool false]) w) := by
  have e0 : decide (x < 48) = true := by simp; omega
  go_enter Tryz.func165, Tryz.ntmps165
  go_wp2
  go_quiet (fail)
  go_wp2
  go_ret3
  exact ⟨rfl, below_drewN ((Below.refl _ _).alloc (Nat.le_refl _) _) _⟩

theorem room_ok (s k a b c d e f : Int) (w : World) (h0 : 304 ≤ s) (h1 : s ≤ 16384) (k0 : 4 ≤ k) (k1 : k ≤ 40) :
    Calls Tryz.prog 105 #[.agg #[.int .i64 s, .int .i64 32], .agg #[.int .i64 k, .int .i64 a, .int .i64 b, .int .i64 c, .int .i64 d, .int .i64 e, .int .i64 f]] w (Ans (.int .i64 ((k - 4) * 8)) w) := by
  have e1 : min k 1099511627776 = k := by omega
  have e2 : max k 4 = k := by omega
  go_enter Tryz.func105, Tryz.ntmps105
  go_wp2_with (first | (go_at_call 29; refine (check_ok _ _ h0 h1).mono ?_; rintro e w' ⟨rfl, hb⟩; obtain ⟨hc, hf, hz⟩ := bcell hb))
  go_ret
  exact ⟨rfl, (((Below.refl _ _).alloc (Nat.le_refl _) _).alloc (by simp) _).trans (hb.mono (by simp; omega))⟩

theorem in_ok (v l m : Int) (w : World) (h0 : l ≤ v) (h1 : v ≤ m) : Calls Tryz.prog 34 #[.int .i64 v, .int .i64 l, .int .i64 m] w fun e w' => e = .returned (.bool true) ∧ w = w' := by
  have e1 : decide (l ≤ v) = true := by simpa using h0
  have e2 : decide (v ≤ m) = true := by simpa using h1
  go_enter Tryz.func34, Tryz.ntmps34
  go_wp2
  go_ret
  exact ⟨rfl, rfl⟩

/-- The bounds that nothing meets but the room. -/
def wide (k : Int) : Value := .agg #[.int .i64 k, .int .i64 100000, .int .i64 100000, .int .i64 255, .int .i64 255, .int .i64 5, .int .i64 200]

set_option maxHeartbeats 400000 in
theorem checkLimit_ok (k : Int) (w : World) (h0 : 8 ≤ k) (h1 : k ≤ 40) : Calls Tryz.prog 15 #[.agg #[.int .i64 k, .int .i64 100000, .int .i64 100000, .int .i64 255, .int .i64 255, .int .i64 5, .int .i64 200]] w (Ans (.bool true) w) := by
  go_enter Tryz.func15, Tryz.ntmps15
  go_wp2_with (first | (go_at_call 34; refine (in_ok _ _ _ _ (by omega) (by omega)).mono ?_; rintro e w' ⟨rfl, rfl⟩))
  go_ret
  exact ⟨rfl, (Below.refl _ _).alloc (Nat.le_refl _) _⟩

theorem wide_ok (k : Int) (w : World) : Calls Tryz.prog 7 #[.int .i64 k] w (Ans (.agg #[.int .i64 k, .int .i64 100000, .int .i64 100000, .int .i64 255, .int .i64 255, .int .i64 5, .int .i64 200]) w) := by
  go_enter Tryz.func7, Tryz.ntmps7
  go_wp2
  exact bodyPost_ret (v := .agg #[.int .i64 k, .int .i64 100000, .int .i64 100000, .int .i64 255, .int .i64 255, .int .i64 5, .int .i64 200]) (by simp [results, Tryz.results7, go_sem]) rfl ⟨rfl, (Below.refl _ _).alloc (Nat.le_refl _) _⟩

theorem geom_ok (n : Int) (w : World) (h0 : 0 ≤ n) (h1 : n ≤ 1000) : Calls Tryz.prog 12 #[.int .i64 n] w (Ans (.agg #[.int .i64 (48 + 32 * n), .int .i64 32]) w) := by
  go_enter Tryz.func12, Tryz.ntmps12
  go_wp2
  exact bodyPost_ret (v := .agg #[.int .i64 (48 + 32 * n), .int .i64 32]) (by simp [results, Tryz.results12, go_sem]) rfl ⟨rfl, (Below.refl _ _).alloc (Nat.le_refl _) _⟩

theorem tmod_bd (v n : Int) (h0 : 0 < n) (h1 : n ≤ 1000000) : -1000000 ≤ v.tmod n ∧ v.tmod n ≤ 1000000 := by
  have := Int.tmod_lt_of_pos v h0
  have := Int.lt_tmod_of_pos v h0
  omega
theorem tmod_pos (v n : Int) (h0 : 0 < n) (h : ¬ v.tmod n < 0) : v.tmod n = v % n := by
  have h1 := Int.emod_lt_of_pos v h0
  have h2 : (n.natAbs : Int) = n := by omega
  rw [Int.tmod_eq_emod] at h ⊢
  split at h <;> split <;> omega
theorem tmod_neg (v n : Int) (h0 : 0 < n) (h : v.tmod n < 0) : v.tmod n + n = v % n := by
  have he := Int.emod_nonneg v (show n ≠ 0 by omega)
  have h1 := Int.emod_lt_of_pos v h0
  have h2 : (n.natAbs : Int) = n := by omega
  rw [Int.tmod_eq_emod] at h ⊢
  split at h <;> split <;> omega

theorem place_ok (v n : Int) (w : World) (h0 : 0 < n) (h1 : n ≤ 1000000) (hv : -9223372036854775808 ≤ v) (hv' : v ≤ 9223372036854775807) :
    Calls Tryz.prog 4 #[.int .i64 v, .int .i64 n] w fun e w' => e = .returned (.int .i64 (v % n)) ∧ w = w' := by
  have hne : ¬ n = 0 := by omega
  have q1 : v.tmod n < 0 → v.tmod n + n = v % n := fun h => tmod_neg v n h0 h
  have q2 : ¬ v.tmod n < 0 → v.tmod n = v % n := fun h => tmod_pos v n h0 h
  have q3 : -1000000 ≤ v.tmod n ∧ v.tmod n ≤ 1000000 := tmod_bd v n h0 h1
  have Q1 := Lib.hid q1
  have Q2 := Lib.hid q2
  have q4 := q3.1
  have q5 := q3.2
  clear q1 q2 q3
  by_cases h : v.tmod n < 0
  · go_enter Tryz.func4, Tryz.ntmps4
    go_wp2
    go_ret
    exact ⟨ret_int (Q1.out h), rfl⟩
  · go_enter Tryz.func4, Tryz.ntmps4
    go_wp2
    go_ret
    exact ⟨ret_int (Q2.out h), rfl⟩

end Go.Proofs.YtnndkfhpifgaiaaGreat
