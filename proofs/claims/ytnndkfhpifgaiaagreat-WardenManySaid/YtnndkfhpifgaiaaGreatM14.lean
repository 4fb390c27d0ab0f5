/-
  Library functions, weak, by the shelf's contracts.
-/
import Derived.Test.YtnndkfhpifgaiaaGreatM01
import Derived.Test.YtnndkfhpifgaiaaGreatM11
set_option linter.unusedVariables false
set_option linter.unusedSimpArgs false
namespace Go.Proofs.YtnndkfhpifgaiaaGreat
open Go.RowKit

theorem repeatL_length (l : List UInt8) (n : Nat) : (Lib.repeatL l n).length = n * l.length := by
  induction n with
  | zero => simp [Lib.repeatL]
  | succ n ih => simp [Lib.repeatL] at ih ⊢; try (rw [Nat.succ_mul]; omega)

/-- n zero bytes, or any other byte. -/
theorem repeat_any (s : ByteArray) (c : Nat) (w : World) (hs : s.size = 1) (hc : c ≤ 1000000) : Calls Tryz.prog 57 #[.string s, .int .i64 c] w (Str c w) := by
  refine (Tryz.strings_Repeat s c w (by omega) (by rw [hs]; omega)).mono ?_
  rintro e w' ⟨rfl, hb⟩
  refine ⟨_, ?_, rfl, hb⟩
  show (Lib.repeatL s.data.toList c).toArray.size = c
  have h1 : s.data.toList.length = 1 := by simpa using hs
  simp [repeatL_length, h1]
  try exact h1

theorem join_sum (xs : List (List UInt8)) : (Lib.join xs []).length = (xs.map List.length).sum := by
  induction xs with
  | nil => simp [Lib.join]
  | cons x r ih =>
    cases r with
    | nil => simp [Lib.join]
    | cons y r =>
      simp [Lib.join] at ih ⊢
      omega

/-- The texts of a slice, joined with nothing between them: as many bytes as they have. -/
theorem join_any (bk o c : Nat) (xs : List ByteArray) (w : World) (hcells : ∀ (j : Nat) x, xs[j]? = some x → w.cell? ⟨bk, o + j, none⟩ = some (.string x)) (hbk : bk < w.heap.size) (hN : xs.length ≤ 1000) (hcap : xs.length ≤ c) (n : Nat) (hn : (xs.map (·.size)).sum = n) (hn2 : n ≤ 1000000) :
    Calls Tryz.prog 167 #[.slice (some ⟨bk, o, none⟩) xs.length c] w (Str n w) := by
  have hl : (Lib.join (xs.map (·.data.toList)) (⟨#[]⟩ : ByteArray).data.toList).length = n := by
    have := join_sum (xs.map (·.data.toList))
    rw [← hn]
    refine this.trans ?_
    rw [List.map_map]
    congr 1
  have H := Tryz.strings_Join bk o c xs ⟨#[]⟩ w hcells hbk (by omega) hcap (by rw [hl]; omega)
  have Hl := Lib.hid hl
  clear hl hcells hn
  go_enter Tryz.func167, Tryz.ntmps167
  go_wp2_with (first | (go_at_call 199; refine H.mono ?_; rintro e w1 ⟨rfl, hb⟩))
  go_ret
  exact ⟨_, (by have := Hl.out; show (Lib.join _ _).toArray.size = n; simpa using this), rfl, hb⟩

theorem join_none (a : Option Addr) (c : Nat) (w : World) : Calls Tryz.prog 167 #[.slice a 0 c] w (Str 0 w) := by
  go_enter Tryz.func167, Tryz.ntmps167
  go_wp2_with (first | (go_at_call 199; refine (Tryz.strings_Join_none _ _ _ _).mono ?_; rintro e w1 ⟨rfl, rfl⟩))
  go_ret
  exact ⟨_, rfl, rfl, Below.refl _ _⟩
end Go.Proofs.YtnndkfhpifgaiaaGreat
