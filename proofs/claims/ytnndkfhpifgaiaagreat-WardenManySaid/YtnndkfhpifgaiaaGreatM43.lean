/-
  table.fields: ten fields; what each one gets is some number.
-/
import Derived.Test.YtnndkfhpifgaiaaGreatM42
set_option linter.unusedVariables false
set_option linter.unusedSimpArgs false
namespace Go.Proofs.YtnndkfhpifgaiaaGreat
open Go.RowKit

def fnV (k : Nat) : Value := .func (.func k) #[] #[]
def zField : Array Value := #[.int .i64 0, .nilFunc, .nilFunc]
def fieldV (n : Int) (q : Nat) : Array Value := #[.int .i64 n, .func (.func 171) #[] #[.pointer (some ⟨q, 0, none⟩)], .func (.func 172) #[] #[.pointer (some ⟨q, 0, none⟩)]]
theorem zero157 : (Tryz.prog.info? 157).bind (·.zero) = some (.agg zField) := by kernel_rfl
theorem size157 (a b c : Value) : (Tryz.prog.info? 157).map (·.size) = some (#[a, b, c] : Array Value).size := by kernel_rfl
theorem built157 (n : Int) (q : Nat) : Tryz.prog.built 157 [(0, .int .i64 n), (1, .func (.func 171) #[] #[.pointer (some ⟨q, 0, none⟩)]), (2, .func (.func 172) #[] #[.pointer (some ⟨q, 0, none⟩)])] = some (fieldV n q) := by kernel_rfl
theorem oneField (n : Int) (q : Nat) : (fieldV n q).all (·.oneCell') = true := by simp [fieldV, Value.oneCell']

set_option maxRecDepth 100000 in
theorem of_ok (n : Int) (k : Nat) (w : World) : Calls Tryz.prog 126 #[.int .i64 n, fnV k] w fun e w' => ∃ q, e = .returned (.agg (fieldV n q)) ∧ w.heap.size ≤ q ∧ At w' q #[fnV k] 227 ∧ Below w.heap.size w w' := by
  have hmf : ∀ (fn : Fn) (first cap : Array Value) (w : World), (Instr.makeFunc fn first cap).run Tryz.prog w = .ok (.func fn first cap) w := fun _ _ _ _ => rfl
  have hu157 := Tryz.underlying157
  go_enter Tryz.func126, Tryz.ntmps126
  go_wp2_with (first
    | (refine wpList_boxAt rfl 227 _ rfl #[fnV k] rfl ?_; intro w1 hA hk hs; have HA1 := Lib.hid hA; have HB1 := Lib.hid hk.below; have Hs1 := Lib.hid hs; clear hA hk hs)
    | (refine wpList_allocAt rfl 157 rfl zField zero157 ?_; intro w2 hz hk hs; have HZ2 := Lib.hid hz; have HK2 := Lib.hid hk; have Hs2 := Lib.hid hs; clear hz hk hs)
    | (refine wpList_buildL rfl 157 _ rfl _ _ (built157 n w.heap.size) rfl ?_)
    | (refine wpList_storeRow rfl 157 _ _ rfl rfl w1.heap.size (fieldV n w.heap.size) zField _ rfl rfl HZ2.out rfl (size157 _ _ _) (oneField _ _) ?_; intro w3 hA3 hk3 hs3))
  refine bodyPost_ret (v := .agg (fieldV n w.heap.size)) (results_cell1 Tryz.results126 _ _ w1.heap.size _ (fieldV n w.heap.size) _ rfl hA3 hu157 rfl (size157 _ _ _)) rfl ⟨w.heap.size, rfl, Nat.le_refl _, ?_, ?_⟩
  · exact hk3.at (HK2.out.at HA1.out id) (by have := Hs1.out; omega)
  · exact (HB1.out.trans (HK2.out.below.mono HB1.out.size)).trans (hk3.belowOf (by have := Hs1.out; have := Hs2.out; omega) (by intro b hb e; have := Hs1.out; omega))

/-- How long each field is. -/
def flen : Nat → Nat
  | 0 => 1
  | 1 => 2
  | 2 => 1
  | 3 => 3
  | 4 => 3
  | 5 => 1
  | 6 => 1
  | 7 => 6
  | 8 => 2
  | _ => 1
/-- Whose place each field is. -/
def fnum : Nat → Nat
  | 0 => 127
  | 1 => 128
  | 2 => 129
  | 3 => 130
  | 4 => 131
  | 5 => 132
  | 6 => 133
  | 7 => 134
  | _ => 135
theorem fat0_ok (hb : Nat) (w : World) : Calls Tryz.prog 127 #[.pointer (some ⟨hb, 0, none⟩)] w fun e w' => e = .returned (.pointer (some ⟨hb, 0, none⟩)) ∧ w' = w := by
  go_enter Tryz.func127, Tryz.ntmps127
  go_wp2
  go_ret
  exact ⟨rfl, rfl⟩
theorem fat1_ok (hb : Nat) (w : World) : Calls Tryz.prog 128 #[.pointer (some ⟨hb, 0, none⟩)] w fun e w' => e = .returned (.pointer (some ⟨hb, 1, none⟩)) ∧ w' = w := by
  go_enter Tryz.func128, Tryz.ntmps128
  go_wp2
  go_ret
  exact ⟨rfl, rfl⟩
theorem fat2_ok (hb : Nat) (w : World) : Calls Tryz.prog 129 #[.pointer (some ⟨hb, 0, none⟩)] w fun e w' => e = .returned (.pointer (some ⟨hb, 2, none⟩)) ∧ w' = w := by
  go_enter Tryz.func129, Tryz.ntmps129
  go_wp2
  go_ret
  exact ⟨rfl, rfl⟩
theorem fat3_ok (hb : Nat) (w : World) : Calls Tryz.prog 130 #[.pointer (some ⟨hb, 0, none⟩)] w fun e w' => e = .returned (.pointer (some ⟨hb, 3, none⟩)) ∧ w' = w := by
  go_enter Tryz.func130, Tryz.ntmps130
  go_wp2
  go_ret
  exact ⟨rfl, rfl⟩
theorem fat4_ok (hb : Nat) (w : World) : Calls Tryz.prog 131 #[.pointer (some ⟨hb, 0, none⟩)] w fun e w' => e = .returned (.pointer (some ⟨hb, 4, none⟩)) ∧ w' = w := by
  go_enter Tryz.func131, Tryz.ntmps131
  go_wp2
  go_ret
  exact ⟨rfl, rfl⟩
theorem fat5_ok (hb : Nat) (w : World) : Calls Tryz.prog 132 #[.pointer (some ⟨hb, 0, none⟩)] w fun e w' => e = .returned (.pointer (some ⟨hb, 5, none⟩)) ∧ w' = w := by
  go_enter Tryz.func132, Tryz.ntmps132
  go_wp2
  go_ret
  exact ⟨rfl, rfl⟩
theorem fat6_ok (hb : Nat) (w : World) : Calls Tryz.prog 133 #[.pointer (some ⟨hb, 0, none⟩)] w fun e w' => e = .returned (.pointer (some ⟨hb, 6, none⟩)) ∧ w' = w := by
  go_enter Tryz.func133, Tryz.ntmps133
  go_wp2
  go_ret
  exact ⟨rfl, rfl⟩
theorem fat7_ok (hb : Nat) (w : World) : Calls Tryz.prog 134 #[.pointer (some ⟨hb, 0, none⟩)] w fun e w' => e = .returned (.pointer (some ⟨hb, 7, none⟩)) ∧ w' = w := by
  go_enter Tryz.func134, Tryz.ntmps134
  go_wp2
  go_ret
  exact ⟨rfl, rfl⟩
theorem fat8_ok (hb : Nat) (w : World) : Calls Tryz.prog 135 #[.pointer (some ⟨hb, 0, none⟩)] w fun e w' => e = .returned (.pointer (some ⟨hb, 8, none⟩)) ∧ w' = w := by
  go_enter Tryz.func135, Tryz.ntmps135
  go_wp2
  go_ret
  exact ⟨rfl, rfl⟩
theorem fget0_ok (hb q : Nat) (x : Int) (w : World) (hq : w.cell? ⟨q, 0, none⟩ = some (fnV 127)) (hc : w.cell? ⟨hb, 0, none⟩ = some (.int .i64 x)) : Calls Tryz.prog 171 #[.pointer (some ⟨hb, 0, none⟩), .pointer (some ⟨q, 0, none⟩)] w fun e w' => e = .returned (.int .i64 x) ∧ w' = w := by
  unfold fnV at hq
  go_enter Tryz.func171, Tryz.ntmps171
  go_wp2_with (first
    | (go_at_call 127; refine (fat0_ok hb _).mono ?_; rintro e w1 ⟨rfl, rfl⟩))
  go_ret
  exact ⟨rfl, rfl⟩
theorem fget1_ok (hb q : Nat) (x : Int) (w : World) (hq : w.cell? ⟨q, 0, none⟩ = some (fnV 128)) (hc : w.cell? ⟨hb, 1, none⟩ = some (.int .i64 x)) : Calls Tryz.prog 171 #[.pointer (some ⟨hb, 0, none⟩), .pointer (some ⟨q, 0, none⟩)] w fun e w' => e = .returned (.int .i64 x) ∧ w' = w := by
  unfold fnV at hq
  go_enter Tryz.func171, Tryz.ntmps171
  go_wp2_with (first
    | (go_at_call 128; refine (fat1_ok hb _).mono ?_; rintro e w1 ⟨rfl, rfl⟩))
  go_ret
  exact ⟨rfl, rfl⟩
theorem fget2_ok (hb q : Nat) (x : Int) (w : World) (hq : w.cell? ⟨q, 0, none⟩ = some (fnV 129)) (hc : w.cell? ⟨hb, 2, none⟩ = some (.int .i64 x)) : Calls Tryz.prog 171 #[.pointer (some ⟨hb, 0, none⟩), .pointer (some ⟨q, 0, none⟩)] w fun e w' => e = .returned (.int .i64 x) ∧ w' = w := by
  unfold fnV at hq
  go_enter Tryz.func171, Tryz.ntmps171
  go_wp2_with (first
    | (go_at_call 129; refine (fat2_ok hb _).mono ?_; rintro e w1 ⟨rfl, rfl⟩))
  go_ret
  exact ⟨rfl, rfl⟩
theorem fget3_ok (hb q : Nat) (x : Int) (w : World) (hq : w.cell? ⟨q, 0, none⟩ = some (fnV 130)) (hc : w.cell? ⟨hb, 3, none⟩ = some (.int .i64 x)) : Calls Tryz.prog 171 #[.pointer (some ⟨hb, 0, none⟩), .pointer (some ⟨q, 0, none⟩)] w fun e w' => e = .returned (.int .i64 x) ∧ w' = w := by
  unfold fnV at hq
  go_enter Tryz.func171, Tryz.ntmps171
  go_wp2_with (first
    | (go_at_call 130; refine (fat3_ok hb _).mono ?_; rintro e w1 ⟨rfl, rfl⟩))
  go_ret
  exact ⟨rfl, rfl⟩
theorem fget4_ok (hb q : Nat) (x : Int) (w : World) (hq : w.cell? ⟨q, 0, none⟩ = some (fnV 131)) (hc : w.cell? ⟨hb, 4, none⟩ = some (.int .i64 x)) : Calls Tryz.prog 171 #[.pointer (some ⟨hb, 0, none⟩), .pointer (some ⟨q, 0, none⟩)] w fun e w' => e = .returned (.int .i64 x) ∧ w' = w := by
  unfold fnV at hq
  go_enter Tryz.func171, Tryz.ntmps171
  go_wp2_with (first
    | (go_at_call 131; refine (fat4_ok hb _).mono ?_; rintro e w1 ⟨rfl, rfl⟩))
  go_ret
  exact ⟨rfl, rfl⟩
theorem fget5_ok (hb q : Nat) (x : Int) (w : World) (hq : w.cell? ⟨q, 0, none⟩ = some (fnV 132)) (hc : w.cell? ⟨hb, 5, none⟩ = some (.int .i64 x)) : Calls Tryz.prog 171 #[.pointer (some ⟨hb, 0, none⟩), .pointer (some ⟨q, 0, none⟩)] w fun e w' => e = .returned (.int .i64 x) ∧ w' = w := by
  unfold fnV at hq
  go_enter Tryz.func171, Tryz.ntmps171
  go_wp2_with (first
    | (go_at_call 132; refine (fat5_ok hb _).mono ?_; rintro e w1 ⟨rfl, rfl⟩))
  go_ret
  exact ⟨rfl, rfl⟩
theorem fget6_ok (hb q : Nat) (x : Int) (w : World) (hq : w.cell? ⟨q, 0, none⟩ = some (fnV 133)) (hc : w.cell? ⟨hb, 6, none⟩ = some (.int .i64 x)) : Calls Tryz.prog 171 #[.pointer (some ⟨hb, 0, none⟩), .pointer (some ⟨q, 0, none⟩)] w fun e w' => e = .returned (.int .i64 x) ∧ w' = w := by
  unfold fnV at hq
  go_enter Tryz.func171, Tryz.ntmps171
  go_wp2_with (first
    | (go_at_call 133; refine (fat6_ok hb _).mono ?_; rintro e w1 ⟨rfl, rfl⟩))
  go_ret
  exact ⟨rfl, rfl⟩
theorem fget7_ok (hb q : Nat) (x : Int) (w : World) (hq : w.cell? ⟨q, 0, none⟩ = some (fnV 134)) (hc : w.cell? ⟨hb, 7, none⟩ = some (.int .i64 x)) : Calls Tryz.prog 171 #[.pointer (some ⟨hb, 0, none⟩), .pointer (some ⟨q, 0, none⟩)] w fun e w' => e = .returned (.int .i64 x) ∧ w' = w := by
  unfold fnV at hq
  go_enter Tryz.func171, Tryz.ntmps171
  go_wp2_with (first
    | (go_at_call 134; refine (fat7_ok hb _).mono ?_; rintro e w1 ⟨rfl, rfl⟩))
  go_ret
  exact ⟨rfl, rfl⟩
theorem fget8_ok (hb q : Nat) (x : Int) (w : World) (hq : w.cell? ⟨q, 0, none⟩ = some (fnV 135)) (hc : w.cell? ⟨hb, 8, none⟩ = some (.int .i64 x)) : Calls Tryz.prog 171 #[.pointer (some ⟨hb, 0, none⟩), .pointer (some ⟨q, 0, none⟩)] w fun e w' => e = .returned (.int .i64 x) ∧ w' = w := by
  unfold fnV at hq
  go_enter Tryz.func171, Tryz.ntmps171
  go_wp2_with (first
    | (go_at_call 135; refine (fat8_ok hb _).mono ?_; rintro e w1 ⟨rfl, rfl⟩))
  go_ret
  exact ⟨rfl, rfl⟩
theorem fget_ok (hb q k : Nat) (h : HV) (w : World) (hk : k < 9) (hq : w.cell? ⟨q, 0, none⟩ = some (fnV (fnum k))) (hA : At w hb h.arr 40) : Calls Tryz.prog 171 #[.pointer (some ⟨hb, 0, none⟩), .pointer (some ⟨q, 0, none⟩)] w fun e w' => (∃ x : Int, e = .returned (.int .i64 x)) ∧ w' = w := by
  match k, hk with
  | 0, _ => exact (fget0_ok hb q _ w hq (hA.cell 0)).mono (fun e w' h => ⟨⟨_, h.1⟩, h.2⟩)
  | 1, _ => exact (fget1_ok hb q _ w hq (hA.cell 1)).mono (fun e w' h => ⟨⟨_, h.1⟩, h.2⟩)
  | 2, _ => exact (fget2_ok hb q _ w hq (hA.cell 2)).mono (fun e w' h => ⟨⟨_, h.1⟩, h.2⟩)
  | 3, _ => exact (fget3_ok hb q _ w hq (hA.cell 3)).mono (fun e w' h => ⟨⟨_, h.1⟩, h.2⟩)
  | 4, _ => exact (fget4_ok hb q _ w hq (hA.cell 4)).mono (fun e w' h => ⟨⟨_, h.1⟩, h.2⟩)
  | 5, _ => exact (fget5_ok hb q _ w hq (hA.cell 5)).mono (fun e w' h => ⟨⟨_, h.1⟩, h.2⟩)
  | 6, _ => exact (fget6_ok hb q _ w hq (hA.cell 6)).mono (fun e w' h => ⟨⟨_, h.1⟩, h.2⟩)
  | 7, _ => exact (fget7_ok hb q _ w hq (hA.cell 7)).mono (fun e w' h => ⟨⟨_, h.1⟩, h.2⟩)
  | 8, _ => exact (fget8_ok hb q _ w hq (hA.cell 8)).mono (fun e w' h => ⟨⟨_, h.1⟩, h.2⟩)
theorem flast_ok (hb : Nat) (p : Option Addr) (m c : Nat) (w : World) (hc : w.cell? ⟨hb, 9, none⟩ = some (.slice p m c)) : Calls Tryz.prog 136 #[.pointer (some ⟨hb, 0, none⟩)] w fun e w' => (∃ x : Int, e = .returned (.int .i64 x)) ∧ w' = w := by
  go_enter Tryz.func136, Tryz.ntmps136
  go_wp2
  go_ret
  exact ⟨⟨_, rfl⟩, rfl⟩
end Go.Proofs.YtnndkfhpifgaiaaGreat
