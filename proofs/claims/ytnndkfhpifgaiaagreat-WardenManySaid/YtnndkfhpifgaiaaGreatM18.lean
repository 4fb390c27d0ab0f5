/-
  node: the root as a block.
-/
import Derived.Test.YtnndkfhpifgaiaaGreatM15
import Derived.Test.YtnndkfhpifgaiaaGreatM16
import Derived.Test.YtnndkfhpifgaiaaGreatM10
import Derived.Deep.LoopGhost
import Derived.Great.Ranges
import Derived.Test.YtnndkfhpifgaiaaGreatM14
set_option linter.unusedVariables false
set_option linter.unusedSimpArgs false
namespace Go.Proofs.YtnndkfhpifgaiaaGreat
open Go.RowKit

theorem ix14_0 (w : World) : (Instr.index 94 (.agg #[.int .i64 0, .int .i64 0, .int .i64 0, .int .i64 0, .int .i64 0, .int .i64 0, .int .i64 0, .int .i64 0, .int .i64 0, .int .i64 0, .int .i64 0, .int .i64 0, .int .i64 0, .int .i64 0]) (.int .i64 0)).run Tryz.prog w = .ok (.int .i64 0) w := by kernel_rfl
theorem ix14_1 (w : World) : (Instr.index 94 (.agg #[.int .i64 0, .int .i64 0, .int .i64 0, .int .i64 0, .int .i64 0, .int .i64 0, .int .i64 0, .int .i64 0, .int .i64 0, .int .i64 0, .int .i64 0, .int .i64 0, .int .i64 0, .int .i64 0]) (.int .i64 1)).run Tryz.prog w = .ok (.int .i64 0) w := by kernel_rfl
theorem ix14_2 (w : World) : (Instr.index 94 (.agg #[.int .i64 0, .int .i64 0, .int .i64 0, .int .i64 0, .int .i64 0, .int .i64 0, .int .i64 0, .int .i64 0, .int .i64 0, .int .i64 0, .int .i64 0, .int .i64 0, .int .i64 0, .int .i64 0]) (.int .i64 2)).run Tryz.prog w = .ok (.int .i64 0) w := by kernel_rfl
theorem ix14_3 (w : World) : (Instr.index 94 (.agg #[.int .i64 0, .int .i64 0, .int .i64 0, .int .i64 0, .int .i64 0, .int .i64 0, .int .i64 0, .int .i64 0, .int .i64 0, .int .i64 0, .int .i64 0, .int .i64 0, .int .i64 0, .int .i64 0]) (.int .i64 3)).run Tryz.prog w = .ok (.int .i64 0) w := by kernel_rfl
theorem ix14_4 (w : World) : (Instr.index 94 (.agg #[.int .i64 0, .int .i64 0, .int .i64 0, .int .i64 0, .int .i64 0, .int .i64 0, .int .i64 0, .int .i64 0, .int .i64 0, .int .i64 0, .int .i64 0, .int .i64 0, .int .i64 0, .int .i64 0]) (.int .i64 4)).run Tryz.prog w = .ok (.int .i64 0) w := by kernel_rfl
theorem ix14_5 (w : World) : (Instr.index 94 (.agg #[.int .i64 0, .int .i64 0, .int .i64 0, .int .i64 0, .int .i64 0, .int .i64 0, .int .i64 0, .int .i64 0, .int .i64 0, .int .i64 0, .int .i64 0, .int .i64 0, .int .i64 0, .int .i64 0]) (.int .i64 5)).run Tryz.prog w = .ok (.int .i64 0) w := by kernel_rfl
theorem ix14_6 (w : World) : (Instr.index 94 (.agg #[.int .i64 0, .int .i64 0, .int .i64 0, .int .i64 0, .int .i64 0, .int .i64 0, .int .i64 0, .int .i64 0, .int .i64 0, .int .i64 0, .int .i64 0, .int .i64 0, .int .i64 0, .int .i64 0]) (.int .i64 6)).run Tryz.prog w = .ok (.int .i64 0) w := by kernel_rfl
theorem ix14_7 (w : World) : (Instr.index 94 (.agg #[.int .i64 0, .int .i64 0, .int .i64 0, .int .i64 0, .int .i64 0, .int .i64 0, .int .i64 0, .int .i64 0, .int .i64 0, .int .i64 0, .int .i64 0, .int .i64 0, .int .i64 0, .int .i64 0]) (.int .i64 7)).run Tryz.prog w = .ok (.int .i64 0) w := by kernel_rfl
theorem ix14_8 (w : World) : (Instr.index 94 (.agg #[.int .i64 0, .int .i64 0, .int .i64 0, .int .i64 0, .int .i64 0, .int .i64 0, .int .i64 0, .int .i64 0, .int .i64 0, .int .i64 0, .int .i64 0, .int .i64 0, .int .i64 0, .int .i64 0]) (.int .i64 8)).run Tryz.prog w = .ok (.int .i64 0) w := by kernel_rfl
theorem ix14_9 (w : World) : (Instr.index 94 (.agg #[.int .i64 0, .int .i64 0, .int .i64 0, .int .i64 0, .int .i64 0, .int .i64 0, .int .i64 0, .int .i64 0, .int .i64 0, .int .i64 0, .int .i64 0, .int .i64 0, .int .i64 0, .int .i64 0]) (.int .i64 9)).run Tryz.prog w = .ok (.int .i64 0) w := by kernel_rfl
theorem ix14_10 (w : World) : (Instr.index 94 (.agg #[.int .i64 0, .int .i64 0, .int .i64 0, .int .i64 0, .int .i64 0, .int .i64 0, .int .i64 0, .int .i64 0, .int .i64 0, .int .i64 0, .int .i64 0, .int .i64 0, .int .i64 0, .int .i64 0]) (.int .i64 10)).run Tryz.prog w = .ok (.int .i64 0) w := by kernel_rfl
theorem ix14_11 (w : World) : (Instr.index 94 (.agg #[.int .i64 0, .int .i64 0, .int .i64 0, .int .i64 0, .int .i64 0, .int .i64 0, .int .i64 0, .int .i64 0, .int .i64 0, .int .i64 0, .int .i64 0, .int .i64 0, .int .i64 0, .int .i64 0]) (.int .i64 11)).run Tryz.prog w = .ok (.int .i64 0) w := by kernel_rfl
theorem ix14_12 (w : World) : (Instr.index 94 (.agg #[.int .i64 0, .int .i64 0, .int .i64 0, .int .i64 0, .int .i64 0, .int .i64 0, .int .i64 0, .int .i64 0, .int .i64 0, .int .i64 0, .int .i64 0, .int .i64 0, .int .i64 0, .int .i64 0]) (.int .i64 12)).run Tryz.prog w = .ok (.int .i64 0) w := by kernel_rfl
theorem ix14_13 (w : World) : (Instr.index 94 (.agg #[.int .i64 0, .int .i64 0, .int .i64 0, .int .i64 0, .int .i64 0, .int .i64 0, .int .i64 0, .int .i64 0, .int .i64 0, .int .i64 0, .int .i64 0, .int .i64 0, .int .i64 0, .int .i64 0]) (.int .i64 13)).run Tryz.prog w = .ok (.int .i64 0) w := by kernel_rfl

theorem ix14 (k : Nat) (h : k < 14) (w : World) : (Instr.index 94 (.agg #[.int .i64 0, .int .i64 0, .int .i64 0, .int .i64 0, .int .i64 0, .int .i64 0, .int .i64 0, .int .i64 0, .int .i64 0, .int .i64 0, .int .i64 0, .int .i64 0, .int .i64 0, .int .i64 0]) (.int .i64 k)).run Tryz.prog w = .ok (.int .i64 0) w := by
  match k, h with
  | 0, _ => exact ix14_0 w
  | 1, _ => exact ix14_1 w
  | 2, _ => exact ix14_2 w
  | 3, _ => exact ix14_3 w
  | 4, _ => exact ix14_4 w
  | 5, _ => exact ix14_5 w
  | 6, _ => exact ix14_6 w
  | 7, _ => exact ix14_7 w
  | 8, _ => exact ix14_8 w
  | 9, _ => exact ix14_9 w
  | 10, _ => exact ix14_10 w
  | 11, _ => exact ix14_11 w
  | 12, _ => exact ix14_12 w
  | 13, _ => exact ix14_13 w

theorem nin_ok (v l m : Int) (w : World) (h0 : l ≤ v) (h1 : v ≤ m) : Calls Tryz.prog 97 #[.int .i64 v, .int .i64 l, .int .i64 m] w fun e w' => e = .returned (.bool true) ∧ w = w' := by
  have e1 : decide (l ≤ v) = true := by simpa using h0
  have e2 : decide (v ≤ m) = true := by simpa using h1
  go_enter Tryz.func97, Tryz.ntmps97
  go_wp2
  go_ret
  exact ⟨rfl, rfl⟩

/-- The root of a house, as a node. -/
def rootCells : Array Value := #[.int .i64 1, .int .i64 2, .int .i64 1, .int .i64 0, .int .i64 0, .int .i64 0, .int .i64 0, .int .i64 0, .int .i64 0, .int .i64 0, .int .i64 0, .int .i64 0, .int .i64 0, .int .i64 0, .int .i64 0, .int .i64 0, .int .i64 0, .int .i64 0, .int .i64 0]
def rootV : Value := .agg rootCells
def noneCells : Array Value := #[.int .i64 0, .int .i64 0, .int .i64 0, .int .i64 0, .int .i64 0, .int .i64 0, .int .i64 0, .int .i64 0, .int .i64 0, .int .i64 0, .int .i64 0, .int .i64 0, .int .i64 0, .int .i64 0, .int .i64 0, .int .i64 0, .int .i64 0, .int .i64 0, .int .i64 0]
def noneV : Value := .agg noneCells
def ptrCells : List Value := [.int .i64 0, .int .i64 0, .int .i64 0, .int .i64 0, .int .i64 0, .int .i64 0, .int .i64 0, .int .i64 0, .int .i64 0, .int .i64 0, .int .i64 0, .int .i64 0, .int .i64 0, .int .i64 0]
def ptrV : Value := .agg ptrCells.toArray
theorem rootV_cells : rootV.cells = rootCells := rfl
theorem built96 : Tryz.prog.built 96 [] = some noneCells := by kernel_rfl
theorem size96 : (Tryz.prog.info? 96).map (·.size) = some rootCells.size := by kernel_rfl
theorem size94 : (Tryz.prog.info? 94).map (·.size) = some ptrCells.length := by kernel_rfl
theorem ix14v (k : Nat) (h : k < 14) (w : World) : (Instr.index 94 (.agg ptrCells.toArray) (.int .i64 k)).run Tryz.prog w = .ok (.int .i64 0) w := ix14 k h w
theorem root_range {w : World} {g : Nat} (h : At w g rootCells 96) : w.rangeAt g 5 ptrCells := by
  have := At.range h 5 14
  exact this
theorem root_guard (x y : Operand) (w : World) : (eqGuard .neq 96 x y rootV noneV).run Tryz.prog w = .ok () w := by kernel_rfl
theorem root_ne (w : World) : (binOp .neq 96 rootV noneV).run Tryz.prog w = .ok (.bool true) w := by kernel_rfl

section
variable {P : Program} {o : Oper} {ops : Array Oper} {Q : Exit → Act → World → Prop} {rest : List Oper} {a : Act} {w : World}
theorem wpList_rootNe (hg : o.guard = none) (x y : Operand) (ty : TypeId) (ho : o.op = .binOp .neq 96 x y ty)
    (hx : a.eval x = rootV) (hy : a.eval y = noneV) (h : wpList Tryz.prog ops Q rest (a.put o.dst (.bool true)) w) : wpList Tryz.prog ops Q (o :: rest) a w := by
  refine wpList_plain hg fun K hK => ?_
  unfold Oper.wp execOp
  simp only [ho, hx, hy, Sem.run_bind, root_guard, root_ne, Sem.run_pure, Result.andThen_ok]
  exact hK _ _ h

end

set_option maxRecDepth 100000 in
set_option maxHeartbeats 1000000 in
theorem ncheck_ok (w : World) : Calls Tryz.prog 63 #[rootV] w (Ans (.bool true) w) := by
  have hu94 := Tryz.underlying94
  have hi94 := Lib.hid size94
  have hu96 := Tryz.underlying96
  have hi96 := Lib.hid size96
  go_enter Tryz.func63, Tryz.ntmps63
  go_wp2_with (first
    | (refine wpList_boxAt rfl 96 _ rfl rootCells rfl ?_; intro W hA hk hz; have c0 : W.cell? ⟨w.heap.size, 0, none⟩ = some (.int .i64 1) := hA.cell 0; have c1 : W.cell? ⟨w.heap.size, 1, none⟩ = some (.int .i64 2) := hA.cell 1; have c2 : W.cell? ⟨w.heap.size, 2, none⟩ = some (.int .i64 1) := hA.cell 2; have c3 : W.cell? ⟨w.heap.size, 3, none⟩ = some (.int .i64 0) := hA.cell 3; have c4 : W.cell? ⟨w.heap.size, 4, none⟩ = some (.int .i64 0) := hA.cell 4; have HA := Lib.hid hA; have hr := root_range hA; clear hz hA)
    | (refine wpList_load_row rfl 96 _ rfl w.heap.size rfl 96 rootCells (0, 0) _ HA.out hu96 rfl hi96.out ?_)
    | (refine wpList_buildTo rfl 96 _ rfl _ rfl noneCells built96 ?_)
    | (refine wpList_rootNe rfl _ _ _ rfl rfl rfl ?_)
    | (refine wpList_load_mid rfl 94 _ rfl w.heap.size 5 rfl ptrCells _ hr hu94 rfl hi94.out ?_)
    | (go_at_call 97; refine (nin_ok _ _ _ _ (by omega) (by omega)).mono ?_; rintro e w' ⟨rfl, rfl⟩))
  go_loopg [3, 47] 14 (fun gk ok i wr => ∃ j : Nat, j ≤ 14 ∧ gk = 14 - j ∧ i = .int .i64 j ∧ ok = .bool true ∧ Below w.heap.size w wr)
  case atStart => exact ⟨0, by omega, by omega, rfl, rfl, hk.below⟩
  case round =>
    obtain ⟨j, hj, hgk, rfl, rfl, hbw⟩ := hrel
    have Hgk := Lib.hid hgk
    clear hgk c0 c1 c2 c3 c4 hr
    by_cases hlt : j < 14
    · have hix := ix14v j hlt
      go_wp2_with (first | (go_at_call 97; refine (nin_ok _ _ _ _ (by omega) (by omega)).mono ?_; rintro e w' ⟨rfl, rfl⟩))
      go_roundg (14 - (j + 1))
      case measure => have := Hgk.out; omega
      case rel => exact ⟨j + 1, by omega, rfl, by go_num, rfl, hbw⟩
    · go_wp2
      go_ret
      exact ⟨rfl, hbw⟩

theorem repeatI (s : ByteArray) (c : Int) (w : World) (hs : s.size = 1) (h0 : 0 ≤ c) (hc : c ≤ 1000000) : Calls Tryz.prog 57 #[.string s, .int .i64 c] w (Str c.toNat w) := by
  obtain ⟨n, rfl⟩ := Int.eq_ofNat_of_zero_le h0
  exact repeat_any s n w hs (by omega)
theorem put1 (v : Int) (w : World) : Calls Tryz.prog 80 #[.int .i64 v, .int .i64 1] w (Str 1 w) := put_any v 1 1 w (by decide)
theorem put2 (v : Int) (w : World) : Calls Tryz.prog 80 #[.int .i64 v, .int .i64 2] w (Str 2 w) := put_any v 2 2 w (by decide)
theorem put4 (v : Int) (w : World) : Calls Tryz.prog 80 #[.int .i64 v, .int .i64 4] w (Str 4 w) := put_any v 4 4 w (by decide)
theorem put6 (v : Int) (w : World) : Calls Tryz.prog 80 #[.int .i64 v, .int .i64 6] w (Str 6 w) := put_any v 6 6 w (by decide)

set_option maxRecDepth 100000 in
set_option maxHeartbeats 4000000 in
theorem nput_ok (w : World) : Calls Tryz.prog 114 #[rootV] w fun e w' => ∃ s : ByteArray, s.size = 256 ∧ e = .returned (.tuple #[.string s, .bool true]) ∧ Below w.heap.size w w' := by
  have hu94 := Tryz.underlying94
  have hi94 := Lib.hid size94
  have hu96 := Tryz.underlying96
  have hi96 := Lib.hid size96
  go_enter Tryz.func114, Tryz.ntmps114
  go_wp2_with (first
    | (refine wpList_boxAt rfl 96 _ rfl rootCells rfl ?_; intro W hA hk hz; have HA := Lib.hid hA; clear hA)
    | (refine wpList_load_row rfl 96 _ rfl w.heap.size rfl 96 rootCells (0, 0) _ HA.out hu96 rfl hi96.out ?_)
    | (go_at_call 63; refine (ncheck_ok _).mono ?_; rintro e W2 ⟨rfl, hb2⟩))
  have hA2 := Below.at hb2 HA.out (by omega)
  have hbw := hk.below.trans (hb2.mono (by omega))
  clear hb2 hk hz
  have c0 : W2.cell? ⟨w.heap.size, 0, none⟩ = some (.int .i64 1) := hA2.cell 0
  have c1 : W2.cell? ⟨w.heap.size, 1, none⟩ = some (.int .i64 2) := hA2.cell 1
  have c2 : W2.cell? ⟨w.heap.size, 2, none⟩ = some (.int .i64 1) := hA2.cell 2
  have c3 : W2.cell? ⟨w.heap.size, 3, none⟩ = some (.int .i64 0) := hA2.cell 3
  have c4 : W2.cell? ⟨w.heap.size, 4, none⟩ = some (.int .i64 0) := hA2.cell 4
  have hr := root_range hA2
  have hlt := hA2.lt
  (try simp only [Act.put, List.setIfInBounds_toArray, List.set_cons_zero, List.set_cons_succ])
  refine wp_region_noPanic ?_
  refine T_region 20 (fun w' => w'.cell? ⟨w.heap.size, 0, none⟩ = some (.int .i64 1) ∧ w'.cell? ⟨w.heap.size, 1, none⟩ = some (.int .i64 2) ∧ w'.cell? ⟨w.heap.size, 2, none⟩ = some (.int .i64 1) ∧ w'.cell? ⟨w.heap.size, 3, none⟩ = some (.int .i64 0) ∧ w'.cell? ⟨w.heap.size, 4, none⟩ = some (.int .i64 0)) (by kernel_rfl) (by kernel_rfl) (by kernel_rfl) (by decide) (by kernel_rfl) ⟨c0, c1, c2, c3, c4⟩ (fun hHeld hU => ?_)
  refine T_take (i := 0) hU 10 ?_ rfl rfl (by decide) (by kernel_rfl) (by kernel_rfl) (fun _ _ _ h => h) (Or.inl ⟨by rfl, ?_⟩) hHeld ?_; rotate_left; (intro w hSw; (try dsimp only at hSw); go_simp); (try with_reducible rfl); clear hU; intro hU; (try simp only [Act.put, List.setIfInBounds_toArray, List.set_cons_zero, List.set_cons_succ])
  refine T_take (i := 1) hU 11 ?_ rfl rfl (by decide) (by kernel_rfl) (by kernel_rfl) (fun _ _ _ h => h) (Or.inl ⟨by rfl, ?_⟩) hHeld ?_; rotate_left; (intro w hSw; (try dsimp only at hSw); go_simp); (try with_reducible rfl); clear hU; intro hU; (try simp only [Act.put, List.setIfInBounds_toArray, List.set_cons_zero, List.set_cons_succ])
  refine T_take (i := 4) hU 14 ?_ rfl rfl (by decide) (by kernel_rfl) (by kernel_rfl) (fun _ _ _ h => h) (Or.inl ⟨by rfl, ?_⟩) hHeld ?_; rotate_left; (intro w hSw; (try dsimp only at hSw); go_simp); (try with_reducible rfl); clear hU; intro hU; (try simp only [Act.put, List.setIfInBounds_toArray, List.set_cons_zero, List.set_cons_succ])
  refine T_take (i := 5) hU 15 ?_ rfl rfl (by decide) (by kernel_rfl) (by kernel_rfl) (fun _ _ _ h => h) (Or.inl ⟨by rfl, ?_⟩) hHeld ?_; rotate_left; (intro w hSw; (try dsimp only at hSw); go_simp); (try with_reducible rfl); clear hU; intro hU; (try simp only [Act.put, List.setIfInBounds_toArray, List.set_cons_zero, List.set_cons_succ])
  refine T_take (i := 8) hU 18 ?_ rfl rfl (by decide) (by kernel_rfl) (by kernel_rfl) (fun _ _ _ h => h) (Or.inl ⟨by rfl, ?_⟩) hHeld ?_; rotate_left; (intro w hSw; (try dsimp only at hSw); go_simp); (try with_reducible rfl); clear hU; intro hU; (try simp only [Act.put, List.setIfInBounds_toArray, List.set_cons_zero, List.set_cons_succ])
  refine T_take (i := 9) hU 19 ?_ rfl rfl (by decide) (by kernel_rfl) (by kernel_rfl) (fun _ _ _ h => h) (Or.inl ⟨by rfl, ?_⟩) hHeld ?_; rotate_left; (intro w hSw; (try dsimp only at hSw); go_simp); (try with_reducible rfl); clear hU; intro hU; (try simp only [Act.put, List.setIfInBounds_toArray, List.set_cons_zero, List.set_cons_succ])
  refine T_take (i := 12) hU 22 ?_ rfl rfl (by decide) (by kernel_rfl) (by kernel_rfl) (fun _ _ _ h => h) (Or.inl ⟨by rfl, ?_⟩) hHeld ?_; rotate_left; (intro w hSw; (try dsimp only at hSw); go_simp); (try with_reducible rfl); clear hU; intro hU; (try simp only [Act.put, List.setIfInBounds_toArray, List.set_cons_zero, List.set_cons_succ])
  refine T_take (i := 13) hU 23 ?_ rfl rfl (by decide) (by kernel_rfl) (by kernel_rfl) (fun _ _ _ h => h) (Or.inl ⟨by rfl, ?_⟩) hHeld ?_; rotate_left; (intro w hSw; (try dsimp only at hSw); go_simp); (try with_reducible rfl); clear hU; intro hU; (try simp only [Act.put, List.setIfInBounds_toArray, List.set_cons_zero, List.set_cons_succ])
  refine T_take (i := 16) hU 26 ?_ rfl rfl (by decide) (by kernel_rfl) (by kernel_rfl) (fun _ _ _ h => h) (Or.inl ⟨by rfl, ?_⟩) hHeld ?_; rotate_left; (intro w hSw; (try dsimp only at hSw); go_simp); (try with_reducible rfl); clear hU; intro hU; (try simp only [Act.put, List.setIfInBounds_toArray, List.set_cons_zero, List.set_cons_succ])
  refine T_take (i := 17) hU 27 ?_ rfl rfl (by decide) (by kernel_rfl) (by kernel_rfl) (fun _ _ _ h => h) (Or.inl ⟨by rfl, ?_⟩) hHeld ?_; rotate_left; (intro w hSw; (try dsimp only at hSw); go_simp); (try with_reducible rfl); clear hU; intro hU; (try simp only [Act.put, List.setIfInBounds_toArray, List.set_cons_zero, List.set_cons_succ])
  have hHeld2 := hHeld
  refine T_step (i := 2) hU rfl (by decide) (by kernel_rfl) (fun K hK => ?_); clear hU hHeld
  go_simp
  go_at_call 80
  refine (put1 _ _).mono ?_
  rintro e v0 ⟨s0, hs0, rfl, hb0⟩
  refine hK.out _ _ (⟨Below.keepCell hb0 hHeld2.1, Below.keepCell hb0 hHeld2.2.1, Below.keepCell hb0 hHeld2.2.2.1, Below.keepCell hb0 hHeld2.2.2.2.1, Below.keepCell hb0 hHeld2.2.2.2.2⟩) (fun hHeld hU => ?_); clear hK K; (try simp only [Act.put, List.setIfInBounds_toArray, List.set_cons_zero, List.set_cons_succ])
  refine T_take (i := 3) hU 13 ?_ rfl rfl (by decide) (by kernel_rfl) (by kernel_rfl) (fun _ _ _ h => h) (Or.inl ⟨by rfl, ?_⟩) hHeld ?_; rotate_left; (intro w hSw; (try dsimp only at hSw); go_simp); (try with_reducible rfl); clear hU; intro hU; (try simp only [Act.put, List.setIfInBounds_toArray, List.set_cons_zero, List.set_cons_succ])
  have hHeld6 := hHeld
  refine T_step (i := 6) hU rfl (by decide) (by kernel_rfl) (fun K hK => ?_); clear hU hHeld
  go_simp
  go_at_call 80
  refine (put1 _ _).mono ?_
  rintro e v1 ⟨s1, hs1, rfl, hb1⟩
  refine hK.out _ _ (⟨Below.keepCell hb1 hHeld6.1, Below.keepCell hb1 hHeld6.2.1, Below.keepCell hb1 hHeld6.2.2.1, Below.keepCell hb1 hHeld6.2.2.2.1, Below.keepCell hb1 hHeld6.2.2.2.2⟩) (fun hHeld hU => ?_); clear hK K; (try simp only [Act.put, List.setIfInBounds_toArray, List.set_cons_zero, List.set_cons_succ])
  refine T_take (i := 7) hU 17 ?_ rfl rfl (by decide) (by kernel_rfl) (by kernel_rfl) (fun _ _ _ h => h) (Or.inl ⟨by rfl, ?_⟩) hHeld ?_; rotate_left; (intro w hSw; (try dsimp only at hSw); go_simp); (try with_reducible rfl); clear hU; intro hU; (try simp only [Act.put, List.setIfInBounds_toArray, List.set_cons_zero, List.set_cons_succ])
  have hHeld10 := hHeld
  refine T_step (i := 10) hU rfl (by decide) (by kernel_rfl) (fun K hK => ?_); clear hU hHeld
  go_simp
  go_at_call 80
  refine (put1 _ _).mono ?_
  rintro e v2 ⟨s2, hs2, rfl, hb2⟩
  refine hK.out _ _ (⟨Below.keepCell hb2 hHeld10.1, Below.keepCell hb2 hHeld10.2.1, Below.keepCell hb2 hHeld10.2.2.1, Below.keepCell hb2 hHeld10.2.2.2.1, Below.keepCell hb2 hHeld10.2.2.2.2⟩) (fun hHeld hU => ?_); clear hK K; (try simp only [Act.put, List.setIfInBounds_toArray, List.set_cons_zero, List.set_cons_succ])
  refine T_take (i := 11) hU 21 ?_ rfl rfl (by decide) (by kernel_rfl) (by kernel_rfl) (fun _ _ _ h => h) (Or.inl ⟨by rfl, ?_⟩) hHeld ?_; rotate_left; (intro w hSw; (try dsimp only at hSw); go_simp); (try with_reducible rfl); clear hU; intro hU; (try simp only [Act.put, List.setIfInBounds_toArray, List.set_cons_zero, List.set_cons_succ])
  have hHeld14 := hHeld
  refine T_step (i := 14) hU rfl (by decide) (by kernel_rfl) (fun K hK => ?_); clear hU hHeld
  go_simp
  go_at_call 80
  refine (put4 _ _).mono ?_
  rintro e v3 ⟨s3, hs3, rfl, hb3⟩
  refine hK.out _ _ (⟨Below.keepCell hb3 hHeld14.1, Below.keepCell hb3 hHeld14.2.1, Below.keepCell hb3 hHeld14.2.2.1, Below.keepCell hb3 hHeld14.2.2.2.1, Below.keepCell hb3 hHeld14.2.2.2.2⟩) (fun hHeld hU => ?_); clear hK K; (try simp only [Act.put, List.setIfInBounds_toArray, List.set_cons_zero, List.set_cons_succ])
  refine T_take (i := 15) hU 25 ?_ rfl rfl (by decide) (by kernel_rfl) (by kernel_rfl) (fun _ _ _ h => h) (Or.inl ⟨by rfl, ?_⟩) hHeld ?_; rotate_left; (intro w hSw; (try dsimp only at hSw); go_simp); (try with_reducible rfl); clear hU; intro hU; (try simp only [Act.put, List.setIfInBounds_toArray, List.set_cons_zero, List.set_cons_succ])
  have hHeld18 := hHeld
  refine T_step (i := 18) hU rfl (by decide) (by kernel_rfl) (fun K hK => ?_); clear hU hHeld
  go_simp
  go_at_call 80
  refine (put6 _ _).mono ?_
  rintro e v4 ⟨s4, hs4, rfl, hb4⟩
  refine hK.out _ _ (⟨Below.keepCell hb4 hHeld18.1, Below.keepCell hb4 hHeld18.2.1, Below.keepCell hb4 hHeld18.2.2.1, Below.keepCell hb4 hHeld18.2.2.2.1, Below.keepCell hb4 hHeld18.2.2.2.2⟩) (fun hHeld hU => ?_); clear hK K; (try simp only [Act.put, List.setIfInBounds_toArray, List.set_cons_zero, List.set_cons_succ])
  refine T_take (i := 19) hU 29 ?_ rfl rfl (by decide) (by kernel_rfl) (by kernel_rfl) (fun _ _ _ h => h) (Or.inl ⟨by rfl, ?_⟩) hHeld ?_; rotate_left; (intro w hSw; (try dsimp only at hSw); go_simp); (try with_reducible rfl); clear hU; intro hU; (try simp only [Act.put, List.setIfInBounds_toArray, List.set_cons_zero, List.set_cons_succ])
  refine T_last (N := 20) rfl (by kernel_rfl) (by kernel_rfl) (fun K hK => ?_); clear hU hHeld
  go_simp
  refine hK.out _ _ (NoPanic.normal ?_); clear hK K
  have hB4 : Below w.heap.size w v4 := by
    have B0 := hbw.drew.trans (hb0.mono hbw.size)
    have B1 := B0.trans (hb1.mono B0.size)
    have B2 := B1.trans (hb2.mono B1.size)
    have B3 := B2.trans (hb3.mono B2.size)
    exact B3.trans (hb4.mono B3.size)
  have hr4 := Below.keepRange hb4 (Below.keepRange hb3 (Below.keepRange hb2 (Below.keepRange hb1 (Below.keepRange hb0 hr))))
  have e4 : (⟨#[66, 71, 78, 68]⟩ : ByteArray).size = 4 := rfl
  obtain ⟨t0, ht0⟩ : ∃ t : ByteArray, (⟨#[66, 71, 78, 68]⟩ : ByteArray) ++ s0 ++ s1 ++ s2 ++ s3 ++ s4 = t := ⟨_, rfl⟩
  have hsz : t0.size = 17 := by rw [← ht0]; simp [hs0, hs1, hs2, hs3, hs4, e4]
  have Hsz := Lib.hid hsz
  clear hs0 hs1 hs2 hs3 hs4 hb0 hb1 hb2 hb3 hb4 c0 c1 c2 c3 c4 hr hA2 hsz e4 hbw
  go_wp2_with (first
    | (refine wpList_load_mid rfl 94 _ rfl w.heap.size 5 rfl ptrCells _ hr4 hu94 rfl hi94.out ?_))
  go_loopg [4, 32] 14 (fun gk u i wr => ∃ j : Nat, j ≤ 14 ∧ gk = 14 - j ∧ i = .int .i64 j ∧ (∃ t : ByteArray, t.size = 17 + 2 * j ∧ u = .string t) ∧ Below w.heap.size w wr)
  case atStart => exact ⟨0, by omega, by omega, rfl, ⟨t0, Hsz.out, rfl⟩, hB4⟩
  case round =>
    clear hr4 hB4
    obtain ⟨j, hj, hgk, rfl, ⟨t, ht, rfl⟩, hbw⟩ := hrel
    have Hgk := Lib.hid hgk
    clear hgk
    by_cases hlt : j < 14
    · have hix := ix14v j hlt
      have Ht := Lib.hid ht
      have hno : ¬ (9223372036854775807 < t.size + 2) := by omega
      have hno2 : ¬ (9223372036854775805 < t.size) := by omega
      clear ht
      go_wp2_with (first | (go_at_call 80; (with_reducible refine (put2 _ _).mono ?_); rintro e w5 ⟨s5, hs5, rfl, hb5⟩))
      go_roundg (14 - (j + 1))
      case measure => have := Hgk.out; omega
      case rel => exact ⟨j + 1, by omega, rfl, by go_num, ⟨_, by simp [hs5, Ht.out]; omega, rfl⟩, hbw.trans (hb5.mono hbw.size)⟩
    · obtain rfl : j = 14 := by omega
      have hsz : t.size = 45 := ht
      clear ht
      go_wp2_with (first
        | (go_at_call 57; refine (repeatI _ _ _ rfl (by omega) (by omega)).mono ?_; rintro e w6 ⟨s6, hs6, rfl, hb6⟩)
        | (go_at_call 82; refine (of_any _ _ (by simp [hsz, hs6])).mono ?_; rintro e w7 ⟨x, rfl, hb7⟩)
        | (go_at_call 80; (with_reducible refine (put4 _ _).mono ?_); rintro e w8 ⟨s8, hs8, rfl, hb8⟩))
      go_ret2
      have B6 := hbw.trans (hb6.mono hbw.size)
      have B7 := B6.trans (hb7.mono B6.size)
      exact ⟨_, by simp [hsz, hs6, hs8], rfl, B7.trans (hb8.mono B7.size)⟩
end Go.Proofs.YtnndkfhpifgaiaaGreat
