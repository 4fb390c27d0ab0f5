/-
  table.fields.
-/
import Derived.Test.YtnndkfhpifgaiaaGreatM43
set_option linter.unusedVariables false
set_option linter.unusedSimpArgs false
namespace Go.Proofs.YtnndkfhpifgaiaaGreat
open Go.RowKit

def fieldsL (q0 q1 q2 q3 q4 q5 q6 q7 q8 : Nat) : List (Array Value) := [fieldV 1 q0, fieldV 2 q1, fieldV 1 q2, fieldV 3 q3, fieldV 3 q4, fieldV 1 q5, fieldV 1 q6, fieldV 6 q7, fieldV 2 q8, #[.int .i64 1, fnV 136, fnV 137]]
theorem built157l : Tryz.prog.built 157 [(0, .int .i64 1), (1, fnV 136), (2, fnV 137)] = some #[.int .i64 1, fnV 136, fnV 137] := by kernel_rfl

theorem run_buildSlice10 {P : Program} (w : World) (t e : TypeId) (n : Nat) (z : Array Value) (hu : P.underlying t = some (.slice e)) (hi : (P.info? e).map (fun i => (i.zero, i.size)) = some (some (.agg z), n))
    (hz : z.size = n) (h0 : 0 < n) (h1 : 10 * n ≤ 2 ^ 24) (v0 v1 v2 v3 v4 v5 v6 v7 v8 v9 : Value) (hv : ∀ v ∈ [v0, v1, v2, v3, v4, v5, v6, v7, v8, v9], v.cells.size = n) :
    (Instr.buildSlice t 10 #[(0, v0), (1, v1), (2, v2), (3, v3), (4, v4), (5, v5), (6, v6), (7, v7), (8, v8), (9, v9)]).run P w = .ok (.slice (some ⟨w.heap.size, 0, none⟩) 10 10) (w.alloc (.cells ([v0, v1, v2, v3, v4, v5, v6, v7, v8, v9].flatMap (fun v => v.cells.toList)).toArray e)) := by
  cases hq : P.info? e with
  | none => simp [hq] at hi
  | some i =>
    have hi1 : i.zero = some (.agg z) := by simp [hq] at hi; exact hi.1
    have hi2 : i.size = n := by simp [hq] at hi; exact hi.2
    have hfill := Great.fill_whole (s := n) h0 [v0, v1, v2, v3, v4, v5, v6, v7, v8, v9] ((Array.range (10 * n)).map (z[· % z.size]!)) hv (by simp)
    simp only [List.zipIdx_cons, List.zipIdx_nil, List.map_cons, List.map_nil, Nat.zero_add, Nat.reduceAdd] at hfill
    have h1' : ¬ 16777216 < 10 * n := by omega
    have h0' : ¬ n = 0 := by omega
    have h0'' : ¬ 10 * n = 0 := by omega
    have hzc : (Value.agg z).cells = z := rfl
    simp [Instr.buildSlice, run_underlying hu, sizeOf, typeInfo, hq, hi2, zeroValue, hi1, hzc, h1', h0', h0'', hfill, newRow]

theorem info157 : (Tryz.prog.info? 157).map (fun i => (i.zero, i.size)) = some (some (.agg zField), 3) := by kernel_rfl
def fieldsV (q0 q1 q2 q3 q4 q5 q6 q7 q8 : Nat) : List Value := [.agg (fieldV 1 q0), .agg (fieldV 2 q1), .agg (fieldV 1 q2), .agg (fieldV 3 q3), .agg (fieldV 3 q4), .agg (fieldV 1 q5), .agg (fieldV 1 q6), .agg (fieldV 6 q7), .agg (fieldV 2 q8), .agg #[.int .i64 1, fnV 136, fnV 137]]
def fCells (q0 q1 q2 q3 q4 q5 q6 q7 q8 : Nat) : Array Value := ((fieldsV q0 q1 q2 q3 q4 q5 q6 q7 q8).flatMap (fun v => v.cells.toList)).toArray
theorem run_fields (q0 q1 q2 q3 q4 q5 q6 q7 q8 : Nat) (w : World) : (Instr.buildSlice 152 10 #[(0, .agg (fieldV 1 q0)), (1, .agg (fieldV 2 q1)), (2, .agg (fieldV 1 q2)), (3, .agg (fieldV 3 q3)), (4, .agg (fieldV 3 q4)), (5, .agg (fieldV 1 q5)), (6, .agg (fieldV 1 q6)), (7, .agg (fieldV 6 q7)), (8, .agg (fieldV 2 q8)), (9, .agg #[.int .i64 1, fnV 136, fnV 137])]).run Tryz.prog w = .ok (.slice (some ⟨w.heap.size, 0, none⟩) 10 10) (w.alloc (.cells (fCells q0 q1 q2 q3 q4 q5 q6 q7 q8) 157)) :=
  run_buildSlice10 w _ _ 3 zField Tryz.underlying152 info157 rfl (by decide) (by decide) _ _ _ _ _ _ _ _ _ _ (by intro v hv; simp at hv; rcases hv with rfl | rfl | rfl | rfl | rfl | rfl | rfl | rfl | rfl | rfl <;> rfl)
theorem wpList_fields {ops : Array Oper} {rest : List Oper} {o : Oper} {a : Act} {w : World} {Q : Exit → Act → World → Prop} (hg : o.guard = none) (x0 x1 x2 x3 x4 x5 x6 x7 x8 x9 : Operand)
    (ho : o.op = .buildSlice 152 10 #[(0, x0), (1, x1), (2, x2), (3, x3), (4, x4), (5, x5), (6, x6), (7, x7), (8, x8), (9, x9)]) (q0 q1 q2 q3 q4 q5 q6 q7 q8 : Nat)
    (h0 : a.eval x0 = .agg (fieldV 1 q0)) (h1 : a.eval x1 = .agg (fieldV 2 q1)) (h2 : a.eval x2 = .agg (fieldV 1 q2)) (h3 : a.eval x3 = .agg (fieldV 3 q3)) (h4 : a.eval x4 = .agg (fieldV 3 q4)) (h5 : a.eval x5 = .agg (fieldV 1 q5)) (h6 : a.eval x6 = .agg (fieldV 1 q6)) (h7 : a.eval x7 = .agg (fieldV 6 q7)) (h8 : a.eval x8 = .agg (fieldV 2 q8)) (h9 : a.eval x9 = .agg #[.int .i64 1, fnV 136, fnV 137])
    (h : ∀ w', At w' w.heap.size (fCells q0 q1 q2 q3 q4 q5 q6 q7 q8) 157 → Keep (fun _ => False) w w' → wpList Tryz.prog ops Q rest (a.put o.dst (.slice (some ⟨w.heap.size, 0, none⟩) 10 10)) w') : wpList Tryz.prog ops Q (o :: rest) a w := by
  refine wpList_plain hg fun K hK => ?_
  unfold Oper.wp execOp
  simp only [ho, List.map_toArray, List.map_cons, List.map_nil, h0, h1, h2, h3, h4, h5, h6, h7, h8, h9, Sem.run_bind, run_fields, Result.andThen_ok]
  exact hK _ _ (h _ (At.new _ _ _) ((Keep.refl _ w).alloc _))

/-- Block b is the fields. -/
def FieldsAt (w : World) (b : Nat) : Prop := ∃ q0 q1 q2 q3 q4 q5 q6 q7 q8, At w b (fCells q0 q1 q2 q3 q4 q5 q6 q7 q8) 157 ∧ At w q0 #[fnV (fnum 0)] 227 ∧ At w q1 #[fnV (fnum 1)] 227 ∧ At w q2 #[fnV (fnum 2)] 227 ∧ At w q3 #[fnV (fnum 3)] 227 ∧ At w q4 #[fnV (fnum 4)] 227 ∧ At w q5 #[fnV (fnum 5)] 227 ∧ At w q6 #[fnV (fnum 6)] 227 ∧ At w q7 #[fnV (fnum 7)] 227 ∧ At w q8 #[fnV (fnum 8)] 227
theorem FieldsAt.keep {F : Nat → Prop} {w w' : World} {b : Nat} (h : FieldsAt w b) (hk : Keep F w w') (hF : ∀ k cs T, At w k cs T → (T = 157 ∨ T = 227) → ¬ F k) : FieldsAt w' b := by
  obtain ⟨q0, q1, q2, q3, q4, q5, q6, q7, q8, hA, h0, h1, h2, h3, h4, h5, h6, h7, h8⟩ := h
  exact ⟨q0, q1, q2, q3, q4, q5, q6, q7, q8, hk.at hA (hF _ _ _ hA (.inl rfl)), hk.at h0 (hF _ _ _ h0 (.inr rfl)), hk.at h1 (hF _ _ _ h1 (.inr rfl)), hk.at h2 (hF _ _ _ h2 (.inr rfl)), hk.at h3 (hF _ _ _ h3 (.inr rfl)), hk.at h4 (hF _ _ _ h4 (.inr rfl)), hk.at h5 (hF _ _ _ h5 (.inr rfl)), hk.at h6 (hF _ _ _ h6 (.inr rfl)), hk.at h7 (hF _ _ _ h7 (.inr rfl)), hk.at h8 (hF _ _ _ h8 (.inr rfl))⟩
theorem FieldsAt.below {w w' : World} {b : Nat} (h : FieldsAt w b) (hb : Below w.heap.size w w') : FieldsAt w' b := h.keep (Keep.of_below hb (fun _ => False)) (fun _ _ _ _ _ h => h)
/-- The j-th field's cells, and its place's block. -/
theorem FieldsAt.nth {w : World} {b : Nat} (h : FieldsAt w b) (j : Nat) (hj : j < 9) : ∃ q cs, At w b cs 157 ∧ (cs.toList.drop (j * 3)).take 3 = (fieldV (flen j) q).toList ∧ w.cell? ⟨q, 0, none⟩ = some (fnV (fnum j)) := by
  obtain ⟨q0, q1, q2, q3, q4, q5, q6, q7, q8, hA, h0, h1, h2, h3, h4, h5, h6, h7, h8⟩ := h
  match j, hj with
  | 0, _ => exact ⟨q0, _, hA, rfl, h0.cell 0⟩
  | 1, _ => exact ⟨q1, _, hA, rfl, h1.cell 0⟩
  | 2, _ => exact ⟨q2, _, hA, rfl, h2.cell 0⟩
  | 3, _ => exact ⟨q3, _, hA, rfl, h3.cell 0⟩
  | 4, _ => exact ⟨q4, _, hA, rfl, h4.cell 0⟩
  | 5, _ => exact ⟨q5, _, hA, rfl, h5.cell 0⟩
  | 6, _ => exact ⟨q6, _, hA, rfl, h6.cell 0⟩
  | 7, _ => exact ⟨q7, _, hA, rfl, h7.cell 0⟩
  | 8, _ => exact ⟨q8, _, hA, rfl, h8.cell 0⟩
theorem FieldsAt.last {w : World} {b : Nat} (h : FieldsAt w b) : ∃ cs, At w b cs 157 ∧ (cs.toList.drop (9 * 3)).take 3 = [.int .i64 1, fnV 136, fnV 137] := by
  obtain ⟨q0, q1, q2, q3, q4, q5, q6, q7, q8, hA, _⟩ := h
  exact ⟨_, hA, rfl⟩

set_option maxRecDepth 100000 in
set_option maxHeartbeats 2000000 in
theorem fields_ok (w : World) : Calls Tryz.prog 81 #[] w fun e w' => ∃ b, e = .returned (.slice (some ⟨b, 0, none⟩) 10 10) ∧ w.heap.size ≤ b ∧ FieldsAt w' b ∧ Below w.heap.size w w' := by
  go_enter Tryz.func81, Tryz.ntmps81
  go_wp2_with (first
    | (go_at_call 126; refine (of_ok _ _ _).mono ?_; rintro e w1 ⟨q, rfl, hq, hA, hb⟩; have HA := Lib.hid hA; have HB := Lib.hid hb; clear hA hb hq)
    | (refine wpList_buildL rfl 157 _ rfl _ _ built157l rfl ?_)
    | (refine wpList_fields rfl _ _ _ _ _ _ _ _ _ _ rfl _ _ _ _ _ _ _ _ _ rfl rfl rfl rfl rfl rfl rfl rfl rfl rfl ?_; intro w9 hA9 hk9))
  rename_i v0 p0 A0 B0 v1 p1 A1 B1 v2 p2 A2 B2 v3 p3 A3 B3 v4 p4 A4 B4 v5 p5 A5 B5 v6 p6 A6 B6 v7 p7 A7 B7
  have C9 : Below w1.heap.size w1 w9 := hk9.below
  have C8 := (HB.out).trans (C9.mono HB.out.size)
  have C7 := (B7.out).trans (C8.mono B7.out.size)
  have C6 := (B6.out).trans (C7.mono B6.out.size)
  have C5 := (B5.out).trans (C6.mono B5.out.size)
  have C4 := (B4.out).trans (C5.mono B4.out.size)
  have C3 := (B3.out).trans (C4.mono B3.out.size)
  have C2 := (B2.out).trans (C3.mono B2.out.size)
  have C1 := (B1.out).trans (C2.mono B1.out.size)
  have C0 := (B0.out).trans (C1.mono B0.out.size)
  go_ret
  have hz : w.heap.size ≤ w1.heap.size := Nat.le_trans B0.out.size (Nat.le_trans B1.out.size (Nat.le_trans B2.out.size (Nat.le_trans B3.out.size (Nat.le_trans B4.out.size (Nat.le_trans B5.out.size (Nat.le_trans B6.out.size (Nat.le_trans B7.out.size HB.out.size)))))))
  exact ⟨_, rfl, hz, ⟨_, _, _, _, _, _, _, _, _, hA9, Below.at C1 A0.out A0.out.lt, Below.at C2 A1.out A1.out.lt, Below.at C3 A2.out A2.out.lt, Below.at C4 A3.out A3.out.lt, Below.at C5 A4.out A4.out.lt, Below.at C6 A5.out A5.out.lt, Below.at C7 A6.out A6.out.lt, Below.at C8 A7.out A7.out.lt, Below.at C9 HA.out HA.out.lt⟩, C0⟩
end Go.Proofs.YtnndkfhpifgaiaaGreat
