/-
  More laws for single operations: new blocks whose world is a letter; results that lie in memory; numbers in a row, wherever it begins.
-/
import Derived.Test.YtnndkfhpifgaiaaGreatM05
import Derived.Great.Ranges
set_option linter.unusedVariables false
set_option linter.unusedSimpArgs false
namespace Go.Proofs.YtnndkfhpifgaiaaGreat
open Go.RowKit

section
variable {P : Program} {o : Oper} {ops : Array Oper} {Q : Exit → Act → World → Prop} {rest : List Oper} {a : Act} {w : World}

/-- A value goes into a new block; the world behind it is a letter. -/
theorem wpList_boxAt (hg : o.guard = none) (t : TypeId) (x : Operand) (ho : o.op = .box t x) (cells : Array Value) (hx : (a.eval x).cells = cells)
    (h : ∀ w', At w' w.heap.size cells t → Keep (fun _ => False) w w' → w'.heap.size = w.heap.size + 1 → wpList P ops Q rest (a.put o.dst (.pointer (some ⟨w.heap.size, 0, none⟩))) w') : wpList P ops Q (o :: rest) a w :=
  Great.wpList_boxTo hg t x ho _ rfl _ rfl cells hx (h _ (At.new _ _ _) ((Keep.refl _ w).alloc _) (by simp))

/-- A new variable; the world behind it is a letter. -/
theorem wpList_allocAt (hg : o.guard = none) (t : TypeId) (ho : o.op = .alloc t) (z : Array Value) (hz : (P.info? t).bind (·.zero) = some (.agg z))
    (h : ∀ w', At w' w.heap.size z t → Keep (fun _ => False) w w' → w'.heap.size = w.heap.size + 1 → wpList P ops Q rest (a.put o.dst (.pointer (some ⟨w.heap.size, 0, none⟩))) w') : wpList P ops Q (o :: rest) a w :=
  wpList_allocRow hg t ho z hz (h _ (At.new _ _ _) ((Keep.refl _ w).alloc _) (by simp))

/-- A load of a whole struct from anywhere in a block that is known whole. -/
theorem wpList_loadIn (hg : o.guard = none) (ty : TypeId) (x : Operand) (ho : o.op = .load ty x) (b off : Nat) (hx : a.eval x = .pointer (some ⟨b, off, none⟩)) (T : TypeId) (cs : Array Value) (hA : At w b cs T)
    (part : List Value) (hp : (cs.toList.drop off).take part.length = part) (d : TypeDesc) (hd : d.isRow = true) (hu : P.underlying ty = some d)
    (hi : (P.info? ty).map (·.size) = some part.length) (h : wpList P ops Q rest (a.put o.dst (.agg part.toArray)) w) : wpList P ops Q (o :: rest) a w :=
  wpList_load_mid hg ty x ho b off hx part d (by have := hA.range off part.length; rw [hp] at this; exact this) hu hd hi h

/-- A long value goes into the middle of a block. -/
theorem wpList_storeAt (hg : o.guard = none) (ty : TypeId) (x y : Operand) (ho : o.op = .store ty x y) (hd : o.dst = none) (b off : Nat) (cells cur : Array Value) (T : TypeId)
    (hx : a.eval x = .pointer (some ⟨b, off, none⟩)) (hy : a.eval y = .agg cells) (hcur : At w b cur T) (hfit : off + cells.size ≤ cur.size) (hi : (P.info? ty).map (·.size) = some cells.size)
    (h1 : cells.all (·.oneCell') = true)
    (h : ∀ w', At w' b (cur.toList.take off ++ cells.toList ++ cur.toList.drop (off + cells.size)).toArray T → Keep (· = b) w w' → w'.heap.size = w.heap.size → wpList P ops Q rest a w') : wpList P ops Q (o :: rest) a w := by
  refine wpList_plain hg fun K hK => ?_
  unfold Oper.wp execOp
  simp only [ho, hx, hy, Sem.run_bind, run_storeAt_row w ty b off cells cur T hcur hfit hi h1, Result.andThen_ok]
  have := hK _ _ (h _ (setRow_heap w b cur _ T (0, 0) hcur) ((Keep.refl (· = b) w).setRow (.inl rfl) _) (by simp))
  exact (show K (a.put o.dst undef) _ from by rw [hd]; exact this)

/-- What a struct literal yields. -/
theorem yields_build (ops : Array Oper) (S : World → Prop) (op : Oper) (a : Act) (hgd : op.guard = none) (t : TypeId) (parts : List (Nat × Operand)) (ho : op.op = .build t parts.toArray) (cells : Array Value)
    (ps : List (Nat × Value)) (hf : P.built t ps = some cells) (hp : parts.map (fun p => (p.1, a.eval p.2)) = ps) : YieldsIf P ops S op (.agg cells) a :=
  Or.inl ⟨by simp [Region.wanted, hgd], fun w _ => by
    unfold execOp
    have hf' : P.built t (parts.toArray.map fun (i, x) => (i, a.eval x)).toList = some cells := by
      rw [← hf, ← hp]; simp
    simp only [ho, Sem.run_bind, run_build w t _ cells hf', Result.andThen_ok]
    rfl⟩

/-- A value goes into a new block, inside a region that draws its order. -/
theorem step_boxAt (hgd : o.guard = none) (t : TypeId) (x : Operand) (ho : o.op = .box t x) (cells : Array Value) (hx : (a.eval x).cells = cells) {K : Act → World → Prop}
    (h : ∀ w', At w' w.heap.size cells t → Keep (fun _ => False) w w' → w'.heap.size = w.heap.size + 1 → K (a.put o.dst (.pointer (some ⟨w.heap.size, 0, none⟩))) w') :
    if Region.wanted o (yielded ops a.tmps) = true then Oper.wp P o a w K Q else K (a.put o.dst undef) w := by
  rw [if_pos (by simp [Region.wanted, hgd])]
  subst hx
  unfold Oper.wp execOp
  simp only [ho, Sem.run_bind, Instr.box, newVar, newRow, run_newObj_alloc, Sem.run_pure, Result.andThen_ok]
  exact h _ (At.new _ _ _) ((Keep.refl _ w).alloc _) (by simp)

theorem results_cell1 {fn : Func} {p : Tmp} {ty : TypeId} (h : fn.results = #[.cell p ty]) (tmps : Array Value) (w : World) (g : Nat) (t : TypeId) (cs : Array Value) (d : TypeDesc)
    (hp : tmps.getD p undef = .pointer (some ⟨g, 0, none⟩)) (hg : At w g cs t) (hu : P.underlying ty = some d) (hd : (match d with | .struct _ | .array _ _ => true | _ => false) = true) (hi : (P.info? ty).map (·.size) = some cs.size) :
    (results fn tmps).run P w = .ok (.agg cs) w := results_cell_row h tmps w g t cs (0, 0) d hp hg hu hd hi

theorem results_cell2 {fn : Func} {p q : Tmp} {ty : TypeId} (h : fn.results = #[.cell p ty, .tmp q]) (tmps : Array Value) (w : World) (g : Nat) (t : TypeId) (cs : Array Value) (d : TypeDesc)
    (hp : tmps.getD p undef = .pointer (some ⟨g, 0, none⟩)) (hg : At w g cs t) (hu : P.underlying ty = some d) (hd : (match d with | .struct _ | .array _ _ => true | _ => false) = true) (hi : (P.info? ty).map (·.size) = some cs.size) :
    (results fn tmps).run P w = .ok (.tuple #[.agg cs, tmps.getD q undef]) w := by
  have hp' : tmps[p]?.getD undef = .pointer (some ⟨g, 0, none⟩) := by simpa using hp
  simp [results, h, hp', asAddr, run_loadVar_row w g t ty cs (0, 0) d hg hu hd hi]

theorem results_cell3 {fn : Func} {p q r : Tmp} {ty : TypeId} (h : fn.results = #[.cell p ty, .tmp q, .tmp r]) (tmps : Array Value) (w : World) (g : Nat) (t : TypeId) (cs : Array Value) (d : TypeDesc)
    (hp : tmps.getD p undef = .pointer (some ⟨g, 0, none⟩)) (hg : At w g cs t) (hu : P.underlying ty = some d) (hd : (match d with | .struct _ | .array _ _ => true | _ => false) = true) (hi : (P.info? ty).map (·.size) = some cs.size) :
    (results fn tmps).run P w = .ok (.tuple #[.agg cs, tmps.getD q undef, tmps.getD r undef]) w := by
  have hp' : tmps[p]?.getD undef = .pointer (some ⟨g, 0, none⟩) := by simpa using hp
  simp [results, h, hp', asAddr, run_loadVar_row w g t ty cs (0, 0) d hg hu hd hi]
end

theorem Below.keepRange {w w' : World} {b o : Nat} {cs : List Value} (hb : Below w.heap.size w w') (h : w.rangeAt b o cs) : w'.rangeAt b o cs :=
  fun j v hj => Below.keepCell hb (h j v hj)
theorem Keep.keepRange {F : Nat → Prop} {w w' : World} {b o : Nat} {cs : List Value} (hb : Keep F w w') (hF : ¬ F b) (h : w.rangeAt b o cs) : w'.rangeAt b o cs :=
  fun j v hj => Keep.keepCell hb hF (h j v hj)

/-- A slice of these numbers, wherever it begins in its block. -/
def IntsAt (w : World) (v : Value) (xs : List Int) (N : Nat) : Prop :=
  ∃ p c, v = .slice p xs.length c ∧ xs.length ≤ c ∧ (xs = [] ∨ ∃ b off, b < N ∧ p = some ⟨b, off, none⟩ ∧ ∀ (j : Nat) (x : Int), xs[j]? = some x → w.cell? ⟨b, off + j, none⟩ = some (.int .i64 x))

section
variable {w w' : World} {v : Value} {xs : List Int} {N M : Nat}
theorem IntsAt.below (h : IntsAt w v xs N) (hb : Below N w w') : IntsAt w' v xs N := by
  obtain ⟨p, c, rfl, hc, h⟩ := h
  refine ⟨p, c, rfl, hc, ?_⟩
  rcases h with h | ⟨b, off, hN, rfl, h⟩
  · exact .inl h
  · exact .inr ⟨b, off, hN, rfl, fun j x hj => by rw [hb.cell (p := ⟨b, off + j, none⟩) hN]; exact h j x hj⟩
theorem IntsAt.keep {F : Nat → Prop} (h : IntsAt w v xs N) (hb : Keep F w w') (hN : ∀ b, b < N → ¬ F b) : IntsAt w' v xs N := by
  obtain ⟨p, c, rfl, hc, h⟩ := h
  refine ⟨p, c, rfl, hc, ?_⟩
  rcases h with h | ⟨b, off, hlt, rfl, h⟩
  · exact .inl h
  · exact .inr ⟨b, off, hlt, rfl, fun j x hj => Keep.keepCell hb (hN b hlt) (h j x hj)⟩
theorem IntsAt.mono (h : IntsAt w v xs N) (hNM : N ≤ M) : IntsAt w v xs M := by
  obtain ⟨p, c, rfl, hc, h⟩ := h
  exact ⟨p, c, rfl, hc, h.imp id (fun ⟨b, off, hlt, h⟩ => ⟨b, off, by omega, h⟩)⟩
theorem IntsAt.nil (w : World) (N : Nat) : IntsAt w (.slice none 0 0) [] N := ⟨none, 0, rfl, by simp, .inl rfl⟩
/-- A slice of the call's own reads as numbers. -/
theorem IntsAt.of_own {base : Nat} {T : TypeId} {n : Nat} (h : w.ownsRow base T 1 v n (xs.map (Value.int .i64))) (hn : n = xs.length) : IntsAt w v xs w.heap.size := by
  subst hn
  rcases h.2 with ⟨rfl, h0⟩ | ⟨g, cap, cur, rfl, hb, hg, h1, h2, h3, h4⟩
  · have : xs = [] := List.eq_nil_of_length_eq_zero h0
    subst this
    exact IntsAt.nil w _
  · refine ⟨_, cap, rfl, h1, .inr ⟨g, 0, (Array.getElem?_eq_some_iff.1 hg).1, rfl, fun j x hj => ?_⟩⟩
    have A : At w g cur T := hg
    rw [A.cell, Nat.zero_add]
    have hj2 : j < xs.length := (List.getElem?_eq_some_iff.1 hj).1
    have : (cur.toList.take (xs.length * 1))[j]? = some (.int .i64 x) := by rw [h4, List.getElem?_map, hj]; rfl
    rw [List.getElem?_take, if_pos (by omega)] at this
    simpa using this
/-- The cells of a slice that came in: for the library's Clone. -/
theorem IntsAt.cells (h : IntsAt w v xs N) (hne : xs ≠ []) : ∃ b off c, b < N ∧ v = .slice (some ⟨b, off, none⟩) xs.length c ∧ xs.length ≤ c ∧ ∀ (j : Nat) (x : Int), xs[j]? = some x → w.cell? ⟨b, off + j, none⟩ = some (.int .i64 x) := by
  obtain ⟨p, c, rfl, hc, h⟩ := h
  rcases h with h | ⟨b, off, hN, rfl, h⟩
  · exact absurd h hne
  · exact ⟨b, off, c, hN, rfl, hc, h⟩
end
end Go.Proofs.YtnndkfhpifgaiaaGreat
