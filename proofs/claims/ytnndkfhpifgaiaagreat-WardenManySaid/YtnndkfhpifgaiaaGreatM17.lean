/-
  One cell stored into a block that is known whole; loads of one cell out of it.
-/
import Derived.Test.YtnndkfhpifgaiaaGreatM16
set_option linter.unusedVariables false
set_option linter.unusedSimpArgs false
namespace Go.Proofs.YtnndkfhpifgaiaaGreat
open Go.RowKit

theorem set_mid (cur : Array Value) (off : Nat) (v : Value) (h : off < cur.size) : (cur.toList.take off ++ [v] ++ cur.toList.drop (off + 1)).toArray = cur.setIfInBounds off v := by
  apply Array.ext'
  simp only [Array.toList_setIfInBounds]
  rw [List.set_eq_take_append_cons_drop]
  simp [h]

section
variable {P : Program} {o : Oper} {ops : Array Oper} {Q : Exit → Act → World → Prop} {rest : List Oper} {a : Act} {w : World}

theorem run_storeCell (w : World) (ty : TypeId) (b off : Nat) (v : Value) (cur : Array Value) (T : TypeId) (hcur : At w b cur T) (hfit : off < cur.size) (hi : (P.info? ty).map (·.size) = some 1)
    (hv : v.cells = #[v]) (h1 : v.oneCell' = true) : (Instr.storeAt ty (.pointer (some ⟨b, off, none⟩)) v).run P w = .ok () (w.setRow b (cur.setIfInBounds off v)) := by
  have hst := run_storeCells_at P b off T [v] 0 cur w hcur (by simp; omega) (fun u hu => by simp at hu; subst hu; exact h1)
  simp only [Nat.add_zero, List.length_cons, List.length_nil, Nat.zero_add] at hst
  cases hq : P.info? ty with
  | none => simp [hq] at hi
  | some i =>
    have hs : i.size = 1 := by simpa [hq] using hi
    rw [← set_mid cur off v hfit]
    simp [Instr.storeAt, Instr.sureAddr, storeVar, sizeOf, typeInfo, hq, hv, hs] at hst ⊢
    rw [hst]

theorem put_none {a : Act} {d : Option Tmp} (h : d = none) (v : Value) : a.put d v = a := by subst h; rfl

theorem step_storeCell (hgd : o.guard = none) (ty : TypeId) (x y : Operand) (ho : o.op = .store ty x y) (hd : o.dst = none) (b off : Nat) (v : Value) (cur : Array Value) (T : TypeId)
    (hx : a.eval x = .pointer (some ⟨b, off, none⟩)) (hy : a.eval y = v) (hcur : At w b cur T) (hfit : off < cur.size) (hi : (P.info? ty).map (·.size) = some 1)
    (hv : v.cells = #[v]) (h1 : v.oneCell' = true) {K : Act → World → Prop}
    (h : ∀ w', At w' b (cur.setIfInBounds off v) T → Keep (· = b) w w' → w'.heap.size = w.heap.size → K a w') :
    if Region.wanted o (yielded ops a.tmps) = true then Oper.wp P o a w K Q else K (a.put o.dst undef) w := by
  rw [if_pos (by simp [Region.wanted, hgd])]
  unfold Oper.wp execOp
  simp only [ho, hx, hy, Sem.run_bind, run_storeCell w ty b off v cur T hcur hfit hi hv h1, Result.andThen_ok]
  show K (a.put o.dst undef) _
  rw [put_none hd]
  exact h _ (setRow_heap w b cur _ T (0, 0) hcur) ((Keep.refl (· = b) w).setRow (.inl rfl) _) (by simp)

/-- A long value goes into a block, or into its middle, in a region that draws its order. -/
theorem step_storeRow' (hgd : o.guard = none) (ty : TypeId) (x y : Operand) (ho : o.op = .store ty x y) (hd : o.dst = none) (b off : Nat) (cells cur : Array Value) (T : TypeId)
    (hx : a.eval x = .pointer (some ⟨b, off, none⟩)) (hy : a.eval y = .agg cells) (hcur : At w b cur T) (hfit : off + cells.size ≤ cur.size) (hi : (P.info? ty).map (·.size) = some cells.size)
    (h1 : cells.all (·.oneCell') = true) {K : Act → World → Prop}
    (h : ∀ w', At w' b (cur.toList.take off ++ cells.toList ++ cur.toList.drop (off + cells.size)).toArray T → Keep (· = b) w w' → w'.heap.size = w.heap.size → K a w') :
    if Region.wanted o (yielded ops a.tmps) = true then Oper.wp P o a w K Q else K (a.put o.dst undef) w := by
  refine step_storeAt hgd ty x y ho b off cells cur T hx hy hcur hfit hi h1 fun w' h1 h2 h3 => ?_
  rw [put_none hd]
  exact h w' h1 h2 h3

/-- A value goes into a new block, in a region that draws its order. -/
theorem step_box' (hgd : o.guard = none) (t : TypeId) (x : Operand) (ho : o.op = .box t x) (d : Tmp) (hd : o.dst = some d) (cells : Array Value) (hx : (a.eval x).cells = cells) {K : Act → World → Prop}
    (h : ∀ w', At w' w.heap.size cells t → Keep (fun _ => False) w w' → w'.heap.size = w.heap.size + 1 → K ⟨a.tmps.setIfInBounds d (.pointer (some ⟨w.heap.size, 0, none⟩)), a.defers⟩ w') :
    if Region.wanted o (yielded ops a.tmps) = true then Oper.wp P o a w K Q else K (a.put o.dst undef) w := by
  refine step_boxAt hgd t x ho cells hx fun w' h1 h2 h3 => ?_
  rw [hd]
  exact h w' h1 h2 h3

theorem wpList_storeCell (hg : o.guard = none) (ty : TypeId) (x y : Operand) (ho : o.op = .store ty x y) (hd : o.dst = none) (b off : Nat) (v : Value) (cur : Array Value) (T : TypeId)
    (hx : a.eval x = .pointer (some ⟨b, off, none⟩)) (hy : a.eval y = v) (hcur : At w b cur T) (hfit : off < cur.size) (hi : (P.info? ty).map (·.size) = some 1)
    (hv : v.cells = #[v]) (h1 : v.oneCell' = true)
    (h : ∀ w', At w' b (cur.setIfInBounds off v) T → Keep (· = b) w w' → w'.heap.size = w.heap.size → wpList P ops Q rest a w') : wpList P ops Q (o :: rest) a w := by
  refine wpList_plain hg fun K hK => ?_
  unfold Oper.wp execOp
  simp only [ho, hx, hy, Sem.run_bind, run_storeCell w ty b off v cur T hcur hfit hi hv h1, Result.andThen_ok]
  have := hK _ _ (h _ (setRow_heap w b cur _ T (0, 0) hcur) ((Keep.refl (· = b) w).setRow (.inl rfl) _) (by simp))
  exact (show K (a.put o.dst undef) _ from by rw [hd]; exact this)

/-- A new variable of one cell. -/
theorem wpList_allocOne (hg : o.guard = none) (t : TypeId) (ho : o.op = .alloc t) (z : Value) (hz : (P.info? t).bind (·.zero) = some z) (hc : z.cells = #[z])
    (h : ∀ w', At w' w.heap.size #[z] t → Keep (fun _ => False) w w' → w'.heap.size = w.heap.size + 1 → wpList P ops Q rest (a.put o.dst (.pointer (some ⟨w.heap.size, 0, none⟩))) w') : wpList P ops Q (o :: rest) a w := by
  refine wpList_plain hg fun K hK => ?_
  have hrun : (Instr.alloc t true (.tuple #[])).run P w = .ok (.pointer (some ⟨w.heap.size, 0, none⟩)) (w.alloc (.cells #[z] t)) := by
    cases hi : P.info? t with
    | none => simp [hi] at hz
    | some i =>
      have hz' : i.zero = some z := by simpa [hi] using hz
      simp [Instr.alloc, zeroValue, typeInfo, hi, hz', newVar, newRow, hc]
  unfold Oper.wp execOp
  simp only [ho, Sem.run_bind, hrun, Result.andThen_ok]
  exact hK _ _ (h _ (At.new _ _ _) ((Keep.refl _ w).alloc _) (by simp))

/-- What a load of one cell yields in each world that has it there. -/
theorem yields_cell (ops : Array Oper) (S : World → Prop) (op : Oper) (a : Act) (hgd : op.guard = none) (ty : TypeId) (x : Operand) (ho : op.op = .load ty x) (b off : Nat) (hx : a.eval x = .pointer (some ⟨b, off, none⟩))
    (v : Value) (hrun : ∀ w, w.cell? ⟨b, off, none⟩ = some v → (Instr.loadAt ty (.pointer (some ⟨b, off, none⟩))).run P w = .ok v w) (hS : ∀ w, S w → w.cell? ⟨b, off, none⟩ = some v) : YieldsIf P ops S op v a :=
  Or.inl ⟨by simp [Region.wanted, hgd], fun w hw => by
    unfold execOp
    simp only [ho, hx, Sem.run_bind, hrun w (hS w hw), Result.andThen_ok]
    rfl⟩
end

theorem ownsRow_raise {W : World} {base base' : Nat} {e : TypeId} {size : Nat} {v : Value} {k : Nat} {xs : List Value} (h : W.ownsRow base e size v k xs) (hb : ∀ j, v.ownBlock = some j → base' ≤ j) : W.ownsRow base' e size v k xs := by
  refine ⟨h.1, ?_⟩
  rcases h.2 with h1 | ⟨g, cap, cur, rfl, hb1, rest⟩
  · exact .inl h1
  · exact .inr ⟨g, cap, cur, rfl, hb g rfl, rest⟩

theorem size3 : (Tryz.prog.info? 3).map (·.size) = some 1 := by kernel_rfl
theorem size38 : (Tryz.prog.info? 38).map (·.size) = some 1 := by kernel_rfl
theorem info3 : (Tryz.prog.info? 3).map (fun i => (i.zero, i.size, i.bytes)) = some (some (.int .i64 0), 1, 8) := by kernel_rfl

section
variable {o : Oper} {ops : Array Oper} {Q : Exit → Act → World → Prop} {rest : List Oper} {a : Act} {w : World}
/-- 'append(l, k)', l a slice of numbers of the call's own. -/
theorem wpList_appendInt (hg : o.guard = none) (s x : Operand) (ho : o.op = .call { callee := .builtin .append, args := #[s, x], argTypes := #[38, 38] })
    (base : Nat) (v : Value) (n : Nat) (xs : List Value) (hs : a.eval s = v) (hown : w.ownsRow base 3 1 v n xs) (b : Nat) (k : Int) (hx : a.eval x = .slice (some ⟨b, 0, none⟩) 1 1) (hb : w.cell? ⟨b, 0, none⟩ = some (.int .i64 k)) (hn : n ≤ 1000000) (hbase : base ≤ w.heap.size)
    (h : ∀ v' w', w'.ownsRow base 3 1 v' (n + 1) (xs ++ [.int .i64 k]) → w.grownBy w' v.ownBlock → (v'.ownBlock = v.ownBlock ∨ v'.ownBlock = some w.heap.size) → wpList Tryz.prog ops Q rest (a.put o.dst v') w') : wpList Tryz.prog ops Q (o :: rest) a w := by
  have hlow : w.ownsRow 0 3 1 v n xs := by
    refine ⟨hown.1, ?_⟩
    rcases hown.2 with h1 | ⟨g, cap, cur, rfl, hb1, rest⟩
    · exact .inl h1
    · exact .inr ⟨g, cap, cur, rfl, Nat.zero_le _, rest⟩
  refine wpList_appendHere hg s x _ ho 3 1 8 (.int .i64 0) Tryz.underlying38 info3 rfl (by decide) v n xs hs hlow ⟨b, 0, none⟩ 1 1 [.int .i64 k] hx rfl (fun j u hj => ?_) (fun u hu => by simp at hu; subst hu; rfl) (by unfold maxLen; omega) (by omega) (fun v' w' h1 h2 h3 => h v' w' (ownsRow_raise h1 fun j hj => ?_) h2 h3)
  · match j, hj with
    | 0, hj => simp at hj; subst hj; simpa [Addr.add] using hb
  · rcases h3 with h3 | h3
    · exact (hown.lt j (h3 ▸ hj)).1
    · rw [h3] at hj; simp only [Option.some.injEq] at hj; omega
end
end Go.Proofs.YtnndkfhpifgaiaaGreat
