/-
  'm[k] = v' in a statement with several of them: the entry is laid first, its value is stored behind it; into a map without entries.
-/
import Derived.Test.YtnndkfhpifgaiaaGreatM25
set_option linter.unusedVariables false
set_option linter.unusedSimpArgs false
namespace Go.Proofs.YtnndkfhpifgaiaaGreat
open Go.RowKit
open Go.ChangeMaps (setBlock)

/-- One entry has been laid; its value is not yet what it is to be. -/
def EntOne (w : World) (b : Nat) (k : Int) (z : Value) (born : Nat) : Prop := ∃ clk, MapAt w b #[{ key := .int .i64 k, val := z, born := born }] clk ∧ born < clk

theorem EntOne.keep {F : Nat → Prop} {w w' : World} {b : Nat} {k : Int} {z : Value} {n : Nat} (h : EntOne w b k z n) (hk : Keep F w w') (hb : ¬ F b) : EntOne w' b k z n := by
  obtain ⟨clk, h1, h2⟩ := h; exact ⟨clk, hk.mapAt h1 hb, h2⟩

section
variable {P : Program} {o : Oper} {ops : Array Oper} {Q : Exit → Act → World → Prop} {rest : List Oper} {a : Act} {w : World}

theorem run_mapEntry1 {t kt e : TypeId} {q : IntKind} (ht : P.underlying t = some (.map kt e)) (hk : P.underlying kt = some (.int q)) {w : World} {z : Value} (hz : ∀ w, (zeroValue e).run P w = .ok z w) {b : Nat} (h : IMap w b []) (k : Int) :
    ∃ w' n, (Instr.mapEntry t (.map (some b)) (.int .i64 k)).run P w = .ok (.tuple #[z, .int .i64 (n : Nat)]) w' ∧ EntOne w' b k z n ∧ Keep (· = b) w w' ∧ w'.heap.size = w.heap.size := by
  obtain ⟨clk, hb⟩ := h.empty
  have hb' : w.heap[b]? = some (.map #[] clk) := hb
  have hset : ∀ o, (setObj b o).run P w = .ok () (setBlock w b o) := fun o => by simp [setObj, Sem.run, hb', setBlock]
  refine ⟨setBlock w b (.map #[{ key := .int .i64 k, val := z, born := clk }] (clk + 1)), clk, ?_, ⟨clk + 1, (MapKept.heap_set hb').1, by omega⟩, ⟨rfl, rfl, rfl, by simp [setBlock], fun j _ hne => (MapKept.heap_set (o' := .map #[{ key := .int .i64 k, val := z, born := clk }] (clk + 1)) hb').2 j hne⟩, by simp [setBlock]⟩
  simp [Instr.mapEntry, run_underlying ht, run_underlying hk, getObj, Sem.run, hb', checkKey_int hk, Instr.findKey, Instr.findNow, Result.andThen, hset, hz, goInt]

theorem run_entryStore1 {t : TypeId} {w : World} {b : Nat} {k : Int} {z : Value} {n : Nat} (h : EntOne w b k z n) (u : Value) :
    ∃ w', (Instr.entryStore t (.map (some b)) (.int .i64 (n : Nat)) u).run P w = .ok () w' ∧ IMap w' b [(k, u)] ∧ Keep (· = b) w w' ∧ w'.heap.size = w.heap.size := by
  obtain ⟨clk, hb, hlt⟩ := h
  have hb' : w.heap[b]? = some (.map #[{ key := .int .i64 k, val := z, born := n }] clk) := hb
  have hset : ∀ o, (setObj b o).run P w = .ok () (setBlock w b o) := fun o => by simp [setObj, Sem.run, hb', setBlock]
  refine ⟨setBlock w b (.map #[{ key := .int .i64 k, val := u, born := n }] clk), ?_, ⟨_, clk, (MapKept.heap_set hb').1, ⟨rfl, by simp, by simp, by simpa using hlt⟩⟩, ⟨rfl, rfl, rfl, by simp [setBlock], fun j _ hne => (MapKept.heap_set (o' := .map #[{ key := .int .i64 k, val := u, born := n }] clk) hb').2 j hne⟩, by simp [setBlock]⟩
  have hf : (#[{ key := Value.int .i64 k, val := z, born := n }] : Array MapEntry).findIdx? (fun e => (e.born : Int) == (n : Int)) = some 0 := by
    rw [List.findIdx?_toArray]; simp [List.findIdx?_cons]
  simp only [Instr.entryStore, Sem.run_bind, getObj, Sem.run, hb', asInt, asIntOf, hf, Result.andThen, Sem.run_pure]
  simp [hset]

theorem step_mapEntry1 (hgd : o.guard = none) (t : TypeId) (m x : Operand) (ho : o.op = .mapEntry t m x) (d : Tmp) (hd : o.dst = some d) (kt e : TypeId) (q : IntKind) (ht : P.underlying t = some (.map kt e)) (hk : P.underlying kt = some (.int q)) (z : Value) (hz : ∀ w, (zeroValue e).run P w = .ok z w)
    (b : Nat) (hm : a.eval m = .map (some b)) (hM : IMap w b []) (k : Int) (hx : a.eval x = .int .i64 k) {K : Act → World → Prop}
    (h : ∀ w' n, EntOne w' b k z n → Keep (· = b) w w' → w'.heap.size = w.heap.size → K ⟨a.tmps.setIfInBounds d (.tuple #[z, .int .i64 (n : Nat)]), a.defers⟩ w') :
    if Region.wanted o (yielded ops a.tmps) = true then Oper.wp P o a w K Q else K (a.put o.dst undef) w := by
  rw [if_pos (by simp [Region.wanted, hgd])]
  obtain ⟨w', n, hr, h1, h2, h3⟩ := run_mapEntry1 ht hk hz hM k
  unfold Oper.wp execOp
  simp only [ho, hm, hx, Sem.run_bind, hr, Result.andThen_ok]
  have := h w' n h1 h2 h3
  show K (a.put o.dst _) _
  rw [hd]; exact this

theorem step_entryStore1 (hgd : o.guard = none) (t : TypeId) (m s x : Operand) (ho : o.op = .entryStore t m s x) (hd : o.dst = none) (b n : Nat) (k : Int) (z : Value) (hm : a.eval m = .map (some b)) (hs : a.eval s = .int .i64 (n : Nat)) (hM : EntOne w b k z n)
    (u : Value) (hx : a.eval x = u) {K : Act → World → Prop} (h : ∀ w', IMap w' b [(k, u)] → Keep (· = b) w w' → w'.heap.size = w.heap.size → K a w') :
    if Region.wanted o (yielded ops a.tmps) = true then Oper.wp P o a w K Q else K (a.put o.dst undef) w := by
  rw [if_pos (by simp [Region.wanted, hgd])]
  obtain ⟨w', hr, h1, h2, h3⟩ := run_entryStore1 (P := P) (t := t) hM u
  unfold Oper.wp execOp
  simp only [ho, hm, hs, hx, Sem.run_bind, hr, Result.andThen_ok]
  show K (a.put o.dst undef) _
  rw [put_none hd]
  exact h w' h1 h2 h3
end
end Go.Proofs.YtnndkfhpifgaiaaGreat
