/-
  Several operations of a drawn region may come up at once: each way by itself. Maps made in a drawn region.
-/
import Derived.Test.YtnndkfhpifgaiaaGreatM17
import Derived.Test.YtnndkfhpifgaiaaGreatM15
set_option linter.unusedVariables false
set_option linter.unusedSimpArgs false
namespace Go.Proofs.YtnndkfhpifgaiaaGreat
open Go.RowKit
section
variable {P : Program} {ops : Array Oper} {Q : Exit → Act → World → Prop} {S : World → Prop} {N : Nat}

/-- Number i is one of those that may come up. -/
theorem T_way {i : Nat} {oi : Oper} {n : Nat} {l : Array Bool} {a : Act} {w : World} (u : Under ops N l) (hi : ops[i]? = some oi) (hiN : i < N) (hr : (Region.ready .any ops l).contains i = true)
    (h : ∀ K : Act → World → Prop, Shut (∀ a' w', S w' → (S w' → Under ops N (l.setIfInBounds i true) → AnyT P ops Q S N n (l.setIfInBounds i true) a' w') → K a' w') →
      if Region.wanted oi (yielded ops a.tmps) = true then Oper.wp P oi a w K Q else K (a.put oi.dst undef) w) :
    wpOp P ops Q i (fun a' w' => (i ≠ N → S w') ∧ AnyT P ops Q S N n (l.setIfInBounds i true) a' w') a w :=
  have hri : i ∈ Region.ready .any ops l := by simpa using hr
  wpOp_step hi (fun K hK => h K fun a' w' hS hT => hK a' w' ⟨fun _ => hS, hT hS ⟨u.inv.set hri hiN, u.sink, u.chain, u.lt, u.sel⟩⟩)

theorem T_ways2 {i j n : Nat} {l : Array Bool} {a : Act} {w : World} (hr : Region.ready .any ops l = [i, j])
    (hi : wpOp P ops Q i (fun a' w' => (i ≠ N → S w') ∧ AnyT P ops Q S N n (l.setIfInBounds i true) a' w') a w)
    (hj : wpOp P ops Q j (fun a' w' => (j ≠ N → S w') ∧ AnyT P ops Q S N n (l.setIfInBounds j true) a' w') a w) : AnyT P ops Q S N (n + 1) l a w := by
  refine ⟨fun h0 => absurd (hr.symm.trans h0) (by simp), fun k hk => ?_⟩
  rw [hr] at hk
  simp only [List.mem_cons, List.not_mem_nil, or_false] at hk
  rcases hk with rfl | rfl
  · exact hi
  · exact hj
theorem T_ways3 {i j k n : Nat} {l : Array Bool} {a : Act} {w : World} (hr : Region.ready .any ops l = [i, j, k])
    (hi : wpOp P ops Q i (fun a' w' => (i ≠ N → S w') ∧ AnyT P ops Q S N n (l.setIfInBounds i true) a' w') a w)
    (hj : wpOp P ops Q j (fun a' w' => (j ≠ N → S w') ∧ AnyT P ops Q S N n (l.setIfInBounds j true) a' w') a w)
    (hk : wpOp P ops Q k (fun a' w' => (k ≠ N → S w') ∧ AnyT P ops Q S N n (l.setIfInBounds k true) a' w') a w) : AnyT P ops Q S N (n + 1) l a w := by
  refine ⟨fun h0 => absurd (hr.symm.trans h0) (by simp), fun m hm => ?_⟩
  rw [hr] at hm
  simp only [List.mem_cons, List.not_mem_nil, or_false] at hm
  rcases hm with rfl | rfl | rfl
  · exact hi
  · exact hj
  · exact hk
end

section
variable {P : Program} {o : Oper} {ops : Array Oper} {Q : Exit → Act → World → Prop} {rest : List Oper} {a : Act} {w : World}
theorem step_makeMap (hgd : o.guard = none) (t : TypeId) (ho : o.op = .makeMap t none) (d : Tmp) (hd : o.dst = some d) {K : Act → World → Prop}
    (h : ∀ w', IMap w' w.heap.size [] → Keep (fun _ => False) w w' → w'.heap.size = w.heap.size + 1 → K ⟨a.tmps.setIfInBounds d (.map (some w.heap.size)), a.defers⟩ w') :
    if Region.wanted o (yielded ops a.tmps) = true then Oper.wp P o a w K Q else K (a.put o.dst undef) w := by
  rw [if_pos (by simp [Region.wanted, hgd])]
  unfold Oper.wp execOp
  simp only [ho, Option.map_none, Sem.run_bind, run_makeMap, Result.andThen_ok]
  have := h _ (IMap.new w) ((Keep.refl _ w).alloc _) (by simp)
  show K (a.put o.dst _) _
  rw [hd]; exact this

/-- The same, the new block's number a letter. -/
theorem step_makeMapN (hgd : o.guard = none) (t : TypeId) (ho : o.op = .makeMap t none) (d : Tmp) (hd : o.dst = some d) {K : Act → World → Prop}
    (h : ∀ w' n, w.heap.size ≤ n → n < w'.heap.size → IMap w' n [] → Keep (fun _ => False) w w' → K ⟨a.tmps.setIfInBounds d (.map (some n)), a.defers⟩ w') :
    if Region.wanted o (yielded ops a.tmps) = true then Oper.wp P o a w K Q else K (a.put o.dst undef) w :=
  step_makeMap hgd t ho d hd fun w' h1 h2 h3 => h w' _ (Nat.le_refl _) (by omega) h1 h2
theorem step_boxN (hgd : o.guard = none) (t : TypeId) (x : Operand) (ho : o.op = .box t x) (d : Tmp) (hd : o.dst = some d) (cells : Array Value) (hx : (a.eval x).cells = cells) {K : Act → World → Prop}
    (h : ∀ w' n, w.heap.size ≤ n → n < w'.heap.size → At w' n cells t → Keep (fun _ => False) w w' → K ⟨a.tmps.setIfInBounds d (.pointer (some ⟨n, 0, none⟩)), a.defers⟩ w') :
    if Region.wanted o (yielded ops a.tmps) = true then Oper.wp P o a w K Q else K (a.put o.dst undef) w :=
  step_box' hgd t x ho d hd cells hx fun w' h1 h2 h3 => h w' _ (Nat.le_refl _) (by omega) h1 h2

theorem wpList_makeMapAt (hg : o.guard = none) (t : TypeId) (ho : o.op = .makeMap t none)
    (h : ∀ w', IMap w' w.heap.size [] → Keep (fun _ => False) w w' → w'.heap.size = w.heap.size + 1 → wpList P ops Q rest (a.put o.dst (.map (some w.heap.size))) w') : wpList P ops Q (o :: rest) a w := by
  refine wpList_plain hg fun K hK => ?_
  unfold Oper.wp execOp
  simp only [ho, Option.map_none, Sem.run_bind, run_makeMap, Result.andThen_ok]
  exact hK _ _ (h _ (IMap.new w) ((Keep.refl _ w).alloc _) (by simp))
end
end Go.Proofs.YtnndkfhpifgaiaaGreat
