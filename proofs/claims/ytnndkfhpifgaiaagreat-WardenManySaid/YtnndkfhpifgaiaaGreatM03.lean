/-
  A region that draws its order, walked by takes and single steps; what is held need not hold behind the region's last operation, where all others come ahead of it.
-/
import Derived.Test.YtnndkfhpifgaiaaGreatM02
import Derived.OrdersHeld
import Derived.StillTail
import Derived.Deep.RegionHeld3
set_option linter.unusedVariables false
set_option linter.unusedSimpArgs false
namespace Go.Proofs.YtnndkfhpifgaiaaGreat
open Go.RowKit
section
variable {P : Program} {ops : Array Oper} {Q : Exit → Act → World → Prop} {S : World → Prop} {N : Nat}

/-- Whatever order is picked; behind each operation but number N S holds. -/
def AnyT (P : Program) (ops : Array Oper) (Q : Exit → Act → World → Prop) (S : World → Prop) (N : Nat) : Nat → Array Bool → Act → World → Prop
  | 0, l, a, w => Region.ready .any ops l = [] ∧ Q .normal a w
  | n + 1, l, a, w => (Region.ready .any ops l = [] → Q .normal a w) ∧
      ∀ i ∈ Region.ready .any ops l, wpOp P ops Q i (fun a' w' => (i ≠ N → S w') ∧ AnyT P ops Q S N n (l.setIfInBounds i true) a' w') a w

theorem anyT_sound : ∀ (n : Nat) (l : Array Bool) (a : Act) (w : World), AnyT P ops Q S N n l a w → wpAny P .any ops Q n l a w
  | 0, _, _, _, h => h
  | n + 1, _, _, _, h => ⟨h.1, fun i hi => wpOp_mono (fun a' w' h' => anyT_sound n _ a' w' h'.2) (h.2 i hi)⟩

theorem anyT_first {i : Nat} {oi : Oper} {v : Value} (hi : ops[i]? = some oi) (hsel : ∀ (j : Nat) (o : Oper) cs b, ops[j]? = some o → o.op ≠ .select cs b)
    (hQ : ∀ c a w, Q (.panic c) (a.put oi.dst v) w → Q (.panic c) a w) (hsink : Region.sinkB .any ops N = true) (hchain : Region.chainB .any ops N = true) (hN : N < ops.size) (hiN : i < N) :
    ∀ (n : Nat) (l : Array Bool) (a : Act) (w : World), HeadInv .any ops N l →
      (∀ j oj, ops[j]? = some oj → j ≠ i → l.getD j true = false → (∀ e ∈ oj.after, Region.binds .any e = true → e.on ≠ i) → oi.apart ops oj = true) →
      i ∈ Region.ready .any ops l → YieldsIf P ops S oi v a → S w → AnyT P ops Q S N n (l.setIfInBounds i true) (a.put oi.dst v) w → AnyT P ops Q S N (n + 1) l a w := by
  intro n
  induction n with
  | zero =>
    intro l a w _ _ hr hy hS H
    refine ⟨fun h => absurd (h ▸ hr) (by simp), fun j hj => ?_⟩
    rcases Decidable.em (j = i) with rfl | hji
    · exact hy.wpOp hi hS ⟨fun _ => hS, H⟩
    · exact absurd (H.1 ▸ ready_mono hj hji) (by simp)
  | succ n ih =>
    intro l a w inv hfree hr hy hS H
    refine ⟨fun h => absurd (h ▸ hr) (by simp), fun j hj => ?_⟩
    rcases Decidable.em (j = i) with rfl | hji
    · exact hy.wpOp hi hS ⟨fun _ => hS, H⟩
    · have hri := ready_mono hr (Ne.symm hji)
      obtain ⟨hun, oj, hoj, hall⟩ := mem_ready.1 hj
      have hun0 := (mem_ready.1 hr).1
      have hjN : j < N := by
        rcases Nat.lt_or_ge j N with h | h
        · exact h
        · exact absurd hj (tail_waits hsink hchain hN inv _ i rfl hiN hun0 j h)
      have hno : ∀ e ∈ oj.after, Region.binds .any e = true → e.on ≠ i := by
        intro e he hb heq
        have h1 := hall e he hb
        rw [heq] at h1
        by_cases hlt : i < l.size
        · simp only [Array.getD, hlt, dif_pos] at h1 hun0; rw [hun0] at h1; cases h1
        · simp [Array.getD, hlt] at h1
      have h2 := wpOp_putIf hoj (hfree j oj hoj hji hun hno) (fun cs b => hsel i oi cs b hi) (fun cs b => hsel j oj cs b hoj) hQ hy (H.2 j (ready_mono hj hji))
      have hfree' : ∀ k ok, ops[k]? = some ok → k ≠ i → (l.setIfInBounds j true).getD k true = false → (∀ e ∈ ok.after, Region.binds .any e = true → e.on ≠ i) → oi.apart ops ok = true := by
        intro k ok hk hki hku hkn
        refine hfree k ok hk hki ?_ hkn
        rcases Decidable.em (j = k) with rfl | hjk
        · exact hun
        · rwa [getD_set_ne true hjk] at hku
      refine wpOp_mono (fun a' w' h3 => ?_) h2
      obtain ⟨hy', hs', hT⟩ := h3
      rw [Array.setIfInBounds_comm _ _ (Ne.symm hji)] at hT
      have hS' : S w' := hs' (by omega)
      exact ⟨fun _ => hS', ih (l.setIfInBounds j true) a' w' (inv.set hj hjN) hfree' hri hy' hS' hT⟩

/-- The state of a region under way: which operations have come up. -/
structure Under (ops : Array Oper) (N : Nat) (l : Array Bool) : Prop where
  inv : HeadInv .any ops N l
  sink : Region.sinkB .any ops N = true
  chain : Region.chainB .any ops N = true
  lt : N < ops.size
  sel : Region.noSelect ops = true

/-- Take number i first: in every world that meets S it yields v. -/
theorem T_take {i : Nat} {oi : Oper} {n : Nat} {l : Array Bool} {a : Act} {w : World} (u : Under ops N l) (t : Tmp) (v : Value) (hi : ops[i]? = some oi) (hd : oi.dst = some t) (hiN : i < N)
    (hf : Region.free .any ops l i = true) (hr : (Region.ready .any ops l).contains i = true)
    (hQ : ∀ c a w, Q (.panic c) (a.put (some t) v) w → Q (.panic c) a w) (hy : YieldsIf P ops S oi v a) (hS : S w)
    (h : Under ops N (l.setIfInBounds i true) → AnyT P ops Q S N n (l.setIfInBounds i true) ⟨a.tmps.setIfInBounds t v, a.defers⟩ w) : AnyT P ops Q S N (n + 1) l a w :=
  have hri : i ∈ Region.ready .any ops l := by simpa using hr
  anyT_first hi (Region.noSelect_spec u.sel) (by rw [hd]; exact hQ) u.sink u.chain u.lt hiN n l a w u.inv (Region.free_spec hi hf) hri hy hS
    (by rw [hd]; exact h ⟨u.inv.set hri hiN, u.sink, u.chain, u.lt, u.sel⟩)

/-- Number i alone may come up, and is not the last. -/
theorem T_step {i : Nat} {oi : Oper} {n : Nat} {l : Array Bool} {a : Act} {w : World} (u : Under ops N l) (hi : ops[i]? = some oi) (hiN : i < N) (hr : Region.ready .any ops l = [i])
    (h : ∀ K : Act → World → Prop, Shut (∀ a' w', S w' → (S w' → Under ops N (l.setIfInBounds i true) → AnyT P ops Q S N n (l.setIfInBounds i true) a' w') → K a' w') →
      if Region.wanted oi (yielded ops a.tmps) = true then Oper.wp P oi a w K Q else K (a.put oi.dst undef) w) : AnyT P ops Q S N (n + 1) l a w := by
  refine ⟨fun h0 => absurd (h0 ▸ hr) (by simp), fun j hj => ?_⟩
  rw [hr, List.mem_singleton] at hj
  subst hj
  have hri : j ∈ Region.ready .any ops l := by rw [hr]; simp
  exact wpOp_step hi (fun K hK => h K fun a' w' hS hT => hK a' w' ⟨fun _ => hS, hT hS ⟨u.inv.set hri hiN, u.sink, u.chain, u.lt, u.sel⟩⟩)

/-- The last operation. -/
theorem T_last {oi : Oper} {n : Nat} {l : Array Bool} {a : Act} {w : World} (hi : ops[N]? = some oi) (hr : Region.ready .any ops l = [N]) (hr' : Region.ready .any ops (l.setIfInBounds N true) = [])
    (h : ∀ K : Act → World → Prop, Shut (∀ a' w', Q .normal a' w' → K a' w') →
      if Region.wanted oi (yielded ops a.tmps) = true then Oper.wp P oi a w K Q else K (a.put oi.dst undef) w) : AnyT P ops Q S N (n + 1) l a w := by
  refine ⟨fun h0 => absurd (h0 ▸ hr) (by simp), fun j hj => ?_⟩
  rw [hr, List.mem_singleton] at hj
  subst hj
  refine wpOp_step hi (fun K hK => h K fun a' w' hq => hK a' w' ⟨fun h => absurd rfl h, ?_⟩)
  cases n with
  | zero => exact ⟨hr', hq⟩
  | succ n => exact ⟨fun _ => hq, by rw [hr']; simp⟩

/-- The beginning. -/
theorem T_region {id : Nat} {a : Act} {w : World} (N : Nat) (S : World → Prop) (hm : P.follows .mixedOrders = true) (hsink : Region.sinkB .any ops N = true) (hchain : Region.chainB .any ops N = true)
    (hN : N < ops.size) (hsel : Region.noSelect ops = true) (hS : S w.drew)
    (h : S w.drew → Under ops N (Array.replicate ops.size false) → AnyT P ops Q S N ops.size (Array.replicate ops.size false) a w.drew) : (Code.region id ops true).wp P Q a w := by
  refine wp_region_any hm (anyT_sound _ _ _ _ (h hS ⟨⟨by simp, fun j oj _ hl => ?_, fun t _ ht => ?_⟩, hsink, hchain, hN, hsel⟩))
  · rw [getD_replicate_false] at hl; cases hl
  · simp [ht]

end
end Go.Proofs.YtnndkfhpifgaiaaGreat
