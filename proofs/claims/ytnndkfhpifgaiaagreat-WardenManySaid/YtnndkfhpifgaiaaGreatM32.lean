/-
  slices.Sorted(maps.Keys(m)), m a map of nodes with the root alone.
-/
import Derived.Test.YtnndkfhpifgaiaaGreatM31
import Derived.Shelf.SlIterI.Keys
import Derived.Shelf.SlIterI.Sorted
import Derived.Ground.GgzProg
set_option linter.unusedVariables false
set_option linter.unusedSimpArgs false
namespace Go.Proofs.YtnndkfhpifgaiaaGreat
open Go.RowKit Go.Maps Go.Sort Go.Shelf

theorem sortsN (m : Nat) : AnyZI.SortsIn Tryz.prog Tryz.sortedN_ren Fence.wide m :=
  ⟨fun blk off cap ss W hH hblk hsz => callsIn_wide.2 (Tryz.slices_Sort_int blk off cap ss W hH hblk hsz),
   fun p cap W => callsIn_wide.2 (Tryz.slices_Sort_int_none p cap W)⟩

theorem keysN_ok (m : Nat) (W : World) : Calls Tryz.prog 113 #[.map (some m)] W fun e w' => e = .returned (.func (.func 163) #[] #[.pointer (some ⟨W.heap.size, 0, none⟩)]) ∧ w' = W.alloc (.cells #[.map (some m)] 87) :=
  callsIn_wide.1 (AnyZI.keys_in Tryz.keysN Fence.wide 5 trivial rfl (some m) W)

/-- How a value reads: as nothing. -/
def R0 : Value → Option (DataW Unit × List MemPlace) := fun _ => some (.nil, [])

theorem owns_one {w : World} {b : Nat} {v : Value} (h : IMap w b [(1, v)]) : w.ownsMap Tryz.prog 3 R0 b 1 (.map [(.int .i64 1, .nil)]) := by
  obtain ⟨es, clk, hb, hE⟩ := h
  have hlen := hE.len
  obtain ⟨x, hx⟩ : ∃ x, es = #[x] := by
    match es, hlen with
    | ⟨[x]⟩, _ => exact ⟨x, rfl⟩
  subst hx
  have hp := hE.pairs
  simp at hp
  have hk : keyOf Tryz.prog 3 x.key = some (Lit.int .i64 1) := by
    rw [hp.1]; exact keyOf_int_mk Tryz.underlying3 (by decide)
  have hrd : Go.WideElems.rd Tryz.prog 3 R0 x = some (Lit.int .i64 1, .nil) := by simp [Go.WideElems.rd, hk, R0]
  refine ⟨#[x], clk, hb, ⟨(show 1 ≤ maxLen by decide), ⟨hE.old, hE.born, ?_⟩, fun y hy => ?_⟩, by simp, ?_⟩
  · simp
  · simp at hy; subst hy; exact ⟨_, hrd⟩
  · simp [Go.WideElems.rg, hrd, DataW.insert]

set_option maxHeartbeats 1000000 in
theorem sortedN_ok (b : Nat) (v : Value) (w : World) (h : IMap w b [(1, v)]) :
    Calls Tryz.prog 112 #[.func (.func 163) #[] #[.pointer (some ⟨w.heap.size, 0, none⟩)]] (w.alloc (.cells #[.map (some b)] 87)) fun e w' => ∃ u, e = .returned u ∧
      w'.ownsRow w.heap.size 3 1 u 1 [.int .i64 1] ∧ Below (w.heap.size + 1) (w.alloc (.cells #[.map (some b)] 87)) w' := by
  have hown := owns_one h
  have hbl := hown.lt
  have hseq : SeqGives Fence.wide 2 Tryz.prog 163 #[.pointer (some ⟨w.heap.size, 0, none⟩)] encZ (fun ss => ss.Perm (intKeys (.map [(.int .i64 1, .nil)] : DataW Unit))) (Maps.size (.map [(.int .i64 1, .nil)] : DataW Unit)) (w.alloc (.cells #[.map (some b)] 87)) :=
    AnyZI.keys_gives (ρ := Tryz.keysN_ren) { Tryz.keysN with } Fence.wide _ trivial rfl (by omega) w.heap.size b 1 _ _ (by simp) (by simp) (by
      obtain ⟨es, clock, hb, Ft, hs, hD⟩ := hown
      exact ⟨es, clock, (Below.heap_alloc _ _ b hbl).trans hb, Ft, hs, hD⟩)
  have cS := AnyZI.sorted_in Tryz.sortedN Fence.wide 5 trivial trivial trivial trivial rfl (by omega) (sortsN _) (enters_of Tryz.func103 (by kernel_rfl) rfl) 163 #[.pointer (some ⟨w.heap.size, 0, none⟩)] trivial (enters_of Tryz.func163 (by kernel_rfl) rfl) _ _ (by decide) (by decide) _ hseq
  refine (callsIn_wide.1 cS).mono ?_
  rintro e w' ⟨u, ss, rfl, hp, hrow, hnil, hb⟩
  have hss : ss = [1] := List.perm_singleton.1 hp
  subst hss
  refine ⟨u, rfl, ?_, by simpa using hb⟩
  have hm : ([1] : List Int).mergeSort (fun x y => decide (x ≤ y)) = [1] := by simp
  rw [hm, World.size_alloc] at hrow
  have hrow' : w'.ownsRow (w.heap.size + 1) 3 1 u 1 [.int .i64 1] := hrow
  exact ownsRow_lower hrow' (by omega)
end Go.Proofs.YtnndkfhpifgaiaaGreat
