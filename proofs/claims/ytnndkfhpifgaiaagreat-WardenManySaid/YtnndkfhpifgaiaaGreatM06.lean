/-
  disk.Write.
-/
import Derived.Test.YtnndkfhpifgaiaaGreatM04
import Derived.Test.YtnndkfhpifgaiaaGreatM05
set_option linter.unusedVariables false
set_option linter.unusedSimpArgs false
namespace Go.Proofs.YtnndkfhpifgaiaaGreat
open Go.RowKit

def z256 : Array Value := Array.replicate 256 (.int .u8 0)
theorem z256_size : z256.size = 256 := Array.size_replicate
theorem built118 (x y : Int) : Tryz.prog.built 118 [(0, .int .i64 x), (1, .int .i64 y)] = some (#[.int .i64 x, .int .i64 y] ++ z256) := by kernel_rfl
theorem zero118 : (Tryz.prog.info? 118).map (fun i => (i.zero, i.size, i.bytes)) = some (some (.agg (#[.int .i64 0, .int .i64 0] ++ z256)), 258, 272) := by kernel_rfl
theorem zero118' : (Tryz.prog.info? 118).bind (·.zero) = some (.agg (#[.int .i64 0, .int .i64 0] ++ z256)) := by kernel_rfl
theorem zero118s : (Tryz.prog.info? 118).map (fun i => (i.zero, i.size)) = some (some (.agg (#[.int .i64 0, .int .i64 0] ++ z256)), 258) := by kernel_rfl
theorem w258z (x y : Int) : (#[Value.int .i64 x, Value.int .i64 y] ++ z256).size = 258 := by simp [z256_size]
theorem size118 : (Tryz.prog.info? 118).map (·.size) = some 258 := by kernel_rfl
theorem sizeU8 : (Tryz.prog.info? 5).map (·.size) = some 1 := by kernel_rfl

theorem z256_one : ∀ v ∈ z256, v.oneCell' = true := by intro v hv; obtain ⟨_, rfl⟩ := Array.mem_replicate.1 hv; rfl

theorem w258s (x y x' y' : Int) : (#[Value.int .i64 x, Value.int .i64 y] ++ z256).size = (#[Value.int .i64 x', Value.int .i64 y'] ++ z256).size := by simp
theorem w258i (x y : Int) : (Tryz.prog.info? 118).map (·.size) = some (#[Value.int .i64 x, Value.int .i64 y] ++ z256).size := by rw [size118]; simp [z256_size]
theorem w258o (x y : Int) : (#[Value.int .i64 x, Value.int .i64 y] ++ z256).all (·.oneCell') = true := by
  refine Array.all_eq_true_iff_forall_mem.2 fun v hv => ?_
  rcases Array.mem_append.1 hv with h | h
  · simp at h; rcases h with rfl | rfl <;> rfl
  · exact z256_one v h

theorem buildSlice68 (dst : Option Tmp) (x : Operand) (ty : TypeId) (pos : String) (after : Array Edge) (guard : Option (Nat × Bool)) (a : Act) (w : World) (K : Act → World → Prop) (Q : Exit → Act → World → Prop)
    (hx : a.eval x = .agg (a.eval x).cells) (hn : (a.eval x).cells.size = 258) :
    Oper.wp Tryz.prog { dst, op := .buildSlice 68 1 #[(0, x)], type := ty, pos, after, guard } a w K Q = K (a.put dst (.slice (some ⟨w.heap.size, 0, none⟩) 1 1)) (w.alloc (.cells (a.eval x).cells 118)) :=
  wp_buildSlice1_eq _ _ 258 (#[.int .i64 0, .int .i64 0] ++ z256) Tryz.underlying68 (by kernel_rfl) (by simp [z256_size]) (by omega) (by omega) dst x ty pos after guard a w K Q hx hn
attribute [local go_sem ↓] buildSlice68

/-- The cells of a write. -/
def wcells (t i : Int) (s : ByteArray) : List Value := .int .i64 t :: .int .i64 i :: Lib.strCells s
theorem wcells_len (t i : Int) (s : ByteArray) (hs : s.size = 256) : (wcells t i s).length = 258 := by simp [wcells, Lib.strCells_length, hs]
theorem wcells_mid (t i : Int) (s : ByteArray) : ((#[Value.int .i64 t, Value.int .i64 i] ++ z256).toList.take 2 ++ Lib.strCells s ++ (#[Value.int .i64 t, Value.int .i64 i] ++ z256).toList.drop (2 + 256)).toArray = (wcells t i s).toArray := by
  have h : z256.toList.drop 256 = [] := by rw [List.drop_eq_nil_iff, Array.length_toList, z256_size]; exact Nat.le_refl _
  simp [wcells, h]
theorem wcells_one (t i : Int) (s : ByteArray) : ∀ u ∈ wcells t i s, u.oneCell' = true := by
  intro u hu
  simp only [wcells, List.mem_cons] at hu
  rcases hu with rfl | rfl | hu
  · rfl
  · rfl
  · exact Lib.strCells_oneCell s u hu

theorem wcells_ok {n : Nat} (t : Int) (i : Nat) (s : ByteArray) (hi : i < n) (hs : s.size = 256) : WrOk n (wcells t i s) :=
  ⟨wcells_len t i s hs, t, i, s.data.toList, hi, by simpa using hs, rfl⟩

set_option maxRecDepth 10000 in
set_option maxHeartbeats 1000000 in
theorem write_ok (d n B : Nat) (D : Dk) (o i : Nat) (s : ByteArray) (w : World) (hd : DiskIs w d n B D) (h0 : o ≤ 16) (h1 : i < n) (hs : s.size = 256) (hB : B < 1000000000) :
    Calls Tryz.prog 31 #[.pointer (some ⟨d, 0, none⟩), .int .i64 o, .int .i64 i, .string s] w fun e w' => e = .returned (.bool true) ∧ WriteEnd d n B D w w' := by
  have hc0 := hd.c0
  have hc18 := hd.c18
  have hc20 := hd.c20
  have hs' : ((s.size : Int) != 256) = false := by simp [hs]
  have Hs := Lib.hid hs
  clear hs
  go_enter Tryz.func31, Tryz.ntmps31
  go_wp2_with (first | (go_at_call 54; refine (nobody_no _ _ (by omega) (by omega)).mono ?_; rintro e w' ⟨rfl, rfl⟩) | (go_at_call 56; refine (none_no d n B D _ _ hd (by omega) (by omega)).mono ?_; rintro e w' ⟨rfl, rfl⟩) | (refine wpList_build2 rfl 118 0 1 _ _ rfl (.int .i64 D.wr) (.int .i64 i) rfl rfl _ (built118 _ _) ?_) | (refine wpList_allocRow rfl 118 rfl _ zero118' ?_; refine wpList_storeRow rfl 118 _ _ rfl rfl _ _ _ _ rfl rfl (At.new _ _ _) (w258s _ _ _ _) (w258i _ _) (w258o _ _) ?_; intro w2 hL hk2 hz2) | (refine wpList_copyStr rfl _ _ 119 9 rfl 5 w.heap.size 2 256 256 _ _ s rfl rfl Tryz.underlying119 sizeU8 hL Hs.out (by simp [z256_size]) ?_; rw [wcells_mid]; intro w3 hL3 hk3 hz3))
  have hL3' := hL3
  obtain ⟨v, k, xs, hv, hown, hk, hxs⟩ := hd.waits o (by omega)
  have hdw : d < w.heap.size := hd.cells.lt
  have hdw3 : d < w3.heap.size := by have := hz3; have := hz2; simp at this; omega
  have K3 : Keep (fun _ => False) w w3 := ((((Keep.refl (fun _ => False) w).alloc _).trans hk2 (fun b hb e => by subst e; omega)).trans hk3 (fun b hb e => by subst e; omega))
  have hd3 : DiskIs w3 d n B D := hd.kept K3 (fun _ _ h => h)
  have hcw : w3.cell? ⟨d, 1 + o, none⟩ = some v := by rw [hd3.cw (by omega)]; exact hv
  have e17 : (o : Int) < 17 := by omega
  have e0 : (0 : Int) ≤ o := by omega
  have hrg : w3.rangeAt w.heap.size 0 (wcells D.wr i s) := by
    have := hL3.range 0 258
    rwa [List.drop_zero, List.take_of_length_le (by simp [wcells_len _ _ _ Hs.out])] at this
  have hu118 := Tryz.underlying118
  have hi118 : (Tryz.prog.info? 118).map (·.size) = some (wcells D.wr i s).length := by rw [wcells_len _ _ _ Hs.out]; exact size118
  have hlen := wcells_len D.wr i s Hs.out
  clear hc0 hc18 hc20 hs'
  have hown' : ((w3.drew).alloc (.cells (wcells D.wr i s).toArray 118)).ownsRow 0 118 258 v k xs := ((K3.ownsRow hown (fun _ _ h => h)).drew).alloc _
  simp only [Act.put, List.setIfInBounds_toArray, List.set_cons_zero, List.set_cons_succ]
  refine wp_region_noPanic ?_
  refine T_region 14 (fun w' => w'.cell? ⟨d, 1 + o, none⟩ = some v ∧ w'.rangeAt w.heap.size 0 (wcells D.wr i s)) (by kernel_rfl) (by kernel_rfl) (by kernel_rfl) (by decide) (by kernel_rfl) ⟨hcw, hrg⟩ (fun hHeld hU => ?_)
  refine T_take (i := 0) hU 38 ?_ rfl rfl (by decide) (by kernel_rfl) (by kernel_rfl) (fun _ _ _ h => h) (Or.inl ⟨by rfl, ?_⟩) hHeld ?_; rotate_left; (intro w hSw; (try dsimp only at hSw); go_simp); (try with_reducible rfl); clear hU; intro hU; (try simp only [Act.put, List.setIfInBounds_toArray, List.set_cons_zero, List.set_cons_succ])
  refine T_take (i := 1) hU 39 ?_ rfl rfl (by decide) (by kernel_rfl) (by kernel_rfl) (fun _ _ _ h => h) (Or.inl ⟨by rfl, ?_⟩) hHeld ?_; rotate_left; (intro w hSw; (try dsimp only at hSw); go_simp); (try with_reducible rfl); clear hU; intro hU; (try simp only [Act.put, List.setIfInBounds_toArray, List.set_cons_zero, List.set_cons_succ])
  refine T_take (i := 2) hU 40 ?_ rfl rfl (by decide) (by kernel_rfl) (by kernel_rfl) (fun _ _ _ h => h) (Or.inl ⟨by rfl, ?_⟩) hHeld ?_; rotate_left; (intro w hSw; (try dsimp only at hSw); go_simp); (try with_reducible rfl); clear hU; intro hU; (try simp only [Act.put, List.setIfInBounds_toArray, List.set_cons_zero, List.set_cons_succ])
  refine T_take (i := 3) hU 41 ?_ rfl rfl (by decide) (by kernel_rfl) (by kernel_rfl) (fun _ _ _ h => h) (Or.inl ⟨by rfl, ?_⟩) hHeld ?_; rotate_left; (intro w hSw; (try dsimp only at hSw); go_simp); (try with_reducible rfl); clear hU; intro hU; (try simp only [Act.put, List.setIfInBounds_toArray, List.set_cons_zero, List.set_cons_succ])
  refine T_take (i := 4) hU 42 ?_ rfl rfl (by decide) (by kernel_rfl) (by kernel_rfl) (fun _ _ _ h => h) (Or.inl ⟨by rfl, ?_⟩) hHeld ?_; rotate_left; (intro w hSw; (try dsimp only at hSw); go_simp); (try with_reducible rfl); clear hU; intro hU; (try simp only [Act.put, List.setIfInBounds_toArray, List.set_cons_zero, List.set_cons_succ])
  refine T_take (i := 5) hU 43 ?_ rfl rfl (by decide) (by kernel_rfl) (by kernel_rfl) (fun _ _ _ h => h) (Or.inl ⟨by rfl, ?_⟩) hHeld ?_; rotate_left; (intro w hSw; (try dsimp only at hSw); go_simp); (try with_reducible rfl); clear hU; intro hU; (try simp only [Act.put, List.setIfInBounds_toArray, List.set_cons_zero, List.set_cons_succ])
  refine T_take (i := 6) hU 44 ?_ rfl rfl (by decide) (by kernel_rfl) (by kernel_rfl) (fun _ _ _ h => h) (Or.inl ⟨by rfl, ?_⟩) hHeld ?_; rotate_left; (intro w hSw; (try dsimp only at hSw); go_simp); (try with_reducible rfl); clear hU; intro hU; (try simp only [Act.put, List.setIfInBounds_toArray, List.set_cons_zero, List.set_cons_succ])
  refine T_take (i := 7) hU 45 ?_ rfl rfl (by decide) (by kernel_rfl) (by kernel_rfl) (fun _ _ _ h => h) (Or.inl ⟨by rfl, ?_⟩) hHeld ?_; rotate_left; (intro w hSw; (try dsimp only at hSw); go_simp); (try with_reducible rfl); clear hU; intro hU; (try simp only [Act.put, List.setIfInBounds_toArray, List.set_cons_zero, List.set_cons_succ])
  refine T_take (i := 11) hU 49 ?_ rfl rfl (by decide) (by kernel_rfl) (by kernel_rfl) (fun _ _ _ h => h) (Or.inl ⟨by rfl, ?_⟩) hHeld ?_; rotate_left; (intro w hSw; (try dsimp only at hSw); go_simp); (try with_reducible rfl); clear hU; intro hU; (try simp only [Act.put, List.setIfInBounds_toArray, List.set_cons_zero, List.set_cons_succ])
  refine T_take (i := 12) hU 50 ?_ rfl rfl (by decide) (by kernel_rfl) (by kernel_rfl) (fun _ _ _ h => h) (Or.inl ⟨by rfl, ?_⟩) hHeld ?_; rotate_left; (intro w hSw; (try dsimp only at hSw); go_simp); (try with_reducible rfl); clear hU; intro hU; (try simp only [Act.put, List.setIfInBounds_toArray, List.set_cons_zero, List.set_cons_succ])
  refine T_take (i := 8) hU 46 (.agg (wcells D.wr i s).toArray) rfl rfl (by decide) (by kernel_rfl) (by kernel_rfl) (fun _ _ _ h => h) (yields_load _ _ _ _ rfl _ _ rfl w.heap.size 0 rfl _ _ hu118 rfl hi118 (fun _ h => h.2)) hHeld ?_; clear hU; intro hU; (try simp only [Act.put, List.setIfInBounds_toArray, List.set_cons_zero, List.set_cons_succ])
  have hHeld0 := hHeld
  refine T_step (i := 9) hU rfl (by decide) (by kernel_rfl) (fun K hK => ?_); clear hU hHeld
  refine step_buildSlice1 rfl _ _ rfl 118 258 _ Tryz.underlying68 zero118s (w258z _ _) (by omega) (by omega) (wcells D.wr i s).toArray rfl (by simp [hlen]) ?_
  refine hK.out _ _ (⟨by rw [World.cell?_alloc_lt _ _ _ (by show d < w3.heap.size; omega)]; exact hHeld0.1, World.rangeAt_alloc hHeld0.2 _⟩) (fun hHeld hU => ?_); clear hK K; (try simp only [Act.put, List.setIfInBounds_toArray, List.set_cons_zero, List.set_cons_succ])
  clear hHeld0
  have hHeld1 := hHeld
  refine T_step (i := 10) hU rfl (by decide) (by kernel_rfl) (fun K hK => ?_); clear hU hHeld
  refine step_appendOwn rfl _ _ 68 rfl 118 258 272 _ Tryz.underlying68 zero118 (w258z _ _) (by omega) v k xs rfl hown' _ 1 1 (wcells D.wr i s) rfl (by rw [hlen]) ?_ (wcells_one _ _ _) (by unfold maxLen; omega) (by omega) ?_
  · intro j u hj
    rw [Addr.add_mid, Nat.zero_add]
    rw [show (w3.drew.alloc (.cells (wcells D.wr i s).toArray 118)).cell? ⟨w3.drew.heap.size, j, none⟩ = (wcells D.wr i s).toArray[j]? from World.cell?_alloc_new _ _ _ _]
    simpa using hj
  intro v' w5 hown5 hgrow5 hblk5
  obtain ⟨g', cap', rfl⟩ := owns_succ hown5
  have HB := Lib.hid hblk5
  clear hblk5
  have K5 : Keep (fun b => v.ownBlock = some b) w w5 := (((K3.mono (fun _ _ h => h.elim)).drew).alloc _).grown hgrow5 (fun b hb => .inl hb)
  have hvd : ¬ v.ownBlock = some d := fun h => (hd.apart o v d hv h).1 rfl
  have A5 : At w5 d (dcells n D) 71 := K5.at hd.cells hvd
  have c5 : w5.cell? ⟨d, 1 + o, none⟩ = some v := by rw [A5.cell, (dcells_get n D hd.wsize).2.1 o (by omega)]; exact hv
  have r5 : w5.rangeAt w.heap.size 0 (wcells D.wr i s) := by
    intro j u hj
    have := hHeld1.2 j u hj
    refine (World.cell?_of_block (hgrow5.block w.heap.size ?_ ?_)).trans this
    · simp; have := hz3; have := hz2; simp at this; omega
    · intro e
      have h2 := (hown.lt _ e.symm).2
      omega
  clear hHeld1
  refine hK.out _ _ (⟨c5, r5⟩) (fun hHeld hU => ?_); clear hK K; (try simp only [Act.put, List.setIfInBounds_toArray, List.set_cons_zero, List.set_cons_succ])
  refine T_take (i := 13) hU 51 ?_ rfl rfl (by decide) (by kernel_rfl) (by kernel_rfl) (fun _ _ _ h => h) (Or.inl ⟨by rfl, ?_⟩) hHeld ?_; rotate_left; (intro w hSw; (try dsimp only at hSw); go_simp); (try with_reducible rfl); clear hU; intro hU; (try simp only [Act.put, List.setIfInBounds_toArray, List.set_cons_zero, List.set_cons_succ])
  have f5 := A5.free
  refine T_last (N := 14) rfl (by kernel_rfl) (by kernel_rfl) (fun K hK => ?_); clear hU hHeld
  go_simp
  refine hK.out _ _ (NoPanic.normal ?_); clear hK K
  have g18 : w5.cell? ⟨d, 18, none⟩ = some (.int .i64 D.wr) := by rw [A5.cell]; exact (dcells_get n D hd.wsize).2.2.1
  have g19 : w5.cell? ⟨d, 19, none⟩ = some (.int .i64 (-1)) := by rw [A5.cell]; exact (dcells_get n D hd.wsize).2.2.2.1
  have g20 : w5.cell? ⟨d, 20, none⟩ = some (.bool false) := by rw [A5.cell]; exact (dcells_get n D hd.wsize).2.2.2.2
  have n18 : ¬ 1 + o = 18 := by omega
  have n19 : ¬ 1 + o = 19 := by omega
  have n20 : ¬ 1 + o = 20 := by omega
  clear hcw c5 r5 hrg hL3 hL3' hL hd3
  go_wp2
  go_ret
  refine ⟨rfl, ?_⟩
  refine write_end (xs := xs) hd (by omega) hv hown hk hxs K5 hown5 ?_ (wrap64 (D.wr + 1)) (wcells_ok D.wr i s h1 Hs.out)
  rcases HB.out with h | h
  · exact .inl h
  · refine .inr ?_
    rw [h]
    simp only [Option.some.injEq, exists_eq_left']
    simp; have := hz3; have := hz2; simp at this; omega

/-- disk.Write, as its callers meet it. -/
theorem write_step (d n B : Nat) (F : Nat → Prop) (o i : Int) (s : ByteArray) (w : World) (hd : DiskAt w d n B F) (h0 : 0 ≤ o) (h0' : o ≤ 16) (h1 : 0 ≤ i) (h1' : i < n) (hs : s.size = 256) (hB : B < 1000000000) :
    Calls Tryz.prog 31 #[.pointer (some ⟨d, 0, none⟩), .int .i64 o, .int .i64 i, .string s] w fun e w' => e = .returned (.bool true) ∧ Step d n F w (B + 1) w' := by
  obtain ⟨D, hD, hF, hlt⟩ := hd
  obtain ⟨o, rfl⟩ := Int.eq_ofNat_of_zero_le h0
  obtain ⟨i, rfl⟩ := Int.eq_ofNat_of_zero_le h1
  refine (write_ok d n B D o i s w hD (by omega) (by omega) hs hB).mono fun e w' h => ⟨h.1, ?_⟩
  obtain ⟨D', hD', hbd, hfoot, hk⟩ := h.2
  refine ⟨fun k => F k ∨ D'.foot d k, ⟨D', hD', fun k hk => .inr hk, fun k hkf => ?_⟩, fun k hkf => ?_, hk.mono (fun b _ hb => hF b hb)⟩
  · rcases hkf with h | h
    · exact Nat.lt_of_lt_of_le (hlt k h) hk.size
    · rcases h with h | h | ⟨j, v, hj, hv⟩
      · rw [h]; exact hD'.cells.lt
      · rw [h]; exact hD'.dur.lt
      · obtain ⟨u, m, ys, g1, g2, _⟩ := hD'.waits j (by have := (Array.getElem?_eq_some_iff.1 hj).1; rw [hD'.wsize] at this; exact this)
        rw [hj] at g1; simp only [Option.some.injEq] at g1; subst g1
        exact (g2.lt _ hv).2
  · rcases hkf with h | h
    · exact .inl h
    · rcases hfoot k h with h | h
      · exact .inl (hF k h)
      · exact .inr h

end Go.Proofs.YtnndkfhpifgaiaaGreat
