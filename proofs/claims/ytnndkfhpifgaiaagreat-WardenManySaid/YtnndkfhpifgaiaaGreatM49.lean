/-
  warden.Found.
-/
import Derived.Test.YtnndkfhpifgaiaaGreatM48
import Derived.Test.YtnndkfhpifgaiaaGreatM38
set_option linter.unusedVariables false
set_option linter.unusedSimpArgs false
namespace Go.Proofs.YtnndkfhpifgaiaaGreat
open Go.RowKit

theorem built40f (g m : Int) (b a c : Nat) : Tryz.prog.built 40 [(0, .int .i64 1), (1, .int .i64 g), (2, .agg (limV m)), (3, .slice (some ⟨b, 0, none⟩) a c)] = some (livArr g m (.slice (some ⟨b, 0, none⟩) a c)) := by kernel_rfl

set_option maxRecDepth 100000 in
set_option maxHeartbeats 4000000 in
theorem wfound_no (wp : Nat) (W : WarV) (T : List HV) (k m n dn Bd : Nat) (F : Nat → Prop) (x : HV) (w : World) (h : WarAt w wp W T n dn Bd F) (hx : T[k]? = some x) (hst : x.None) (hgen : x.gen < 65535) (hm : 8 ≤ m) (hm' : m ≤ 40) (hle : ¬ m ≤ (freeL n (allSegs T)).length) :
    Calls Tryz.prog 6 #[.pointer (some ⟨wp, 0, none⟩), .int .i64 ((k : Int) + 1), .agg (limV m)] w (Ans (.int .i64 15) w) := by
  have hu25 := Tryz.underlying25
  have H := Lib.hid h
  have Hx := Lib.hid hx
  have hk16 : k < 16 := by have := h.ok.len; have := (List.getElem?_eq_some_iff.1 hx).1; omega
  have hlb := h.tab.cells.lt
  have hwp := h.cells.lt
  have hw1 : IntKind.i64.wrap ((k : Int) + 1 - 1) = k := by rw [IntKind.wrap_i64]; omega
  have hw2 : IntKind.i64.wrap (k : Int) = k := by rw [IntKind.wrap_i64]; omega
  have i0 : (0 : Int) ≤ k := by omega
  have i1 : (k : Int) < 16 := by omega
  have d0 : decide ((k : Int) + 1 < 1) = false := by simp; omega
  have d1 : decide ((16 : Int) < (k : Int) + 1) = false := by simp; omega
  have d2 : decide ((65535 : Int) ≤ x.gen) = false := by simp; omega
  have Hs := Lib.hid hst
  clear h hx hst hgen
  go_enter Tryz.func6, Tryz.ntmps6
  go_wp2_with (first
    | (refine wpList_boxAt rfl 32 _ rfl (limV m) rfl ?_; intro w1 hA hk hs; have HL1 := Lib.hid hA; have HB1 := Lib.hid hk.below; have l0 : w1.cell? ⟨w.heap.size, 0, none⟩ = some (.int .i64 m) := hA.cell 0; have l1 : w1.cell? ⟨w.heap.size, 1, none⟩ = some (.int .i64 100000) := hA.cell 1; have l2 : w1.cell? ⟨w.heap.size, 2, none⟩ = some (.int .i64 100000) := hA.cell 2; have l3 : w1.cell? ⟨w.heap.size, 3, none⟩ = some (.int .i64 255) := hA.cell 3; have l4 : w1.cell? ⟨w.heap.size, 4, none⟩ = some (.int .i64 255) := hA.cell 4; have l5 : w1.cell? ⟨w.heap.size, 5, none⟩ = some (.int .i64 5) := hA.cell 5; have l6 : w1.cell? ⟨w.heap.size, 6, none⟩ = some (.int .i64 200) := hA.cell 6; clear hA hk hs)
    | (go_at_call 15; refine (checkLimit_ok m _ (by omega) (by omega)).mono ?_; rintro e w2 ⟨rfl, hb2⟩; have HB2 := Lib.hid (HB1.out.trans (hb2.mono HB1.out.size)); have HL2 := Lib.hid (Below.at hb2 HL1.out HL1.out.lt); have hW2 := H.out.below HB2.out; have c4 := hW2.c4; have g0 : w2.cell? ⟨W.lb, k * 10, none⟩ = some (.int .i64 0) := (hW2.tcell Hx.out 0 (by omega)).trans (by simp [HV.cells, Hs.out.1]); have g1 : w2.cell? ⟨W.lb, k * 10 + 1, none⟩ = some (.int .i64 x.gen) := hW2.tcell Hx.out 1 (by omega); have HW2 := Lib.hid hW2; clear hb2 hW2 l0 l1 l2 l3 l4 l5 l6))
  have rg := HW2.out.geo
  have m0 : w2.cell? ⟨w.heap.size, 0, none⟩ = some (.int .i64 m) := HL2.out.cell 0
  have HT2 := HW2.out.tab
  have e16 := HW2.out.ok.len
  have htk := fun (w' : World) (hb : Below w2.heap.size w2 w') => take_no n m W.lb 16 T w2.heap.size w' (HT2.below (Nat.le_refl _) hb) hb.size (by omega) (by omega) (by have := HW2.out.n1; omega) (by omega) hle
  rw [e16] at htk
  have Htk := Lib.hid htk
  have Hg := Lib.hid (And.intro HW2.out.sct (And.intro HW2.out.n0 HW2.out.n1))
  clear htk HT2 e16
  (try simp only [Act.put, List.setIfInBounds_toArray, List.set_cons_zero, List.set_cons_succ])
  refine wp_region_noPanic ?_
  refine T_region 16 (fun w' => w'.rangeAt wp 1 [.int .i64 W.sct, .int .i64 32] ∧ w'.cell? ⟨wp, 4, none⟩ = some (.slice (some ⟨W.lb, 0, none⟩) 16 16) ∧ w'.cell? ⟨w.heap.size, 0, none⟩ = some (.int .i64 m)) (by kernel_rfl) (by kernel_rfl) (by kernel_rfl) (by decide) (by kernel_rfl) ⟨rg, c4, m0⟩ (fun hHeld hU => ?_)
  refine T_take (i := 0) hU 42 ?_ rfl rfl (by decide) (by kernel_rfl) (by kernel_rfl) (fun _ _ _ h => h) (Or.inl ⟨by rfl, ?_⟩) hHeld ?_; rotate_left; (intro w hSw; (try dsimp only at hSw); go_simp); (try with_reducible rfl); clear hU; intro hU; (try simp only [Act.put, List.setIfInBounds_toArray, List.set_cons_zero, List.set_cons_succ])
  refine T_take (i := 1) hU 43 ?_ rfl rfl (by decide) (by kernel_rfl) (by kernel_rfl) (fun _ _ _ h => h) (Or.inl ⟨by rfl, ?_⟩) hHeld ?_; rotate_left; (intro w hSw; (try dsimp only at hSw); go_simp); (try with_reducible rfl); clear hU; intro hU; (try simp only [Act.put, List.setIfInBounds_toArray, List.set_cons_zero, List.set_cons_succ])
  refine T_take (i := 2) hU 44 ?_ rfl rfl (by decide) (by kernel_rfl) (by kernel_rfl) (fun _ _ _ h => h) (Or.inl ⟨by rfl, ?_⟩) hHeld ?_; rotate_left; (intro w hSw; (try dsimp only at hSw); go_simp); (try with_reducible rfl); clear hU; intro hU; (try simp only [Act.put, List.setIfInBounds_toArray, List.set_cons_zero, List.set_cons_succ])
  refine T_take (i := 3) hU 45 (.agg #[.int .i64 W.sct, .int .i64 32]) rfl rfl (by decide) (by kernel_rfl) (by kernel_rfl) (fun _ _ _ h => h) (yields_load _ _ _ _ rfl _ _ rfl wp 1 rfl _ _ hu25 rfl (size25 _ _) (fun _ h => h.1)) hHeld ?_; clear hU; intro hU; (try simp only [Act.put, List.setIfInBounds_toArray, List.set_cons_zero, List.set_cons_succ])
  refine T_take (i := 5) hU 47 ?_ rfl rfl (by decide) (by kernel_rfl) (by kernel_rfl) (fun _ _ _ h => h) (Or.inl ⟨by rfl, ?_⟩) hHeld ?_; rotate_left; (intro w hSw; (try dsimp only at hSw); go_simp); (try with_reducible rfl); clear hU; intro hU; (try simp only [Act.put, List.setIfInBounds_toArray, List.set_cons_zero, List.set_cons_succ])
  refine T_take (i := 6) hU 48 ?_ rfl rfl (by decide) (by kernel_rfl) (by kernel_rfl) (fun _ _ _ h => h) (Or.inl ⟨by rfl, ?_⟩) hHeld ?_; rotate_left; (intro w hSw; (try dsimp only at hSw); go_simp); (try with_reducible rfl); clear hU; intro hU; (try simp only [Act.put, List.setIfInBounds_toArray, List.set_cons_zero, List.set_cons_succ])
  refine T_take (i := 7) hU 49 ?_ rfl rfl (by decide) (by kernel_rfl) (by kernel_rfl) (fun _ _ _ h => h) (Or.inl ⟨by rfl, ?_⟩) hHeld ?_; rotate_left; (intro w hSw; (try dsimp only at hSw); go_simp); (try with_reducible rfl); clear hU; intro hU; (try simp only [Act.put, List.setIfInBounds_toArray, List.set_cons_zero, List.set_cons_succ])
  refine T_take (i := 8) hU 50 ?_ rfl rfl (by decide) (by kernel_rfl) (by kernel_rfl) (fun _ _ _ h => h) (Or.inl ⟨by rfl, ?_⟩) hHeld ?_; rotate_left; (intro w hSw; (try dsimp only at hSw); go_simp); (try with_reducible rfl); clear hU; intro hU; (try simp only [Act.put, List.setIfInBounds_toArray, List.set_cons_zero, List.set_cons_succ])
  refine T_take (i := 9) hU 51 ?_ rfl rfl (by decide) (by kernel_rfl) (by kernel_rfl) (fun _ _ _ h => h) (Or.inl ⟨by rfl, ?_⟩) hHeld ?_; rotate_left; (intro w hSw; (try dsimp only at hSw); go_simp); (try with_reducible rfl); clear hU; intro hU; (try simp only [Act.put, List.setIfInBounds_toArray, List.set_cons_zero, List.set_cons_succ])
  refine T_take (i := 10) hU 52 ?_ rfl rfl (by decide) (by kernel_rfl) (by kernel_rfl) (fun _ _ _ h => h) (Or.inl ⟨by rfl, ?_⟩) hHeld ?_; rotate_left; (intro w hSw; (try dsimp only at hSw); go_simp); (try with_reducible rfl); clear hU; intro hU; (try simp only [Act.put, List.setIfInBounds_toArray, List.set_cons_zero, List.set_cons_succ])
  have hHeld4 := hHeld
  refine T_step (i := 4) hU rfl (by decide) (by kernel_rfl) (fun K hK => ?_); clear hU hHeld
  go_simp
  go_at_call 17
  refine (segs_ok W.sct n _ Hg.out.1 Hg.out.2.1 Hg.out.2.2).mono ?_
  rintro e w3 ⟨rfl, hb3⟩
  have b3 := (World.drew_below0 w2).trans hb3
  refine hK.out _ _ (⟨Below.keepRange hb3 hHeld4.1, Below.keepCell hb3 hHeld4.2.1, Below.keepCell hb3 hHeld4.2.2⟩) (fun hHeld hU => ?_); clear hK K; (try simp only [Act.put, List.setIfInBounds_toArray, List.set_cons_zero, List.set_cons_succ])
  have hHeld11 := hHeld
  refine T_step (i := 11) hU rfl (by decide) (by kernel_rfl) (fun K hK => ?_); clear hU hHeld
  go_simp
  go_at_call 16
  refine (Htk.out w3 b3).mono ?_
  rintro e w4 ⟨rfl, hb4⟩
  refine hK.out _ _ (⟨Below.keepRange hb4 hHeld11.1, Below.keepCell hb4 hHeld11.2.1, Below.keepCell hb4 hHeld11.2.2⟩) (fun hHeld hU => ?_); clear hK K; (try simp only [Act.put, List.setIfInBounds_toArray, List.set_cons_zero, List.set_cons_succ])
  refine T_take (i := 12) hU 41 ?_ rfl rfl (by decide) (by kernel_rfl) (by kernel_rfl) (fun _ _ _ h => h) (Or.inl ⟨by rfl, ?_⟩) hHeld ?_; rotate_left; (intro w hSw; (try dsimp only at hSw); go_simp); (try with_reducible rfl); clear hU; intro hU; (try simp only [Act.put, List.setIfInBounds_toArray, List.set_cons_zero, List.set_cons_succ])
  refine T_take (i := 13) hU 54 ?_ rfl rfl (by decide) (by kernel_rfl) (by kernel_rfl) (fun _ _ _ h => h) (Or.inl ⟨by rfl, ?_⟩) hHeld ?_; rotate_left; (intro w hSw; (try dsimp only at hSw); go_simp); (try with_reducible rfl); clear hU; intro hU; (try simp only [Act.put, List.setIfInBounds_toArray, List.set_cons_zero, List.set_cons_succ])
  refine T_take (i := 14) hU 55 ?_ rfl rfl (by decide) (by kernel_rfl) (by kernel_rfl) (fun _ _ _ h => h) (Or.inl ⟨by rfl, ?_⟩) hHeld ?_; rotate_left; (intro w hSw; (try dsimp only at hSw); go_simp); (try with_reducible rfl); clear hU; intro hU; (try simp only [Act.put, List.setIfInBounds_toArray, List.set_cons_zero, List.set_cons_succ])
  refine T_take (i := 15) hU 8 ?_ rfl rfl (by decide) (by kernel_rfl) (by kernel_rfl) (fun _ _ _ h => h) (Or.inl ⟨by rfl, ?_⟩) hHeld ?_; rotate_left; (intro w hSw; (try dsimp only at hSw); go_simp); (try with_reducible rfl); clear hU; intro hU; (try simp only [Act.put, List.setIfInBounds_toArray, List.set_cons_zero, List.set_cons_succ])
  refine T_last (N := 16) rfl (by kernel_rfl) (by kernel_rfl) (fun K hK => ?_); clear hU hHeld
  go_simp
  refine hK.out _ _ (NoPanic.normal ?_); clear hK K
  go_wp2
  go_ret
  have b4 := b3.trans (hb4.mono b3.size)
  exact ⟨rfl, HB2.out.trans (b4.mono HB2.out.size)⟩

/-- What Found leaves. -/
def WFEnd (w : World) (wp : Nat) (W : WarV) (T : List HV) (k m n dn Bd : Nat) (F : Nat → Prop) (x : HV) (e : Ending) (w' : World) : Prop := e = .returned (.int .i64 0) ∧ ∃ W' F' b sv, WarAt w' wp W' (T.set k (HVf (x.gen + 1) sv ((freeL n (allSegs T)).take m))) n dn (Bd + 3000) F' ∧ W'.num = W.num + 1 ∧ W'.hs = W.hs.set (k + 1) (.pointer (some ⟨b, 0, none⟩)) ∧ W'.lb = W.lb ∧ (∀ k, F' k → F k ∨ w.heap.size ≤ k) ∧ Keep (fun k => F k ∨ k = wp ∨ k = W.lb) w w'

set_option maxRecDepth 100000 in
set_option maxHeartbeats 4000000 in
theorem wfound_yes (wp : Nat) (W : WarV) (T : List HV) (k m n dn Bd : Nat) (F : Nat → Prop) (x : HV) (w : World) (h : WarAt w wp W T n dn Bd F) (hx : T[k]? = some x) (hst : x.None) (hgen : x.gen < 65535) (hm : 8 ≤ m) (hm' : m ≤ 40) (hle : m ≤ (freeL n (allSegs T)).length) (hB : Bd + 5000 < 1000000000) (hN : W.num < 100000) :
    Calls Tryz.prog 6 #[.pointer (some ⟨wp, 0, none⟩), .int .i64 ((k : Int) + 1), .agg (limV m)] w (WFEnd w wp W T k m n dn Bd F x) := by
  have hu25 := Tryz.underlying25
  have H := Lib.hid h
  have Hx := Lib.hid hx
  have hk16 : k < 16 := by have := h.ok.len; have := (List.getElem?_eq_some_iff.1 hx).1; omega
  have hlb := h.tab.cells.lt
  have hwp := h.cells.lt
  have hw1 : IntKind.i64.wrap ((k : Int) + 1 - 1) = k := by rw [IntKind.wrap_i64]; omega
  have hw2 : IntKind.i64.wrap (k : Int) = k := by rw [IntKind.wrap_i64]; omega
  have i0 : (0 : Int) ≤ k := by omega
  have i1 : (k : Int) < 16 := by omega
  have d0 : decide ((k : Int) + 1 < 1) = false := by simp; omega
  have d1 : decide ((16 : Int) < (k : Int) + 1) = false := by simp; omega
  have d2 : decide ((65535 : Int) ≤ x.gen) = false := by simp; omega
  have Hs := Lib.hid hst
  have Hbd := Lib.hid hB
  have Hgen := Lib.hid hgen
  clear h hx hst hgen hB
  go_enter Tryz.func6, Tryz.ntmps6
  go_wp2_with (first
    | (refine wpList_boxAt rfl 32 _ rfl (limV m) rfl ?_; intro w1 hA hk hs; have HL1 := Lib.hid hA; have HB1 := Lib.hid hk.below; have l0 : w1.cell? ⟨w.heap.size, 0, none⟩ = some (.int .i64 m) := hA.cell 0; have l1 : w1.cell? ⟨w.heap.size, 1, none⟩ = some (.int .i64 100000) := hA.cell 1; have l2 : w1.cell? ⟨w.heap.size, 2, none⟩ = some (.int .i64 100000) := hA.cell 2; have l3 : w1.cell? ⟨w.heap.size, 3, none⟩ = some (.int .i64 255) := hA.cell 3; have l4 : w1.cell? ⟨w.heap.size, 4, none⟩ = some (.int .i64 255) := hA.cell 4; have l5 : w1.cell? ⟨w.heap.size, 5, none⟩ = some (.int .i64 5) := hA.cell 5; have l6 : w1.cell? ⟨w.heap.size, 6, none⟩ = some (.int .i64 200) := hA.cell 6; clear hA hk hs)
    | (go_at_call 15; refine (checkLimit_ok m _ (by omega) (by omega)).mono ?_; rintro e w2 ⟨rfl, hb2⟩; have HB2 := Lib.hid (HB1.out.trans (hb2.mono HB1.out.size)); have HL2 := Lib.hid (Below.at hb2 HL1.out HL1.out.lt); have hW2 := H.out.below HB2.out; have c4 := hW2.c4; have g0 : w2.cell? ⟨W.lb, k * 10, none⟩ = some (.int .i64 0) := (hW2.tcell Hx.out 0 (by omega)).trans (by simp [HV.cells, Hs.out.1]); have g1 : w2.cell? ⟨W.lb, k * 10 + 1, none⟩ = some (.int .i64 x.gen) := hW2.tcell Hx.out 1 (by omega); have HW2 := Lib.hid hW2; clear hb2 hW2 l0 l1 l2 l3 l4 l5 l6))
  have rg := HW2.out.geo
  have m0 : w2.cell? ⟨w.heap.size, 0, none⟩ = some (.int .i64 m) := HL2.out.cell 0
  have HT2 := HW2.out.tab
  have e16 := HW2.out.ok.len
  have htk := fun (w' : World) (hb : Below w2.heap.size w2 w') => take_yes n m W.lb 16 T w2.heap.size w' (HT2.below (Nat.le_refl _) hb) hb.size (by omega) (by omega) (by have := HW2.out.n1; omega) (by omega) (by omega) hle
  rw [e16] at htk
  have Htk := Lib.hid htk
  have Hg := Lib.hid (And.intro HW2.out.sct (And.intro HW2.out.n0 HW2.out.n1))
  clear htk HT2 e16
  (try simp only [Act.put, List.setIfInBounds_toArray, List.set_cons_zero, List.set_cons_succ])
  refine wp_region_noPanic ?_
  refine T_region 16 (fun w' => w'.rangeAt wp 1 [.int .i64 W.sct, .int .i64 32] ∧ w'.cell? ⟨wp, 4, none⟩ = some (.slice (some ⟨W.lb, 0, none⟩) 16 16) ∧ w'.cell? ⟨w.heap.size, 0, none⟩ = some (.int .i64 m)) (by kernel_rfl) (by kernel_rfl) (by kernel_rfl) (by decide) (by kernel_rfl) ⟨rg, c4, m0⟩ (fun hHeld hU => ?_)
  refine T_take (i := 0) hU 42 ?_ rfl rfl (by decide) (by kernel_rfl) (by kernel_rfl) (fun _ _ _ h => h) (Or.inl ⟨by rfl, ?_⟩) hHeld ?_; rotate_left; (intro w hSw; (try dsimp only at hSw); go_simp); (try with_reducible rfl); clear hU; intro hU; (try simp only [Act.put, List.setIfInBounds_toArray, List.set_cons_zero, List.set_cons_succ])
  refine T_take (i := 1) hU 43 ?_ rfl rfl (by decide) (by kernel_rfl) (by kernel_rfl) (fun _ _ _ h => h) (Or.inl ⟨by rfl, ?_⟩) hHeld ?_; rotate_left; (intro w hSw; (try dsimp only at hSw); go_simp); (try with_reducible rfl); clear hU; intro hU; (try simp only [Act.put, List.setIfInBounds_toArray, List.set_cons_zero, List.set_cons_succ])
  refine T_take (i := 2) hU 44 ?_ rfl rfl (by decide) (by kernel_rfl) (by kernel_rfl) (fun _ _ _ h => h) (Or.inl ⟨by rfl, ?_⟩) hHeld ?_; rotate_left; (intro w hSw; (try dsimp only at hSw); go_simp); (try with_reducible rfl); clear hU; intro hU; (try simp only [Act.put, List.setIfInBounds_toArray, List.set_cons_zero, List.set_cons_succ])
  refine T_take (i := 3) hU 45 (.agg #[.int .i64 W.sct, .int .i64 32]) rfl rfl (by decide) (by kernel_rfl) (by kernel_rfl) (fun _ _ _ h => h) (yields_load _ _ _ _ rfl _ _ rfl wp 1 rfl _ _ hu25 rfl (size25 _ _) (fun _ h => h.1)) hHeld ?_; clear hU; intro hU; (try simp only [Act.put, List.setIfInBounds_toArray, List.set_cons_zero, List.set_cons_succ])
  refine T_take (i := 5) hU 47 ?_ rfl rfl (by decide) (by kernel_rfl) (by kernel_rfl) (fun _ _ _ h => h) (Or.inl ⟨by rfl, ?_⟩) hHeld ?_; rotate_left; (intro w hSw; (try dsimp only at hSw); go_simp); (try with_reducible rfl); clear hU; intro hU; (try simp only [Act.put, List.setIfInBounds_toArray, List.set_cons_zero, List.set_cons_succ])
  refine T_take (i := 6) hU 48 ?_ rfl rfl (by decide) (by kernel_rfl) (by kernel_rfl) (fun _ _ _ h => h) (Or.inl ⟨by rfl, ?_⟩) hHeld ?_; rotate_left; (intro w hSw; (try dsimp only at hSw); go_simp); (try with_reducible rfl); clear hU; intro hU; (try simp only [Act.put, List.setIfInBounds_toArray, List.set_cons_zero, List.set_cons_succ])
  refine T_take (i := 7) hU 49 ?_ rfl rfl (by decide) (by kernel_rfl) (by kernel_rfl) (fun _ _ _ h => h) (Or.inl ⟨by rfl, ?_⟩) hHeld ?_; rotate_left; (intro w hSw; (try dsimp only at hSw); go_simp); (try with_reducible rfl); clear hU; intro hU; (try simp only [Act.put, List.setIfInBounds_toArray, List.set_cons_zero, List.set_cons_succ])
  refine T_take (i := 8) hU 50 ?_ rfl rfl (by decide) (by kernel_rfl) (by kernel_rfl) (fun _ _ _ h => h) (Or.inl ⟨by rfl, ?_⟩) hHeld ?_; rotate_left; (intro w hSw; (try dsimp only at hSw); go_simp); (try with_reducible rfl); clear hU; intro hU; (try simp only [Act.put, List.setIfInBounds_toArray, List.set_cons_zero, List.set_cons_succ])
  refine T_take (i := 9) hU 51 ?_ rfl rfl (by decide) (by kernel_rfl) (by kernel_rfl) (fun _ _ _ h => h) (Or.inl ⟨by rfl, ?_⟩) hHeld ?_; rotate_left; (intro w hSw; (try dsimp only at hSw); go_simp); (try with_reducible rfl); clear hU; intro hU; (try simp only [Act.put, List.setIfInBounds_toArray, List.set_cons_zero, List.set_cons_succ])
  refine T_take (i := 10) hU 52 ?_ rfl rfl (by decide) (by kernel_rfl) (by kernel_rfl) (fun _ _ _ h => h) (Or.inl ⟨by rfl, ?_⟩) hHeld ?_; rotate_left; (intro w hSw; (try dsimp only at hSw); go_simp); (try with_reducible rfl); clear hU; intro hU; (try simp only [Act.put, List.setIfInBounds_toArray, List.set_cons_zero, List.set_cons_succ])
  have hHeld4 := hHeld
  refine T_step (i := 4) hU rfl (by decide) (by kernel_rfl) (fun K hK => ?_); clear hU hHeld
  go_simp
  go_at_call 17
  refine (segs_ok W.sct n _ Hg.out.1 Hg.out.2.1 Hg.out.2.2).mono ?_
  rintro e w3 ⟨rfl, hb3⟩
  have b3 := (World.drew_below0 w2).trans hb3
  refine hK.out _ _ (⟨Below.keepRange hb3 hHeld4.1, Below.keepCell hb3 hHeld4.2.1, Below.keepCell hb3 hHeld4.2.2⟩) (fun hHeld hU => ?_); clear hK K; (try simp only [Act.put, List.setIfInBounds_toArray, List.set_cons_zero, List.set_cons_succ])
  have hHeld11 := hHeld
  refine T_step (i := 11) hU rfl (by decide) (by kernel_rfl) (fun K hK => ?_); clear hU hHeld
  go_simp
  go_at_call 16
  refine (Htk.out w3 b3).mono ?_
  rintro e w4 ⟨hb4, gb, rfl, hgb, hI4⟩
  refine hK.out _ _ (⟨Below.keepRange hb4 hHeld11.1, Below.keepCell hb4 hHeld11.2.1, Below.keepCell hb4 hHeld11.2.2⟩) (fun hHeld hU => ?_); clear hK K; (try simp only [Act.put, List.setIfInBounds_toArray, List.set_cons_zero, List.set_cons_succ])
  refine T_take (i := 12) hU 41 ?_ rfl rfl (by decide) (by kernel_rfl) (by kernel_rfl) (fun _ _ _ h => h) (Or.inl ⟨by rfl, ?_⟩) hHeld ?_; rotate_left; (intro w hSw; (try dsimp only at hSw); go_simp); (try with_reducible rfl); clear hU; intro hU; (try simp only [Act.put, List.setIfInBounds_toArray, List.set_cons_zero, List.set_cons_succ])
  refine T_take (i := 13) hU 54 ?_ rfl rfl (by decide) (by kernel_rfl) (by kernel_rfl) (fun _ _ _ h => h) (Or.inl ⟨by rfl, ?_⟩) hHeld ?_; rotate_left; (intro w hSw; (try dsimp only at hSw); go_simp); (try with_reducible rfl); clear hU; intro hU; (try simp only [Act.put, List.setIfInBounds_toArray, List.set_cons_zero, List.set_cons_succ])
  refine T_take (i := 14) hU 55 ?_ rfl rfl (by decide) (by kernel_rfl) (by kernel_rfl) (fun _ _ _ h => h) (Or.inl ⟨by rfl, ?_⟩) hHeld ?_; rotate_left; (intro w hSw; (try dsimp only at hSw); go_simp); (try with_reducible rfl); clear hU; intro hU; (try simp only [Act.put, List.setIfInBounds_toArray, List.set_cons_zero, List.set_cons_succ])
  refine T_take (i := 15) hU 8 ?_ rfl rfl (by decide) (by kernel_rfl) (by kernel_rfl) (fun _ _ _ h => h) (Or.inl ⟨by rfl, ?_⟩) hHeld ?_; rotate_left; (intro w hSw; (try dsimp only at hSw); go_simp); (try with_reducible rfl); clear hU; intro hU; (try simp only [Act.put, List.setIfInBounds_toArray, List.set_cons_zero, List.set_cons_succ])
  refine T_last (N := 16) rfl (by kernel_rfl) (by kernel_rfl) (fun K hK => ?_); clear hU hHeld
  go_simp
  refine hK.out _ _ (NoPanic.normal ?_); clear hK K
  have b4 := b3.trans (hb4.mono b3.size)
  have HW4 := Lib.hid (HW2.out.below b4)
  have HL4 := Lib.hid (Below.at b4 HL2.out HL2.out.lt)
  have HB4 := Lib.hid (HB2.out.trans (b4.mono HB2.out.size))
  have HI4 := Lib.hid hI4
  have hlt4 : gb < w4.heap.size := by
    obtain ⟨b', o', c', hb', he', _⟩ := hI4.cells (List.ne_nil_of_length_pos (by rw [List.length_take]; omega))
    simp only [Value.slice.injEq, Option.some.injEq, Addr.mk.injEq] at he'
    obtain ⟨⟨rfl, _, _⟩, _⟩ := he'
    exact hb'
  have Hgb : Hid (w2.heap.size ≤ gb ∧ gb < w4.heap.size) := Lib.hid ⟨Nat.le_trans b3.size hgb, hlt4⟩
  have Hz2 := Lib.hid (And.intro HB2.out.size (And.intro b4.size HL2.out.lt))
  clear b3 b4 hb3 hb4 hI4 hlt4 hgb rg c4 g0 g1 m0 hHeld4 hHeld11 HL2 HB2
  have c0 := HW4.out.c0
  have rg := HW4.out.geo
  have g1 : w4.cell? ⟨W.lb, k * 10 + 1, none⟩ = some (.int .i64 x.gen) := HW4.out.tcell Hx.out 1 (by omega)
  have hw3 : IntKind.i64.wrap (x.gen + 1) = x.gen + 1 := by rw [IntKind.wrap_i64]; have := Hs.out.2.1; omega
  have hFlt4 := HW4.out.dk.lt
  have hFlt2 := HW2.out.dk.lt
  have ngb : ¬ F gb := fun e => by have := hFlt2 _ e; have := Hgb.out; omega
  have Ngb := Lib.hid ngb
  have hlen : ((freeL n (allSegs T)).take m).length = m := by rw [List.length_take]; omega
  have Hlen := Lib.hid hlen
  have HF := Lib.hid (found_ok W.d n dn Bd F W.sct ((k : Int) + 1) (x.gen + 1) (.slice (some ⟨gb, 0, none⟩) m m) ((freeL n (allSegs T)).take m) w4.heap.size w4.drew HW4.out.dk.drew HW4.out.sct HW4.out.n0 HW4.out.n1 HW4.out.dn HI4.out (fun b hb => by simp only [Value.ownBlock, Option.some.injEq] at hb; subst hb; exact ngb) (Nat.le_refl _)
    (fun y hy => (freeL_mem.1 (List.mem_of_mem_take hy)).1) (by rw [hlen]; exact hm) (by rw [hlen]; exact hm') ((freeL_up n _).sublist (List.take_sublist _ _)) ⟨by omega, by omega⟩ ⟨by have := Hs.out.2.1; omega, by have := Hgen.out; omega⟩ (by have := Hbd.out; omega))
  clear ngb hlen
  go_wp2
  (try simp only [Act.put, List.setIfInBounds_toArray, List.set_cons_zero, List.set_cons_succ])
  refine wp_region_noPanic ?_
  refine T_region 20 (fun w' => w'.cell? ⟨wp, 0, none⟩ = some (.pointer (some ⟨W.d, 0, none⟩)) ∧ w'.rangeAt wp 1 [.int .i64 W.sct, .int .i64 32] ∧ w'.cell? ⟨W.lb, k * 10 + 1, none⟩ = some (.int .i64 x.gen)) (by kernel_rfl) (by kernel_rfl) (by kernel_rfl) (by decide) (by kernel_rfl) ⟨c0, rg, g1⟩ (fun hHeld hU => ?_)
  refine T_take (i := 0) hU 59 ?_ rfl rfl (by decide) (by kernel_rfl) (by kernel_rfl) (fun _ _ _ h => h) (Or.inl ⟨by rfl, ?_⟩) hHeld ?_; rotate_left; (intro w hSw; (try dsimp only at hSw); go_simp); (try with_reducible rfl); clear hU; intro hU; (try simp only [Act.put, List.setIfInBounds_toArray, List.set_cons_zero, List.set_cons_succ])
  refine T_take (i := 1) hU 60 ?_ rfl rfl (by decide) (by kernel_rfl) (by kernel_rfl) (fun _ _ _ h => h) (Or.inl ⟨by rfl, ?_⟩) hHeld ?_; rotate_left; (intro w hSw; (try dsimp only at hSw); go_simp); (try with_reducible rfl); clear hU; intro hU; (try simp only [Act.put, List.setIfInBounds_toArray, List.set_cons_zero, List.set_cons_succ])
  refine T_take (i := 2) hU 61 ?_ rfl rfl (by decide) (by kernel_rfl) (by kernel_rfl) (fun _ _ _ h => h) (Or.inl ⟨by rfl, ?_⟩) hHeld ?_; rotate_left; (intro w hSw; (try dsimp only at hSw); go_simp); (try with_reducible rfl); clear hU; intro hU; (try simp only [Act.put, List.setIfInBounds_toArray, List.set_cons_zero, List.set_cons_succ])
  refine T_take (i := 3) hU 62 ?_ rfl rfl (by decide) (by kernel_rfl) (by kernel_rfl) (fun _ _ _ h => h) (Or.inl ⟨by rfl, ?_⟩) hHeld ?_; rotate_left; (intro w hSw; (try dsimp only at hSw); go_simp); (try with_reducible rfl); clear hU; intro hU; (try simp only [Act.put, List.setIfInBounds_toArray, List.set_cons_zero, List.set_cons_succ])
  refine T_take (i := 4) hU 63 ?_ rfl rfl (by decide) (by kernel_rfl) (by kernel_rfl) (fun _ _ _ h => h) (Or.inl ⟨by rfl, ?_⟩) hHeld ?_; rotate_left; (intro w hSw; (try dsimp only at hSw); go_simp); (try with_reducible rfl); clear hU; intro hU; (try simp only [Act.put, List.setIfInBounds_toArray, List.set_cons_zero, List.set_cons_succ])
  refine T_take (i := 5) hU 64 ?_ rfl rfl (by decide) (by kernel_rfl) (by kernel_rfl) (fun _ _ _ h => h) (Or.inl ⟨by rfl, ?_⟩) hHeld ?_; rotate_left; (intro w hSw; (try dsimp only at hSw); go_simp); (try with_reducible rfl); clear hU; intro hU; (try simp only [Act.put, List.setIfInBounds_toArray, List.set_cons_zero, List.set_cons_succ])
  refine T_take (i := 6) hU 65 ?_ rfl rfl (by decide) (by kernel_rfl) (by kernel_rfl) (fun _ _ _ h => h) (Or.inl ⟨by rfl, ?_⟩) hHeld ?_; rotate_left; (intro w hSw; (try dsimp only at hSw); go_simp); (try with_reducible rfl); clear hU; intro hU; (try simp only [Act.put, List.setIfInBounds_toArray, List.set_cons_zero, List.set_cons_succ])
  refine T_take (i := 7) hU 66 (.agg #[.int .i64 W.sct, .int .i64 32]) rfl rfl (by decide) (by kernel_rfl) (by kernel_rfl) (fun _ _ _ h => h) (yields_load _ _ _ _ rfl _ _ rfl wp 1 rfl _ _ hu25 rfl (size25 _ _) (fun _ h => h.2.1)) hHeld ?_; clear hU; intro hU; (try simp only [Act.put, List.setIfInBounds_toArray, List.set_cons_zero, List.set_cons_succ])
  refine T_take (i := 8) hU 67 ?_ rfl rfl (by decide) (by kernel_rfl) (by kernel_rfl) (fun _ _ _ h => h) (Or.inl ⟨by rfl, ?_⟩) hHeld ?_; rotate_left; (intro w hSw; (try dsimp only at hSw); go_simp); (try with_reducible rfl); clear hU; intro hU; (try simp only [Act.put, List.setIfInBounds_toArray, List.set_cons_zero, List.set_cons_succ])
  refine T_take (i := 9) hU 68 ?_ rfl rfl (by decide) (by kernel_rfl) (by kernel_rfl) (fun _ _ _ h => h) (Or.inl ⟨by rfl, ?_⟩) hHeld ?_; rotate_left; (intro w hSw; (try dsimp only at hSw); go_simp); (try with_reducible rfl); clear hU; intro hU; (try simp only [Act.put, List.setIfInBounds_toArray, List.set_cons_zero, List.set_cons_succ])
  refine T_take (i := 10) hU 69 ?_ rfl rfl (by decide) (by kernel_rfl) (by kernel_rfl) (fun _ _ _ h => h) (Or.inl ⟨by rfl, ?_⟩) hHeld ?_; rotate_left; (intro w hSw; (try dsimp only at hSw); go_simp); (try with_reducible rfl); clear hU; intro hU; (try simp only [Act.put, List.setIfInBounds_toArray, List.set_cons_zero, List.set_cons_succ])
  refine T_take (i := 11) hU 70 ?_ rfl rfl (by decide) (by kernel_rfl) (by kernel_rfl) (fun _ _ _ h => h) (Or.inl ⟨by rfl, ?_⟩) hHeld ?_; rotate_left; (intro w hSw; (try dsimp only at hSw); go_simp); (try with_reducible rfl); clear hU; intro hU; (try simp only [Act.put, List.setIfInBounds_toArray, List.set_cons_zero, List.set_cons_succ])
  refine T_take (i := 12) hU 71 ?_ rfl rfl (by decide) (by kernel_rfl) (by kernel_rfl) (fun _ _ _ h => h) (Or.inl ⟨by rfl, ?_⟩) hHeld ?_; rotate_left; (intro w hSw; (try dsimp only at hSw); go_simp); (try with_reducible rfl); clear hU; intro hU; (try simp only [Act.put, List.setIfInBounds_toArray, List.set_cons_zero, List.set_cons_succ])
  refine T_take (i := 13) hU 72 ?_ rfl rfl (by decide) (by kernel_rfl) (by kernel_rfl) (fun _ _ _ h => h) (Or.inl ⟨by rfl, ?_⟩) hHeld ?_; rotate_left; (intro w hSw; (try dsimp only at hSw); go_simp); (try with_reducible rfl); clear hU; intro hU; (try simp only [Act.put, List.setIfInBounds_toArray, List.set_cons_zero, List.set_cons_succ])
  refine T_take (i := 14) hU 73 ?_ rfl rfl (by decide) (by kernel_rfl) (by kernel_rfl) (fun _ _ _ h => h) (Or.inl ⟨by rfl, ?_⟩) hHeld ?_; rotate_left; (intro w hSw; (try dsimp only at hSw); go_simp); (try with_reducible rfl); clear hU; intro hU; (try simp only [Act.put, List.setIfInBounds_toArray, List.set_cons_zero, List.set_cons_succ])
  have hHeld15 := hHeld
  refine T_step (i := 15) hU rfl (by decide) (by kernel_rfl) (fun K hK => ?_); clear hU hHeld
  go_simp
  go_at_call 18
  refine HF.out.mono ?_
  rintro e w5 ⟨s, S, l, L, G, F1, r, rfl, hS5, hlp, hL5, hSd, hSh, hD5, hF5, hFG5, hFl5, hl5, hG5, hk5⟩
  refine hK.out _ _ (⟨hk5.keepCell HW4.out.Fw hHeld15.1, hk5.keepRange HW4.out.Fw hHeld15.2.1, hk5.keepCell HW4.out.Fl hHeld15.2.2⟩) (fun hHeld hU => ?_); clear hK K; (try simp only [Act.put, List.setIfInBounds_toArray, List.set_cons_zero, List.set_cons_succ])
  refine T_take (i := 16) hU 58 ?_ rfl rfl (by decide) (by kernel_rfl) (by kernel_rfl) (fun _ _ _ h => h) (Or.inl ⟨by rfl, ?_⟩) hHeld ?_; rotate_left; (intro w hSw; (try dsimp only at hSw); go_simp); (try with_reducible rfl); clear hU; intro hU; (try simp only [Act.put, List.setIfInBounds_toArray, List.set_cons_zero, List.set_cons_succ])
  refine T_take (i := 17) hU 75 ?_ rfl rfl (by decide) (by kernel_rfl) (by kernel_rfl) (fun _ _ _ h => h) (Or.inl ⟨by rfl, ?_⟩) hHeld ?_; rotate_left; (intro w hSw; (try dsimp only at hSw); go_simp); (try with_reducible rfl); clear hU; intro hU; (try simp only [Act.put, List.setIfInBounds_toArray, List.set_cons_zero, List.set_cons_succ])
  refine T_take (i := 18) hU 76 ?_ rfl rfl (by decide) (by kernel_rfl) (by kernel_rfl) (fun _ _ _ h => h) (Or.inl ⟨by rfl, ?_⟩) hHeld ?_; rotate_left; (intro w hSw; (try dsimp only at hSw); go_simp); (try with_reducible rfl); clear hU; intro hU; (try simp only [Act.put, List.setIfInBounds_toArray, List.set_cons_zero, List.set_cons_succ])
  refine T_take (i := 19) hU 10 ?_ rfl rfl (by decide) (by kernel_rfl) (by kernel_rfl) (fun _ _ _ h => h) (Or.inl ⟨by rfl, ?_⟩) hHeld ?_; rotate_left; (intro w hSw; (try dsimp only at hSw); go_simp); (try with_reducible rfl); clear hU; intro hU; (try simp only [Act.put, List.setIfInBounds_toArray, List.set_cons_zero, List.set_cons_succ])
  refine T_last (N := 20) rfl (by kernel_rfl) (by kernel_rfl) (fun K hK => ?_); clear hU hHeld
  go_simp
  refine hK.out _ _ (NoPanic.normal ?_); clear hK K
  have hF5' : ∀ k, F1 k → F k ∨ w4.heap.size ≤ k := hF5
  have hl5' : w4.heap.size ≤ l := hl5
  have hG5' : ∀ k, G k → w4.heap.size ≤ k := hG5
  have hk5' : Keep F w4 w5 := Keep.ofDrew hk5
  have hW5 := HW4.out.go (W' := W) rfl rfl rfl HW4.out.hl HW4.out.num hk5' (hk5'.at HW4.out.cells HW4.out.Fw) hD5 HW4.out.Fl (fun z hz b hb => (HW4.out.seg z hz b hb).1) hF5'
  have HW5 := Lib.hid hW5
  have hz2 := Hz2.out
  have nFbl : ¬ F w.heap.size := fun e => by have := H.out.dk.lt _ e; omega
  have nF1 : ∀ b, ¬ F b → b < w4.heap.size → ¬ F1 b := fun b h1 h2 e => (hF5' b e).elim h1 (fun e => by omega)
  have HL5 := Lib.hid (hk5'.at HL4.out nFbl)
  have HI5 := Lib.hid (HI4.out.keepV hk5' (fun b hb => by simp only [Value.ownBlock, Option.some.injEq] at hb; subst hb; exact Ngb.out))
  have hsG := hS5.gs
  have hs4 : w4.heap.size ≤ s := hG5' s hsG
  have nF1s : ¬ F1 s := fun e => hFG5 s e hsG
  have HS5 := Lib.hid hS5
  have HLg5 := Lib.hid hL5
  have HD5 := Lib.hid hD5
  have Hf5 := Lib.hid (And.intro hFG5 (And.intro hFl5 (And.intro hl5' hG5')))
  have HF5 := Lib.hid hF5'
  have HK5 := Lib.hid hk5'
  have HnF1 := Lib.hid nF1
  have HnF1s := Lib.hid nF1s
  have Hlp := Lib.hid hlp
  have Hsd := Lib.hid (And.intro hSd hSh)
  have HnFbl := Lib.hid nFbl
  clear hk5 hk5' hW5 hz2 nFbl nF1 hsG hs4 nF1s hS5 hL5 hD5 hFG5 hFl5 hl5 hl5' hG5 hG5' hF5 hF5' hlp hSd hSh c0 rg g1 hHeld15 hFlt4 hFlt2
  go_wp2_with (first
    | (go_at_call 19; refine (sync_ok s S dn (Bd + 2000) F1 w5 HS5.out.cells (by rw [Hsd.out.1]; exact HD5.out) HnF1s.out ⟨by rw [Hsd.out.2]; omega, by rw [Hsd.out.2]; omega⟩ (by have := HW4.out.dn; have := HW4.out.sct; have := HW4.out.n1; omega) (by have := Hbd.out; omega)).mono ?_; rintro e w6 ⟨rfl, hst6⟩))
  rw [Hsd.out.1] at hst6
  obtain ⟨F2, hd6, hF6, hk6⟩ := hst6
  have hlt5 := HD5.out.lt
  have nF2 : ∀ b, ¬ F1 b → b < w5.heap.size → ¬ F2 b := fun b h1 h2 e => (hF6 b e).elim h1 (fun e => by omega)
  have hW6 := HW5.out.go (W' := W) rfl rfl rfl HW5.out.hl HW5.out.num hk6 (hk6.at HW5.out.cells HW5.out.Fw) hd6 HW5.out.Fl (fun z hz b hb => (HW5.out.seg z hz b hb).1) hF6
  have HW6 := Lib.hid hW6
  have hz5 := HK5.out.size
  have nbl1 : ¬ F1 w.heap.size := HnF1.out _ HnFbl.out (by have := Hz2.out; omega)
  have ngb1 : ¬ F1 gb := HnF1.out _ Ngb.out Hgb.out.2
  have ngb2 : ¬ F2 gb := nF2 _ ngb1 (by have := Hgb.out; omega)
  have nbl2 : ¬ F2 w.heap.size := nF2 _ nbl1 (by have := Hz2.out; omega)
  have HL6 := Lib.hid (hk6.at HL5.out nbl1)
  have HI6 := Lib.hid (HI5.out.keepV hk6 (fun b hb => by simp only [Value.ownBlock, Option.some.injEq] at hb; subst hb; exact ngb1))
  have HS6 := Lib.hid (HS5.out.keep hk6 (fun k hg hf => Hf5.out.1 k hf hg))
  have HLg6 := Lib.hid (hk6.at HLg5.out Hf5.out.2.1)
  have HK6 := Lib.hid hk6
  have HF6 := Lib.hid hF6
  have HnF2 := Lib.hid nF2
  have Hn2 := Lib.hid (And.intro ngb2 nbl2)
  have Hz5 := Lib.hid hz5
  have g1 : w6.cell? ⟨W.lb, k * 10 + 1, none⟩ = some (.int .i64 x.gen) := HW6.out.tcell Hx.out 1 (by omega)
  have rl : w6.rangeAt w.heap.size 0 (limV m).toList := HL6.out.range 0 7
  have hu32 := Tryz.underlying32
  have hi32 := size32 (m : Int)
  clear hd6 hF6 hk6 hlt5 nF2 hW6 hz5 nbl1 ngb1 ngb2 nbl2
  (try simp only [Act.put, List.setIfInBounds_toArray, List.set_cons_zero, List.set_cons_succ])
  refine wp_region_noPanic ?_
  refine T_region 10 (fun w' => w'.cell? ⟨W.lb, k * 10 + 1, none⟩ = some (.int .i64 x.gen) ∧ w'.rangeAt w.heap.size 0 (limV m).toList) (by kernel_rfl) (by kernel_rfl) (by kernel_rfl) (by decide) (by kernel_rfl) ⟨g1, rl⟩ (fun hHeld hU => ?_)
  refine T_take (i := 0) hU 84 ?_ rfl rfl (by decide) (by kernel_rfl) (by kernel_rfl) (fun _ _ _ h => h) (Or.inl ⟨by rfl, ?_⟩) hHeld ?_; rotate_left; (intro w hSw; (try dsimp only at hSw); go_simp); (try with_reducible rfl); clear hU; intro hU; (try simp only [Act.put, List.setIfInBounds_toArray, List.set_cons_zero, List.set_cons_succ])
  refine T_take (i := 1) hU 85 ?_ rfl rfl (by decide) (by kernel_rfl) (by kernel_rfl) (fun _ _ _ h => h) (Or.inl ⟨by rfl, ?_⟩) hHeld ?_; rotate_left; (intro w hSw; (try dsimp only at hSw); go_simp); (try with_reducible rfl); clear hU; intro hU; (try simp only [Act.put, List.setIfInBounds_toArray, List.set_cons_zero, List.set_cons_succ])
  refine T_take (i := 2) hU 86 ?_ rfl rfl (by decide) (by kernel_rfl) (by kernel_rfl) (fun _ _ _ h => h) (Or.inl ⟨by rfl, ?_⟩) hHeld ?_; rotate_left; (intro w hSw; (try dsimp only at hSw); go_simp); (try with_reducible rfl); clear hU; intro hU; (try simp only [Act.put, List.setIfInBounds_toArray, List.set_cons_zero, List.set_cons_succ])
  refine T_take (i := 3) hU 87 ?_ rfl rfl (by decide) (by kernel_rfl) (by kernel_rfl) (fun _ _ _ h => h) (Or.inl ⟨by rfl, ?_⟩) hHeld ?_; rotate_left; (intro w hSw; (try dsimp only at hSw); go_simp); (try with_reducible rfl); clear hU; intro hU; (try simp only [Act.put, List.setIfInBounds_toArray, List.set_cons_zero, List.set_cons_succ])
  refine T_take (i := 4) hU 88 ?_ rfl rfl (by decide) (by kernel_rfl) (by kernel_rfl) (fun _ _ _ h => h) (Or.inl ⟨by rfl, ?_⟩) hHeld ?_; rotate_left; (intro w hSw; (try dsimp only at hSw); go_simp); (try with_reducible rfl); clear hU; intro hU; (try simp only [Act.put, List.setIfInBounds_toArray, List.set_cons_zero, List.set_cons_succ])
  refine T_take (i := 5) hU 89 ?_ rfl rfl (by decide) (by kernel_rfl) (by kernel_rfl) (fun _ _ _ h => h) (Or.inl ⟨by rfl, ?_⟩) hHeld ?_; rotate_left; (intro w hSw; (try dsimp only at hSw); go_simp); (try with_reducible rfl); clear hU; intro hU; (try simp only [Act.put, List.setIfInBounds_toArray, List.set_cons_zero, List.set_cons_succ])
  refine T_take (i := 6) hU 90 (.agg (limV m)) rfl rfl (by decide) (by kernel_rfl) (by kernel_rfl) (fun _ _ _ h => h) (yields_load _ _ _ _ rfl _ _ rfl w.heap.size 0 rfl _ _ hu32 rfl hi32 (fun _ h => h.2)) hHeld ?_; clear hU; intro hU; (try simp only [Act.put, List.setIfInBounds_toArray, List.set_cons_zero, List.set_cons_succ])
  refine T_take (i := 7) hU 91 ?_ rfl rfl (by decide) (by kernel_rfl) (by kernel_rfl) (fun _ _ _ h => h) (Or.inl ⟨by rfl, ?_⟩) hHeld ?_; rotate_left; (intro w hSw; (try dsimp only at hSw); go_simp); (try with_reducible rfl); clear hU; intro hU; (try simp only [Act.put, List.setIfInBounds_toArray, List.set_cons_zero, List.set_cons_succ])
  refine T_take (i := 8) hU 92 (.agg (livArr (x.gen + 1) m (.slice (some ⟨gb, 0, none⟩) m m))) rfl rfl (by decide) (by kernel_rfl) (by kernel_rfl) (fun _ _ _ h => h) (yields_build _ _ _ _ rfl _ _ rfl _ _ (built40f (x.gen + 1) m gb m m) rfl) hHeld ?_; clear hU; intro hU; (try simp only [Act.put, List.setIfInBounds_toArray, List.set_cons_zero, List.set_cons_succ])
  refine T_take (i := 9) hU 93 ?_ rfl rfl (by decide) (by kernel_rfl) (by kernel_rfl) (fun _ _ _ h => h) (Or.inl ⟨by rfl, ?_⟩) hHeld ?_; rotate_left; (intro w hSw; (try dsimp only at hSw); go_simp); (try with_reducible rfl); clear hU; intro hU; (try simp only [Act.put, List.setIfInBounds_toArray, List.set_cons_zero, List.set_cons_succ])
  refine T_last (N := 10) rfl (by kernel_rfl) (by kernel_rfl) (fun K hK => ?_); clear hU hHeld
  refine step_storeRow' rfl 40 _ _ rfl rfl W.lb (k * 10) (livArr (x.gen + 1) m (.slice (some ⟨gb, 0, none⟩) m m)) (tcells T).toArray 40 (by with_unfolding_all exact rfl) (by with_unfolding_all exact rfl) (show At w6.drew _ _ _ from HW6.out.tab.cells) (tsize HW6.out.ok.len hk16 HV0) (size40 HV0) (by simp [livArr, Value.oneCell']) (fun w7 hA7 hk7 hs7 => ?_)
  refine hK.out _ _ (NoPanic.normal ?_); clear hK K
  have hk7' : Keep (· = W.lb) w6 w7 := Keep.ofDrew hk7
  have hya : (HVf (x.gen + 1) (.slice (some ⟨gb, 0, none⟩) m m) ((freeL n (allSegs T)).take m)).arr = livArr (x.gen + 1) m (.slice (some ⟨gb, 0, none⟩) m m) := by
    show livArr (x.gen + 1) (((freeL n (allSegs T)).take m).length : Nat) _ = _
    rw [Hlen.out]; rfl
  have hTO := HW6.out.ok.found Hx.out Hs.out.2.2.2.2.2.2.2.2.2.2 (x.gen + 1) (.slice (some ⟨gb, 0, none⟩) m m) (by have := Hs.out.2.1; omega) (by have := Hgen.out; omega) hm hm' hle
  have hgbw : gb ≠ wp ∧ gb ≠ W.lb ∧ gb < w6.heap.size := by
    have := Hgb.out; have := Hz2.out; have := Hz5.out; have := HK6.out.size; omega
  have hW7 := HW6.out.setT (HVf (x.gen + 1) (.slice (some ⟨gb, 0, none⟩) m m) ((freeL n (allSegs T)).take m)) hTO (HI6.out.mono (by have := Hz5.out; have := HK6.out.size; omega)) rfl (by show ((freeL n (allSegs T)).take m).length ≤ 1000; rw [Hlen.out]; omega)
    (fun b hb => by simp only [HVf, Value.ownBlock, Option.some.injEq] at hb; subst hb; exact ⟨Hn2.out.1, hgbw⟩) hk7' (tset_at Hx.out (by rw [hya]; exact hA7))
  have HW7 := Lib.hid hW7
  have HK7 := Lib.hid hk7'
  have Hgw := Lib.hid hgbw
  clear hW7 hA7 hk7 hs7 hk7' hya hTO hgbw g1 rl
  go_wp2_with (first
    | (go_at_call 20; refine (wsave_ok wp W _ n dn (Bd + 2000) F2 w7 HW7.out (by have := Hbd.out; omega) hN).mono ?_; rintro e w8 ⟨rfl, F3, hW8, hF8, hk8⟩; have HW8 := Lib.hid hW8; have HF8 := Lib.hid hF8; have HK8 := Lib.hid hk8; clear hW8 hF8 hk8))
  have hz2 := Hz2.out
  have hz5 := Hz5.out
  have hz6 := HK6.out.size
  have hz7 := HK7.out.size
  have hz8 := HK8.out.size
  have nG7 : ∀ b, G b → ¬ (b = W.lb) := fun b hg e => by have := Hf5.out.2.2.2 b hg; omega
  have nG8 : ∀ b, G b → ¬ (F2 b ∨ b = wp) := fun b hg e => e.elim (fun e => HnF2.out b (fun e => Hf5.out.1 b e hg) (HS5.out.lt b hg) e) (fun e => by have := Hf5.out.2.2.2 b hg; omega)
  have hS8 := (HS6.out.keep HK7.out nG7).keep HK8.out nG8
  have nl7 : ¬ (l = W.lb) := fun e => by have := Hf5.out.2.2.1; omega
  have nl8 : ¬ (F2 l ∨ l = wp) := fun e => e.elim (fun e => HnF2.out l Hf5.out.2.1 HLg5.out.lt e) (fun e => by have := Hf5.out.2.2.1; omega)
  have hL8 := HK8.out.at (HK7.out.at HLg6.out nl7) nl8
  have hI8 := (HI6.out.keepV HK7.out (fun b hb => by simp only [Value.ownBlock, Option.some.injEq] at hb; subst hb; exact Hgw.out.2.1)).keepV HK8.out (fun b hb => by simp only [Value.ownBlock, Option.some.injEq] at hb; subst hb; exact fun e => e.elim Hn2.out.1 Hgw.out.1)
  have hl8 := HK8.out.at (HK7.out.at HL6.out (show ¬ (w.heap.size = W.lb) by omega)) (show ¬ (F2 w.heap.size ∨ w.heap.size = wp) from fun e => e.elim Hn2.out.2 (fun e => by omega))
  have hT' : (T.set k (HVf (x.gen + 1) (.slice (some ⟨gb, 0, none⟩) m m) ((freeL n (allSegs T)).take m)))[k]? = some (HVf (x.gen + 1) (.slice (some ⟨gb, 0, none⟩) m m) ((freeL n (allSegs T)).take m)) := by
    have := (List.getElem?_eq_some_iff.1 Hx.out).1
    simp [this]
  have rg : w8.rangeAt wp 1 [.int .i64 W.sct, .int .i64 32] := HW8.out.geo
  have g1 : w8.cell? ⟨W.lb, k * 10 + 1, none⟩ = some (.int .i64 (x.gen + 1)) := HW8.out.tcell hT' 1 (by omega)
  have rl : w8.rangeAt w.heap.size 0 (limV m).toList := hl8.range 0 7
  have Hnew := Lib.hid (hnew_ok s S ((freeL n (allSegs T)).take m) (some r) false G l L W.sct m ((k : Int) + 1) (x.gen + 1) (.slice (some ⟨gb, 0, none⟩) m m) ((freeL n (allSegs T)).take m) w4.heap.size w8.drew hS8.drew (.inr ⟨r, rfl⟩) (show LogAt w8 l L from hL8) Hlp.out (show IntsAt w8 _ _ _ from hI8) (by show w4.heap.size ≤ w8.heap.size; omega) (by rw [Hlen.out]; omega))
  have HsW : Hid (W.hs.length = 17) := Lib.hid H.out.hl
  have j0 : (0 : Int) ≤ (k : Int) + 1 := by omega
  have j1 : (k : Int) + 1 < 17 := by omega
  have j2 : k + 1 < 17 := by omega
  have HS8 := Lib.hid (And.intro hS8 (And.intro hL8 (And.intro hI8 hl8)))
  clear hz2 hz5 hz6 hz7 hz8 nG7 nG8 hS8 nl7 nl8 hL8 hI8 hl8 hT'
  (try simp only [Act.put, List.setIfInBounds_toArray, List.set_cons_zero, List.set_cons_succ])
  refine wp_region_noPanic ?_
  refine T_region 18 (fun w' => w'.rangeAt wp 1 [.int .i64 W.sct, .int .i64 32] ∧ w'.cell? ⟨W.lb, k * 10 + 1, none⟩ = some (.int .i64 (x.gen + 1)) ∧ w'.rangeAt w.heap.size 0 (limV m).toList) (by kernel_rfl) (by kernel_rfl) (by kernel_rfl) (by decide) (by kernel_rfl) ⟨rg, g1, rl⟩ (fun hHeld hU => ?_)
  refine T_take (i := 0) hU 97 ?_ rfl rfl (by decide) (by kernel_rfl) (by kernel_rfl) (fun _ _ _ h => h) (Or.inl ⟨by rfl, ?_⟩) hHeld ?_; rotate_left; (intro w hSw; (try dsimp only at hSw); go_simp); (try with_reducible rfl); clear hU; intro hU; (try simp only [Act.put, List.setIfInBounds_toArray, List.set_cons_zero, List.set_cons_succ])
  refine T_take (i := 1) hU 98 ?_ rfl rfl (by decide) (by kernel_rfl) (by kernel_rfl) (fun _ _ _ h => h) (Or.inl ⟨by rfl, ?_⟩) hHeld ?_; rotate_left; (intro w hSw; (try dsimp only at hSw); go_simp); (try with_reducible rfl); clear hU; intro hU; (try simp only [Act.put, List.setIfInBounds_toArray, List.set_cons_zero, List.set_cons_succ])
  refine T_take (i := 2) hU 99 ?_ rfl rfl (by decide) (by kernel_rfl) (by kernel_rfl) (fun _ _ _ h => h) (Or.inl ⟨by rfl, ?_⟩) hHeld ?_; rotate_left; (intro w hSw; (try dsimp only at hSw); go_simp); (try with_reducible rfl); clear hU; intro hU; (try simp only [Act.put, List.setIfInBounds_toArray, List.set_cons_zero, List.set_cons_succ])
  refine T_take (i := 3) hU 100 ?_ rfl rfl (by decide) (by kernel_rfl) (by kernel_rfl) (fun _ _ _ h => h) (Or.inl ⟨by rfl, ?_⟩) hHeld ?_; rotate_left; (intro w hSw; (try dsimp only at hSw); go_simp); (try with_reducible rfl); clear hU; intro hU; (try simp only [Act.put, List.setIfInBounds_toArray, List.set_cons_zero, List.set_cons_succ])
  refine T_take (i := 4) hU 101 ?_ rfl rfl (by decide) (by kernel_rfl) (by kernel_rfl) (fun _ _ _ h => h) (Or.inl ⟨by rfl, ?_⟩) hHeld ?_; rotate_left; (intro w hSw; (try dsimp only at hSw); go_simp); (try with_reducible rfl); clear hU; intro hU; (try simp only [Act.put, List.setIfInBounds_toArray, List.set_cons_zero, List.set_cons_succ])
  refine T_take (i := 5) hU 102 ?_ rfl rfl (by decide) (by kernel_rfl) (by kernel_rfl) (fun _ _ _ h => h) (Or.inl ⟨by rfl, ?_⟩) hHeld ?_; rotate_left; (intro w hSw; (try dsimp only at hSw); go_simp); (try with_reducible rfl); clear hU; intro hU; (try simp only [Act.put, List.setIfInBounds_toArray, List.set_cons_zero, List.set_cons_succ])
  refine T_take (i := 6) hU 103 (.agg #[.int .i64 W.sct, .int .i64 32]) rfl rfl (by decide) (by kernel_rfl) (by kernel_rfl) (fun _ _ _ h => h) (yields_load _ _ _ _ rfl _ _ rfl wp 1 rfl _ _ hu25 rfl (size25 _ _) (fun _ h => h.1)) hHeld ?_; clear hU; intro hU; (try simp only [Act.put, List.setIfInBounds_toArray, List.set_cons_zero, List.set_cons_succ])
  refine T_take (i := 7) hU 104 ?_ rfl rfl (by decide) (by kernel_rfl) (by kernel_rfl) (fun _ _ _ h => h) (Or.inl ⟨by rfl, ?_⟩) hHeld ?_; rotate_left; (intro w hSw; (try dsimp only at hSw); go_simp); (try with_reducible rfl); clear hU; intro hU; (try simp only [Act.put, List.setIfInBounds_toArray, List.set_cons_zero, List.set_cons_succ])
  refine T_take (i := 8) hU 105 ?_ rfl rfl (by decide) (by kernel_rfl) (by kernel_rfl) (fun _ _ _ h => h) (Or.inl ⟨by rfl, ?_⟩) hHeld ?_; rotate_left; (intro w hSw; (try dsimp only at hSw); go_simp); (try with_reducible rfl); clear hU; intro hU; (try simp only [Act.put, List.setIfInBounds_toArray, List.set_cons_zero, List.set_cons_succ])
  refine T_take (i := 9) hU 106 ?_ rfl rfl (by decide) (by kernel_rfl) (by kernel_rfl) (fun _ _ _ h => h) (Or.inl ⟨by rfl, ?_⟩) hHeld ?_; rotate_left; (intro w hSw; (try dsimp only at hSw); go_simp); (try with_reducible rfl); clear hU; intro hU; (try simp only [Act.put, List.setIfInBounds_toArray, List.set_cons_zero, List.set_cons_succ])
  refine T_take (i := 10) hU 107 ?_ rfl rfl (by decide) (by kernel_rfl) (by kernel_rfl) (fun _ _ _ h => h) (Or.inl ⟨by rfl, ?_⟩) hHeld ?_; rotate_left; (intro w hSw; (try dsimp only at hSw); go_simp); (try with_reducible rfl); clear hU; intro hU; (try simp only [Act.put, List.setIfInBounds_toArray, List.set_cons_zero, List.set_cons_succ])
  refine T_take (i := 11) hU 108 ?_ rfl rfl (by decide) (by kernel_rfl) (by kernel_rfl) (fun _ _ _ h => h) (Or.inl ⟨by rfl, ?_⟩) hHeld ?_; rotate_left; (intro w hSw; (try dsimp only at hSw); go_simp); (try with_reducible rfl); clear hU; intro hU; (try simp only [Act.put, List.setIfInBounds_toArray, List.set_cons_zero, List.set_cons_succ])
  refine T_take (i := 12) hU 109 (.agg (limV m)) rfl rfl (by decide) (by kernel_rfl) (by kernel_rfl) (fun _ _ _ h => h) (yields_load _ _ _ _ rfl _ _ rfl w.heap.size 0 rfl _ _ hu32 rfl hi32 (fun _ h => h.2.2)) hHeld ?_; clear hU; intro hU; (try simp only [Act.put, List.setIfInBounds_toArray, List.set_cons_zero, List.set_cons_succ])
  refine T_take (i := 13) hU 110 ?_ rfl rfl (by decide) (by kernel_rfl) (by kernel_rfl) (fun _ _ _ h => h) (Or.inl ⟨by rfl, ?_⟩) hHeld ?_; rotate_left; (intro w hSw; (try dsimp only at hSw); go_simp); (try with_reducible rfl); clear hU; intro hU; (try simp only [Act.put, List.setIfInBounds_toArray, List.set_cons_zero, List.set_cons_succ])
  refine T_take (i := 15) hU 112 ?_ rfl rfl (by decide) (by kernel_rfl) (by kernel_rfl) (fun _ _ _ h => h) (Or.inl ⟨by rfl, ?_⟩) hHeld ?_; rotate_left; (intro w hSw; (try dsimp only at hSw); go_simp); (try with_reducible rfl); clear hU; intro hU; (try simp only [Act.put, List.setIfInBounds_toArray, List.set_cons_zero, List.set_cons_succ])
  refine T_take (i := 16) hU 113 ?_ rfl rfl (by decide) (by kernel_rfl) (by kernel_rfl) (fun _ _ _ h => h) (Or.inl ⟨by rfl, ?_⟩) hHeld ?_; rotate_left; (intro w hSw; (try dsimp only at hSw); go_simp); (try with_reducible rfl); clear hU; intro hU; (try simp only [Act.put, List.setIfInBounds_toArray, List.set_cons_zero, List.set_cons_succ])
  have hHeld14 := hHeld
  refine T_step (i := 14) hU rfl (by decide) (by kernel_rfl) (fun K hK => ?_); clear hU hHeld
  go_simp
  go_at_call 21
  refine Hnew.out.mono ?_
  rintro e w9 ⟨⟨hb, rfl⟩, hb9⟩
  refine hK.out _ _ (⟨Below.keepRange hb9 hHeld14.1, Below.keepCell hb9 hHeld14.2.1, Below.keepRange hb9 hHeld14.2.2⟩) (fun hHeld hU => ?_); clear hK K; (try simp only [Act.put, List.setIfInBounds_toArray, List.set_cons_zero, List.set_cons_succ])
  refine T_take (i := 17) hU 114 ?_ rfl rfl (by decide) (by kernel_rfl) (by kernel_rfl) (fun _ _ _ h => h) (Or.inl ⟨by rfl, ?_⟩) hHeld ?_; rotate_left; (intro w hSw; (try dsimp only at hSw); go_simp); (try with_reducible rfl); clear hU; intro hU; (try simp only [Act.put, List.setIfInBounds_toArray, List.set_cons_zero, List.set_cons_succ])
  refine T_last (N := 18) rfl (by kernel_rfl) (by kernel_rfl) (fun K hK => ?_); clear hU hHeld
  have hW9 := HW8.out.below ((World.drew_below0 w8).trans hb9)
  refine step_storeCell rfl 50 _ _ rfl rfl wp (5 + (k + 1)) (.pointer (some ⟨hb, 0, none⟩)) _ 53 (by with_unfolding_all exact rfl) (by with_unfolding_all exact rfl) hW9.cells (by rw [WarV.size _ hW9.hl]; omega) (by kernel_rfl) rfl rfl (fun w10 hA10 hk10 hs10 => ?_)
  refine hK.out _ _ (NoPanic.normal ?_); clear hK K
  have hW10 := hW9.setH (k + 1) (.pointer (some ⟨hb, 0, none⟩)) hk10 hA10
  go_wp2
  go_ret
  have z2 := Hz2.out
  have z5 := Hz5.out
  have z6 := HK6.out.size
  have z7 := HK7.out.size
  have lF1 : ∀ k, F1 k → F k ∨ w.heap.size ≤ k := fun k hf => (HF5.out k hf).imp id (fun e => by omega)
  have lF2 : ∀ k, F2 k → F k ∨ w.heap.size ≤ k := fun k hf => (HF6.out k hf).elim (lF1 k) (fun e => .inr (by omega))
  have lF3 : ∀ k, F3 k → F k ∨ w.heap.size ≤ k := fun k hf => (HF8.out k hf).elim (lF2 k) (fun e => .inr (by omega))
  refine ⟨rfl, _, F3, hb, _, ⟨hW10.cells, hW10.hl, hW10.tab, hW10.ok, hW10.dk.mono (by omega), hW10.sct, hW10.dn, hW10.n0, hW10.n1, hW10.num, hW10.Fw, hW10.Fl, hW10.seg⟩, rfl, rfl, rfl, lF3, ?_⟩
  have k4 : Keep (fun k => F k ∨ k = wp ∨ k = W.lb) w w4 := Keep.of_below HB4.out _
  have k5 := k4.trans HK5.out (fun _ _ e => .inl e)
  have k6 := k5.trans HK6.out (fun k hk e => (lF1 k e).elim .inl (fun e => by omega))
  have k7 := k6.trans HK7.out (fun _ _ e => .inr (.inr e))
  have k8 := k7.trans HK8.out (fun k hk e => e.elim (fun e => (lF2 k e).elim .inl (fun e => by omega)) (fun e => .inr (.inl e)))
  have k9 := k8.trans (Keep.of_below ((World.drew_below0 w8).trans hb9) (fun _ => False)) (fun _ _ h => h.elim)
  exact k9.trans hk10 (fun _ _ e => .inr (.inl e))
end Go.Proofs.YtnndkfhpifgaiaaGreat
