/-
  log: where a log stands; its small calls.
  slices.Clone of numbers; log.New, log.Free, log.next.
-/
import Derived.Test.YtnndkfhpifgaiaaGreatM13
import Derived.Test.YtnndkfhpifgaiaaGreatM16
import Derived.Test.YtnndkfhpifgaiaaGreatM15
import Derived.Test.YtnndkfhpifgaiaaGreatM19
import Derived.Deep.DrawnRows
set_option linter.unusedVariables false
set_option linter.unusedSimpArgs false
namespace Go.Proofs.YtnndkfhpifgaiaaGreat
open Go.RowKit

/-- A log as it lies in memory. -/
structure LogV where
  (d : Nat) (sct h g : Int) (x : SlotV) (fv : Value)
def LogV.cells (L : LogV) : Array Value := #[.pointer (some ⟨L.d, 0, none⟩), .int .i64 L.sct, .int .i64 32, .int .i64 L.h, .int .i64 L.g,
  .int .i64 L.x.num, .int .i64 L.x.life, .int .i64 L.x.clock, .int .i64 L.x.seg, .int .i64 L.x.at_, .int .i64 L.x.next, .int .i64 L.x.seq, .int .i64 L.x.m0, .int .i64 L.x.m1, .int .i64 L.x.m2, .int .i64 L.x.m3, .int .i64 L.x.sb, .int .i64 L.x.sn, L.fv]
def LogAt (w : World) (l : Nat) (L : LogV) : Prop := At w l L.cells 132

def zSlot : Array Value := #[.int .i64 0, .int .i64 0, .int .i64 0, .int .i64 0, .int .i64 0, .int .i64 0, .int .i64 0, .int .i64 0, .int .i64 0, .int .i64 0, .int .i64 0, .int .i64 0, .int .i64 0]
theorem zero82 : (Tryz.prog.info? 82).bind (·.zero) = some (.agg zSlot) := by kernel_rfl
theorem size82 (x : SlotV) : (Tryz.prog.info? 82).map (·.size) = some x.cells.size := by kernel_rfl
theorem one82 (x : SlotV) : x.cells.all (·.oneCell') = true := by unfold SlotV.cells; simp [Value.oneCell']

set_option maxHeartbeats 400000 in
theorem lplace_ok (l : Nat) (L : LogV) (w : World) (h : LogAt w l L) : Calls Tryz.prog 75 #[.pointer (some ⟨l, 0, none⟩)] w (Ans L.x.v w) := by
  have hu := Tryz.underlying82
  have hlt := h.lt
  have Hl := Lib.hid h
  clear h
  go_enter Tryz.func75, Tryz.ntmps75
  go_wp2_with (first
    | (refine wpList_allocAt rfl 82 rfl zSlot zero82 ?_; intro w1 hz1 hk1 hs1; have HL1 := Lib.hid (hk1.at Hl.out id); have HZ := Lib.hid hz1; clear hz1)
    | (refine wpList_loadIn rfl 82 _ rfl l 5 rfl 132 L.cells HL1.out L.x.cells.toList rfl _ rfl hu (size82 _) ?_)
    | (refine wpList_storeRow rfl 82 _ _ rfl rfl _ L.x.cells zSlot _ rfl rfl HZ.out rfl (size82 _) (one82 _) ?_; intro w2 hA2 hk2 hs2))
  exact bodyPost_ret (v := L.x.v) (results_cell1 Tryz.results75 _ _ w.heap.size _ L.x.cells _ rfl hA2 hu rfl (size82 _)) rfl ⟨rfl, (hk1.trans (G := (· = w.heap.size)) hk2 (fun b hb e => by subst e; omega)).below⟩

theorem room_yes (l : Nat) (L : LogV) (n : Int) (w : World) (h : LogAt w l L) (h0 : 0 ≤ L.x.at_) (h1 : L.x.at_ ≤ 100) (hn : 0 ≤ n) (hn' : n ≤ 100) (hfit : L.x.at_ + n ≤ 32) :
    Calls Tryz.prog 166 #[.pointer (some ⟨l, 0, none⟩), .int .i64 n] w (Ans (.bool true) w) := by
  have c9 : w.cell? ⟨l, 9, none⟩ = some (.int .i64 L.x.at_) := h.cell 9
  have c2 : w.cell? ⟨l, 2, none⟩ = some (.int .i64 32) := h.cell 2
  have e0 : decide (0 ≤ L.x.at_) = true := by simpa using h0
  have e1 : decide (L.x.at_ + n ≤ 32) = true := by simpa using hfit
  have hw : IntKind.i64.wrap (L.x.at_ + n) = L.x.at_ + n := by rw [IntKind.wrap_i64]; omega
  clear h
  go_enter Tryz.func166, Tryz.ntmps166
  go_wp2
  go_quiet (fail)
  go_wp2
  go_ret
  exact ⟨rfl, below_drewN _ _⟩
end Go.Proofs.YtnndkfhpifgaiaaGreat
namespace Go.Proofs.YtnndkfhpifgaiaaGreat
open Go.RowKit
attribute [local go_sem ↓] Go.wp_at_zero Go.wp_at_succ


/-- A slice of numbers in memory of the call's own. -/
def Ints (xs : List Int) (w : World) (e : Ending) (w' : World) : Prop :=
  ∃ v, e = .returned v ∧ w'.ownsRow w.heap.size 3 1 v xs.length (xs.map (Value.int .i64)) ∧ Below w.heap.size w w'

theorem clone_ok (v : Value) (xs : List Int) (N : Nat) (w : World) (h : IntsAt w v xs N) (hl : xs.length ≤ 1000) : Calls Tryz.prog 23 #[v] w (Ints xs w) := by
  by_cases hx : xs = []
  · subst hx
    obtain ⟨p, c, rfl, hc, _⟩ := h
    cases p with
    | none => exact (Tryz.slices_Clone_int_nil 0 c w).mono fun e w' ⟨he, hw⟩ => ⟨_, he, by subst hw; exact World.ownsRow_nil _ _ _ _, by subst hw; exact Below.refl _ _⟩
    | some a => exact (Tryz.slices_Clone_int_zero a c w).mono fun e w' ⟨v', he, ho, _, hb⟩ => ⟨v', he, ho, hb⟩
  · obtain ⟨b, off, c, hN, rfl, hc, hcells⟩ := h.cells hx
    refine (Tryz.slices_Clone_int b off xs.length c xs w (Nat.le_refl _) (by omega) (fun j hj => ?_)).mono fun e w' ⟨v', he, ho, _, hb⟩ => ⟨v', he, ?_, hb⟩
    · rw [hcells j (xs.getD j 0) (by simp [hj])]
    · rwa [List.take_length] at ho

/-- What log.New leaves: a log in a block of its own. -/
def NewLog (L : LogV) (xs : List Int) (w : World) (e : Ending) (w' : World) : Prop :=
  ∃ l fv, e = .returned (.pointer (some ⟨l, 0, none⟩)) ∧ w.heap.size ≤ l ∧ LogAt w' l { L with fv := fv } ∧ w'.ownsRow w.heap.size 3 1 fv xs.length (xs.map (Value.int .i64)) ∧ Below w.heap.size w w'

theorem built130 (d : Nat) (s : Int) : Tryz.prog.built 130 [(0, .pointer (some ⟨d, 0, none⟩)), (1, .agg #[.int .i64 s, .int .i64 32])] = some #[.pointer (some ⟨d, 0, none⟩), .int .i64 s, .int .i64 32] := by kernel_rfl
theorem built132 (L : LogV) (p : Option Addr) (m c : Nat) : Tryz.prog.built 132 [(0, .agg #[.pointer (some ⟨L.d, 0, none⟩), .int .i64 L.sct, .int .i64 32]), (1, .int .i64 L.h), (2, .int .i64 L.g), (3, .agg L.x.cells), (4, .slice p m c)] = some ({ L with fv := .slice p m c } : LogV).cells := by kernel_rfl

theorem ownsRow_slice {W : World} {base : Nat} {e : TypeId} {size : Nat} {v : Value} {k : Nat} {xs : List Value} (h : W.ownsRow base e size v k xs) : ∃ p c, v = .slice p k c := by
  rcases h.2 with ⟨rfl, h0⟩ | ⟨g, cap, _, rfl, _⟩
  · exact ⟨none, 0, by rw [h0]⟩
  · exact ⟨_, cap, rfl⟩

theorem ownsRow_lower {W : World} {base base' : Nat} {e : TypeId} {size : Nat} {v : Value} {k : Nat} {xs : List Value} (h : W.ownsRow base e size v k xs) (hb : base' ≤ base) : W.ownsRow base' e size v k xs := by
  refine ⟨h.1, ?_⟩
  rcases h.2 with h1 | ⟨g, cap, cur, rfl, hb1, rest⟩
  · exact .inl h1
  · exact .inr ⟨g, cap, cur, rfl, by omega, rest⟩

set_option maxRecDepth 100000 in
set_option maxHeartbeats 2000000 in
theorem lnew_ok (L : LogV) (v : Value) (xs : List Int) (N : Nat) (w : World) (h : IntsAt w v xs N) (hN : N ≤ w.heap.size) (hl : xs.length ≤ 1000) :
    Calls Tryz.prog 39 #[.pointer (some ⟨L.d, 0, none⟩), .agg #[.int .i64 L.sct, .int .i64 32], .int .i64 L.h, .int .i64 L.g, .agg L.x.cells, v] w (NewLog L xs w) := by
  have hu := Tryz.underlying82
  have hi : (Tryz.prog.info? 82).map (·.size) = some L.x.cells.toList.length := size82 _
  have H := Lib.hid h
  clear h
  go_enter Tryz.func39, Tryz.ntmps39
  go_wp2_with (first
    | (refine wpList_boxAt rfl 25 _ rfl #[.int .i64 L.sct, .int .i64 32] rfl ?_; intro w1 hA1 hk1 hs1)
    | (refine wpList_boxAt rfl 82 _ rfl L.x.cells rfl ?_; intro w2 hA2 hk2 hs2))
  have g0 : w2.cell? ⟨w.heap.size, 0, none⟩ = some (.int .i64 L.sct) := Keep.keepCell hk2 id (hA1.cell 0)
  have g1 : w2.cell? ⟨w.heap.size, 1, none⟩ = some (.int .i64 32) := Keep.keepCell hk2 id (hA1.cell 1)
  have g2 : w2.rangeAt w1.heap.size 0 L.x.cells.toList := hA2.range 0 13
  have hB2 : Below w.heap.size w w2 := hk1.below.trans (hk2.below.mono (by omega))
  have H2 := Lib.hid (H.out.below (hB2.mono hN))
  clear hA1 hA2 hk1 hk2
  rw [hs1] at g2
  
  refine wp_region_noPanic ?_
  refine T_region 10 (fun w' => w'.cell? ⟨w.heap.size, 0, none⟩ = some (.int .i64 L.sct) ∧ w'.cell? ⟨w.heap.size, 1, none⟩ = some (.int .i64 32) ∧ w'.rangeAt (w.heap.size + 1) 0 L.x.cells.toList) (by kernel_rfl) (by kernel_rfl) (by kernel_rfl) (by decide) (by kernel_rfl) ⟨g0, g1, g2⟩ (fun hHeld hU => ?_)
  refine T_take (i := 0) hU 13 ?_ rfl rfl (by decide) (by kernel_rfl) (by kernel_rfl) (fun _ _ _ h => h) (Or.inl ⟨by rfl, ?_⟩) hHeld ?_; rotate_left; (intro w hSw; (try dsimp only at hSw); go_simp); (try with_reducible rfl); clear hU; intro hU; (try simp only [Act.put, List.setIfInBounds_toArray, List.set_cons_zero, List.set_cons_succ])
  refine T_take (i := 1) hU 14 ?_ rfl rfl (by decide) (by kernel_rfl) (by kernel_rfl) (fun _ _ _ h => h) (Or.inl ⟨by rfl, ?_⟩) hHeld ?_; rotate_left; (intro w hSw; (try dsimp only at hSw); go_simp); (try with_reducible rfl); clear hU; intro hU; (try simp only [Act.put, List.setIfInBounds_toArray, List.set_cons_zero, List.set_cons_succ])
  refine T_take (i := 2) hU 15 ?_ rfl rfl (by decide) (by kernel_rfl) (by kernel_rfl) (fun _ _ _ h => h) (Or.inl ⟨by rfl, ?_⟩) hHeld ?_; rotate_left; (intro w hSw; (try dsimp only at hSw); go_simp); (try with_reducible rfl); clear hU; intro hU; (try simp only [Act.put, List.setIfInBounds_toArray, List.set_cons_zero, List.set_cons_succ])
  refine T_take (i := 3) hU 16 ?_ rfl rfl (by decide) (by kernel_rfl) (by kernel_rfl) (fun _ _ _ h => h) (Or.inl ⟨by rfl, ?_⟩) hHeld ?_; rotate_left; (intro w hSw; (try dsimp only at hSw); go_simp); (try with_reducible rfl); clear hU; intro hU; (try simp only [Act.put, List.setIfInBounds_toArray, List.set_cons_zero, List.set_cons_succ])
  refine T_take (i := 4) hU 17 ?_ rfl rfl (by decide) (by kernel_rfl) (by kernel_rfl) (fun _ _ _ h => h) (Or.inl ⟨by rfl, ?_⟩) hHeld ?_; rotate_left; (intro w hSw; (try dsimp only at hSw); go_simp); (try with_reducible rfl); clear hU; intro hU; (try simp only [Act.put, List.setIfInBounds_toArray, List.set_cons_zero, List.set_cons_succ])
  refine T_take (i := 5) hU 18 ((.agg L.x.cells)) rfl rfl (by decide) (by kernel_rfl) (by kernel_rfl) (fun _ _ _ h => h) (yields_load _ _ _ _ rfl _ _ rfl (w.heap.size + 1) 0 rfl _ _ hu rfl hi (fun _ h => h.2.2)) hHeld ?_; clear hU; intro hU; (try simp only [Act.put, List.setIfInBounds_toArray, List.set_cons_zero, List.set_cons_succ])
  refine T_take (i := 6) hU 19 ?_ rfl rfl (by decide) (by kernel_rfl) (by kernel_rfl) (fun _ _ _ h => h) (Or.inl ⟨by rfl, ?_⟩) hHeld ?_; rotate_left; (intro w hSw; (try dsimp only at hSw); go_simp); (try with_reducible rfl); clear hU; intro hU; (try simp only [Act.put, List.setIfInBounds_toArray, List.set_cons_zero, List.set_cons_succ])
  have hHeld0 := hHeld
  refine T_step (i := 7) hU rfl (by decide) (by kernel_rfl) (fun K hK => ?_); clear hU hHeld
  go_simp
  go_at_call 23
  refine (clone_ok v xs N _ (show IntsAt w2.drew v xs N from H2.out) hl).mono ?_
  rintro e w3 ⟨fv, rfl, hown, hb3⟩
  obtain ⟨pf, cf, rfl⟩ := ownsRow_slice hown
  refine hK.out _ _ (⟨Below.keepCell hb3 hHeld0.1, Below.keepCell hb3 hHeld0.2.1, Below.keepRange hb3 hHeld0.2.2⟩) (fun hHeld hU => ?_); clear hK K; (try simp only [Act.put, List.setIfInBounds_toArray, List.set_cons_zero, List.set_cons_succ])
  refine T_take (i := 8) hU 21 ((.agg ({ L with fv := .slice pf xs.length cf } : LogV).cells)) rfl rfl (by decide) (by kernel_rfl) (by kernel_rfl) (fun _ _ _ h => h) (yields_build _ _ _ _ rfl _ _ rfl _ _ (built132 L pf xs.length cf) rfl) hHeld ?_; clear hU; intro hU; (try simp only [Act.put, List.setIfInBounds_toArray, List.set_cons_zero, List.set_cons_succ])
  have hHeld1 := hHeld
  refine T_step (i := 9) hU rfl (by decide) (by kernel_rfl) (fun K hK => ?_); clear hU hHeld
  refine step_boxAt rfl _ _ rfl ({ L with fv := .slice pf xs.length cf } : LogV).cells rfl (fun w4 hA4 hk4 hs4 => ?_)
  refine hK.out _ _ (⟨Keep.keepCell hk4 id hHeld1.1, Keep.keepCell hk4 id hHeld1.2.1, Below.keepRange hk4.below hHeld1.2.2⟩) (fun hHeld hU => ?_); clear hK K; (try simp only [Act.put, List.setIfInBounds_toArray, List.set_cons_zero, List.set_cons_succ])
  refine T_last (N := 10) rfl (by kernel_rfl) (by kernel_rfl) (fun K hK => ?_); clear hU hHeld
  go_simp
  refine hK.out _ _ (NoPanic.normal ?_); clear hK K
  go_wp2
  go_ret
  have hz3 := hb3.size
  have hz2 := hB2.size
  simp at hz3
  refine ⟨_, _, rfl, by omega, hA4, ownsRow_lower (hk4.ownsRow hown (fun _ _ h => h)) (by simp; omega), ?_⟩
  exact (hB2.trans ((Below.mono (World.drew_below0 w2) hz2).trans (hb3.mono (by simp; omega)))).trans (hk4.below.mono (by omega))
end Go.Proofs.YtnndkfhpifgaiaaGreat
