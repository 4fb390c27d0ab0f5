/-
  file.made: a store of nothing.
-/
import Derived.Test.YtnndkfhpifgaiaaGreatM24
import Derived.Test.YtnndkfhpifgaiaaGreatM25
import Derived.Deep.DeepCutAuto
set_option linter.unusedVariables false
set_option linter.unusedSimpArgs false
namespace Go.Proofs.YtnndkfhpifgaiaaGreat
open Go.RowKit

def madeCells92 (d : Nat) (sct h g : Int) (sv : Value) (b1 b2 : Nat) : Array Value := #[.pointer (some ⟨d, 0, none⟩), .int .i64 sct, .int .i64 32, .int .i64 h, .int .i64 g, sv, .pointer none, .int .i64 0, .int .i64 0, .int .i64 0, .int .i64 0, .int .i64 0,
  .map (some b1), .map (some b2), .map none, .map none, .map none, .map none, .map none]
theorem built92 (d : Nat) (sct h g : Int) (p : Option Addr) (m c : Nat) (b1 b2 : Nat) : Tryz.prog.built 92 [(0, .pointer (some ⟨d, 0, none⟩)), (1, .agg #[.int .i64 sct, .int .i64 32]), (2, .int .i64 h), (3, .int .i64 g), (4, .slice p m c), (8, .map (some b1)), (9, .map (some b2))] =
    some (madeCells92 d sct h g (.slice p m c) b1 b2) := by kernel_rfl

theorem own_ne_at {w : World} {base n s b : Nat} {e T : TypeId} {size : Nat} {v : Value} {xs : List Value} {cs : Array Value} (h : w.ownsRow base e size v n xs) (hA : At w s cs T) (hT : T ≠ e) (hb : v.ownBlock = some b) : b ≠ s := by
  rintro rfl
  rcases h.2 with ⟨rfl, _⟩ | ⟨g, cap, cur, rfl, _, hg, _⟩
  · simp [Value.ownBlock] at hb
  · simp only [Value.ownBlock, Option.some.injEq] at hb
    subst hb
    have := (show w.heap[g]? = _ from hA).symm.trans hg
    simp only [Option.some.injEq, Obj.cells.injEq] at this
    exact hT this.2.1
theorem imap_ne_at {w : World} {b s : Nat} {l} {cs : Array Value} {T : TypeId} (h : IMap w b l) (hA : At w s cs T) : b ≠ s := by
  rintro rfl
  obtain ⟨es, clk, h, _⟩ := h
  have := (show w.heap[b]? = _ from hA).symm.trans h
  cases this

/-- What stands behind the literal. -/
def MadeMid (w0 : World) (d : Nat) (sct h g : Int) (xs : List Int) (v : Value) (w : World) : Prop :=
  ∃ (s b1 b2 : Nat) (p : Option Addr) (c : Nat), v = .pointer (some ⟨s, 0, none⟩) ∧ At w s (madeCells92 d sct h g (.slice p xs.length c) b1 b2) 92 ∧ IMap w b1 [] ∧ IMap w b2 [] ∧
    w.ownsRow w0.heap.size 3 1 (.slice p xs.length c) xs.length (xs.map (Value.int .i64)) ∧ Keep (fun _ => False) w0 w ∧ b1 ≠ b2 ∧ w0.heap.size ≤ s ∧ w0.heap.size ≤ b1 ∧ w0.heap.size ≤ b2

/-- What made leaves: a store of its own. -/
def Made (d : Nat) (sct h g : Int) (xs : List Int) (w : World) (e : Ending) (w' : World) : Prop :=
  ∃ (s : Nat) (S : StoreV), e = .returned (.pointer (some ⟨s, 0, none⟩)) ∧ S.d = d ∧ S.sct = sct ∧ S.h = h ∧ S.g = g ∧ S.lp = none ∧ S.num = 0 ∧ S.m0 = 0 ∧ S.m1 = 0 ∧ S.m2 = 0 ∧ S.m3 = 0 ∧
    StoreAt w' s S xs none false (fun k => w.heap.size ≤ k ∧ k < w'.heap.size) ∧ Below w.heap.size w w'

set_option maxRecDepth 100000 in
set_option maxHeartbeats 8000000 in
theorem made_ok (d : Nat) (sct h g : Int) (v : Value) (xs : List Int) (N : Nat) (w : World) (hI : IntsAt w v xs N) (hN : N ≤ w.heap.size) (hl : xs.length ≤ 1000) :
    Calls Tryz.prog 37 #[.pointer (some ⟨d, 0, none⟩), .agg #[.int .i64 sct, .int .i64 32], .int .i64 h, .int .i64 g, v] w (Made d sct h g xs w) := by
  go_enter Tryz.func37, Tryz.ntmps37
  go_wp2_with (first
    | (refine wpList_boxAt rfl 25 _ rfl #[.int .i64 sct, .int .i64 32] rfl ?_; intro w1 hA1 hk1 hs1))
  replace hI := hI.keep hk1 (fun _ _ => id)
  have c0 : w1.cell? ⟨w.heap.size, 0, none⟩ = some (.int .i64 sct) := hA1.cell 0
  have c1 : w1.cell? ⟨w.heap.size, 1, none⟩ = some (.int .i64 32) := hA1.cell 1
  go_cut [11] (fun u w' => MadeMid w1 d sct h g xs u w')
  case first =>
    replace hI : IntsAt w1.drew v xs N := hI
    have kk : Keep (fun _ => False) w1 w1.drew := (Keep.refl _ w1).drew
    (try simp only [Act.put, List.setIfInBounds_toArray, List.set_cons_zero, List.set_cons_succ])
    refine wp_region_noPanic ?_
    refine T_region 10 (fun w' => w'.cell? ⟨w.heap.size, 0, none⟩ = some (.int .i64 sct) ∧ w'.cell? ⟨w.heap.size, 1, none⟩ = some (.int .i64 32)) (by kernel_rfl) (by kernel_rfl) (by kernel_rfl) (by decide) (by kernel_rfl) ⟨c0, c1⟩ (fun hHeld hU => ?_)
    refine T_take (i := 0) hU 12 ?_ rfl rfl (by decide) (by kernel_rfl) (by kernel_rfl) (fun _ _ _ h => h) (Or.inl ⟨by rfl, ?_⟩) hHeld ?_; rotate_left; (intro w hSw; (try dsimp only at hSw); go_simp); (try with_reducible rfl); clear hU; intro hU; (try simp only [Act.put, List.setIfInBounds_toArray, List.set_cons_zero, List.set_cons_succ])
    refine T_take (i := 1) hU 13 ?_ rfl rfl (by decide) (by kernel_rfl) (by kernel_rfl) (fun _ _ _ h => h) (Or.inl ⟨by rfl, ?_⟩) hHeld ?_; rotate_left; (intro w hSw; (try dsimp only at hSw); go_simp); (try with_reducible rfl); clear hU; intro hU; (try simp only [Act.put, List.setIfInBounds_toArray, List.set_cons_zero, List.set_cons_succ])
    refine T_take (i := 2) hU 14 ?_ rfl rfl (by decide) (by kernel_rfl) (by kernel_rfl) (fun _ _ _ h => h) (Or.inl ⟨by rfl, ?_⟩) hHeld ?_; rotate_left; (intro w hSw; (try dsimp only at hSw); go_simp); (try with_reducible rfl); clear hU; intro hU; (try simp only [Act.put, List.setIfInBounds_toArray, List.set_cons_zero, List.set_cons_succ])
    refine T_take (i := 3) hU 15 ?_ rfl rfl (by decide) (by kernel_rfl) (by kernel_rfl) (fun _ _ _ h => h) (Or.inl ⟨by rfl, ?_⟩) hHeld ?_; rotate_left; (intro w hSw; (try dsimp only at hSw); go_simp); (try with_reducible rfl); clear hU; intro hU; (try simp only [Act.put, List.setIfInBounds_toArray, List.set_cons_zero, List.set_cons_succ])
    refine T_take (i := 4) hU 16 ?_ rfl rfl (by decide) (by kernel_rfl) (by kernel_rfl) (fun _ _ _ h => h) (Or.inl ⟨by rfl, ?_⟩) hHeld ?_; rotate_left; (intro w hSw; (try dsimp only at hSw); go_simp); (try with_reducible rfl); clear hU; intro hU; (try simp only [Act.put, List.setIfInBounds_toArray, List.set_cons_zero, List.set_cons_succ])
    have hHeldS := hHeld
    refine T_ways3 (i := 5) (j := 6) (k := 7) (by kernel_rfl) (T_way (i := 5) hU rfl (by decide) (by kernel_rfl) (fun K hK => ?_)) (T_way (i := 6) hU rfl (by decide) (by kernel_rfl) (fun K hK => ?_)) (T_way (i := 7) hU rfl (by decide) (by kernel_rfl) (fun K hK => ?_))
    · clear hU hHeld
      go_simp
      go_at_call 23
      refine (clone_ok v xs N _ hI hl).mono ?_
      rintro e x1 ⟨fv, rfl, hown, hb1⟩
      obtain ⟨pf, cf, rfl⟩ := ownsRow_slice hown
      replace hown := ownsRow_lower hown kk.size
      have hk1 : Keep (fun _ => False) _ x1 := Keep.of_below hb1 _
      have hz1 := hk1.size
      replace hI := hI.keep hk1 (fun _ _ => id)
      replace kk := kk.trans hk1 (fun _ _ h => h)
      refine hK.out _ _ (⟨hk1.keepCell id hHeldS.1, hk1.keepCell id hHeldS.2⟩) (fun hHeld hU => ?_); clear hK K hHeldS; (try simp only [Act.put, List.setIfInBounds_toArray, List.set_cons_zero, List.set_cons_succ])
      have hHeldS := hHeld
      refine T_ways2 (i := 6) (j := 7) (by kernel_rfl) (T_way (i := 6) hU rfl (by decide) (by kernel_rfl) (fun K hK => ?_)) (T_way (i := 7) hU rfl (by decide) (by kernel_rfl) (fun K hK => ?_))
      · clear hU hHeld
        refine step_makeMapN rfl _ rfl 18 rfl (fun x2 n6 hge6 hlt6 hm6 hk2 => ?_)
        have hz2 := hk2.size
        replace hI := hI.keep hk2 (fun _ _ => id)
        replace hown := hk2.ownsRow hown (fun _ _ h => h)
        replace kk := kk.trans hk2 (fun _ _ h => h)
        refine hK.out _ _ (⟨hk2.keepCell id hHeldS.1, hk2.keepCell id hHeldS.2⟩) (fun hHeld hU => ?_); clear hK K hHeldS; (try simp only [Act.put, List.setIfInBounds_toArray, List.set_cons_zero, List.set_cons_succ])
        have hHeldS := hHeld
        refine T_step (i := 7) hU rfl (by decide) (by kernel_rfl) (fun K hK => ?_); clear hU hHeld
        refine step_makeMapN rfl _ rfl 19 rfl (fun x3 n7 hge7 hlt7 hm7 hk3 => ?_)
        have hz3 := hk3.size
        replace hI := hI.keep hk3 (fun _ _ => id)
        replace hown := hk3.ownsRow hown (fun _ _ h => h)
        replace hm6 := hm6.keep hk3 id
        replace kk := kk.trans hk3 (fun _ _ h => h)
        refine hK.out _ _ (⟨hk3.keepCell id hHeldS.1, hk3.keepCell id hHeldS.2⟩) (fun hHeld hU => ?_); clear hK K hHeldS; (try simp only [Act.put, List.setIfInBounds_toArray, List.set_cons_zero, List.set_cons_succ])
        refine T_take (i := 8) hU 20 ((.agg (madeCells92 d sct h g (.slice pf xs.length cf) n6 n7))) rfl rfl (by decide) (by kernel_rfl) (by kernel_rfl) (fun _ _ _ h => h) (yields_build _ _ _ _ rfl _ _ rfl _ _ (built92 d sct h g pf xs.length cf n6 n7) rfl) hHeld ?_; clear hU; intro hU; (try simp only [Act.put, List.setIfInBounds_toArray, List.set_cons_zero, List.set_cons_succ])
        have hHeldS := hHeld
        refine T_step (i := 9) hU rfl (by decide) (by kernel_rfl) (fun K hK => ?_); clear hU hHeld
        refine step_boxN rfl _ _ rfl 21 rfl (madeCells92 d sct h g (.slice pf xs.length cf) n6 n7) rfl (fun x4 n9 hge9 hlt9 hA4 hk4 => ?_)
        refine hK.out _ _ (⟨hk4.keepCell id hHeldS.1, hk4.keepCell id hHeldS.2⟩) (fun hHeld hU => ?_); clear hK K hHeldS; (try simp only [Act.put, List.setIfInBounds_toArray, List.set_cons_zero, List.set_cons_succ])
        refine T_last (N := 10) rfl (by kernel_rfl) (by kernel_rfl) (fun K hK => ?_); clear hU hHeld
        go_simp
        refine hK.out _ _ (NoPanic.normal ?_); clear hK K
        go_wp2_with fail
        go_meet
        exact ⟨n9, n6, n7, _, _, rfl, hA4, hm6.keep hk4 id, hm7.keep hk4 id, hk4.ownsRow hown (fun _ _ h => h), kk.trans hk4 (fun _ _ h => h), by have hd : w1.drew.heap.size = w1.heap.size := rfl; omega, by have hd : w1.drew.heap.size = w1.heap.size := rfl; omega, by have hd : w1.drew.heap.size = w1.heap.size := rfl; omega, by have hd : w1.drew.heap.size = w1.heap.size := rfl; omega⟩
      · clear hU hHeld
        refine step_makeMapN rfl _ rfl 19 rfl (fun x2 n7 hge7 hlt7 hm7 hk2 => ?_)
        have hz2 := hk2.size
        replace hI := hI.keep hk2 (fun _ _ => id)
        replace hown := hk2.ownsRow hown (fun _ _ h => h)
        replace kk := kk.trans hk2 (fun _ _ h => h)
        refine hK.out _ _ (⟨hk2.keepCell id hHeldS.1, hk2.keepCell id hHeldS.2⟩) (fun hHeld hU => ?_); clear hK K hHeldS; (try simp only [Act.put, List.setIfInBounds_toArray, List.set_cons_zero, List.set_cons_succ])
        have hHeldS := hHeld
        refine T_step (i := 6) hU rfl (by decide) (by kernel_rfl) (fun K hK => ?_); clear hU hHeld
        refine step_makeMapN rfl _ rfl 18 rfl (fun x3 n6 hge6 hlt6 hm6 hk3 => ?_)
        have hz3 := hk3.size
        replace hI := hI.keep hk3 (fun _ _ => id)
        replace hown := hk3.ownsRow hown (fun _ _ h => h)
        replace hm7 := hm7.keep hk3 id
        replace kk := kk.trans hk3 (fun _ _ h => h)
        refine hK.out _ _ (⟨hk3.keepCell id hHeldS.1, hk3.keepCell id hHeldS.2⟩) (fun hHeld hU => ?_); clear hK K hHeldS; (try simp only [Act.put, List.setIfInBounds_toArray, List.set_cons_zero, List.set_cons_succ])
        refine T_take (i := 8) hU 20 ((.agg (madeCells92 d sct h g (.slice pf xs.length cf) n6 n7))) rfl rfl (by decide) (by kernel_rfl) (by kernel_rfl) (fun _ _ _ h => h) (yields_build _ _ _ _ rfl _ _ rfl _ _ (built92 d sct h g pf xs.length cf n6 n7) rfl) hHeld ?_; clear hU; intro hU; (try simp only [Act.put, List.setIfInBounds_toArray, List.set_cons_zero, List.set_cons_succ])
        have hHeldS := hHeld
        refine T_step (i := 9) hU rfl (by decide) (by kernel_rfl) (fun K hK => ?_); clear hU hHeld
        refine step_boxN rfl _ _ rfl 21 rfl (madeCells92 d sct h g (.slice pf xs.length cf) n6 n7) rfl (fun x4 n9 hge9 hlt9 hA4 hk4 => ?_)
        refine hK.out _ _ (⟨hk4.keepCell id hHeldS.1, hk4.keepCell id hHeldS.2⟩) (fun hHeld hU => ?_); clear hK K hHeldS; (try simp only [Act.put, List.setIfInBounds_toArray, List.set_cons_zero, List.set_cons_succ])
        refine T_last (N := 10) rfl (by kernel_rfl) (by kernel_rfl) (fun K hK => ?_); clear hU hHeld
        go_simp
        refine hK.out _ _ (NoPanic.normal ?_); clear hK K
        go_wp2_with fail
        go_meet
        exact ⟨n9, n6, n7, _, _, rfl, hA4, hm6.keep hk4 id, hm7.keep hk4 id, hk4.ownsRow hown (fun _ _ h => h), kk.trans hk4 (fun _ _ h => h), by have hd : w1.drew.heap.size = w1.heap.size := rfl; omega, by have hd : w1.drew.heap.size = w1.heap.size := rfl; omega, by have hd : w1.drew.heap.size = w1.heap.size := rfl; omega, by have hd : w1.drew.heap.size = w1.heap.size := rfl; omega⟩
    · clear hU hHeld
      refine step_makeMapN rfl _ rfl 18 rfl (fun x1 n6 hge6 hlt6 hm6 hk1 => ?_)
      have hz1 := hk1.size
      replace hI := hI.keep hk1 (fun _ _ => id)
      replace kk := kk.trans hk1 (fun _ _ h => h)
      refine hK.out _ _ (⟨hk1.keepCell id hHeldS.1, hk1.keepCell id hHeldS.2⟩) (fun hHeld hU => ?_); clear hK K hHeldS; (try simp only [Act.put, List.setIfInBounds_toArray, List.set_cons_zero, List.set_cons_succ])
      have hHeldS := hHeld
      refine T_ways2 (i := 5) (j := 7) (by kernel_rfl) (T_way (i := 5) hU rfl (by decide) (by kernel_rfl) (fun K hK => ?_)) (T_way (i := 7) hU rfl (by decide) (by kernel_rfl) (fun K hK => ?_))
      · clear hU hHeld
        go_simp
        go_at_call 23
        refine (clone_ok v xs N _ hI hl).mono ?_
        rintro e x2 ⟨fv, rfl, hown, hb2⟩
        obtain ⟨pf, cf, rfl⟩ := ownsRow_slice hown
        replace hown := ownsRow_lower hown kk.size
        have hk2 : Keep (fun _ => False) _ x2 := Keep.of_below hb2 _
        have hz2 := hk2.size
        replace hI := hI.keep hk2 (fun _ _ => id)
        replace hm6 := hm6.keep hk2 id
        replace kk := kk.trans hk2 (fun _ _ h => h)
        refine hK.out _ _ (⟨hk2.keepCell id hHeldS.1, hk2.keepCell id hHeldS.2⟩) (fun hHeld hU => ?_); clear hK K hHeldS; (try simp only [Act.put, List.setIfInBounds_toArray, List.set_cons_zero, List.set_cons_succ])
        have hHeldS := hHeld
        refine T_step (i := 7) hU rfl (by decide) (by kernel_rfl) (fun K hK => ?_); clear hU hHeld
        refine step_makeMapN rfl _ rfl 19 rfl (fun x3 n7 hge7 hlt7 hm7 hk3 => ?_)
        have hz3 := hk3.size
        replace hI := hI.keep hk3 (fun _ _ => id)
        replace hm6 := hm6.keep hk3 id
        replace hown := hk3.ownsRow hown (fun _ _ h => h)
        replace kk := kk.trans hk3 (fun _ _ h => h)
        refine hK.out _ _ (⟨hk3.keepCell id hHeldS.1, hk3.keepCell id hHeldS.2⟩) (fun hHeld hU => ?_); clear hK K hHeldS; (try simp only [Act.put, List.setIfInBounds_toArray, List.set_cons_zero, List.set_cons_succ])
        refine T_take (i := 8) hU 20 ((.agg (madeCells92 d sct h g (.slice pf xs.length cf) n6 n7))) rfl rfl (by decide) (by kernel_rfl) (by kernel_rfl) (fun _ _ _ h => h) (yields_build _ _ _ _ rfl _ _ rfl _ _ (built92 d sct h g pf xs.length cf n6 n7) rfl) hHeld ?_; clear hU; intro hU; (try simp only [Act.put, List.setIfInBounds_toArray, List.set_cons_zero, List.set_cons_succ])
        have hHeldS := hHeld
        refine T_step (i := 9) hU rfl (by decide) (by kernel_rfl) (fun K hK => ?_); clear hU hHeld
        refine step_boxN rfl _ _ rfl 21 rfl (madeCells92 d sct h g (.slice pf xs.length cf) n6 n7) rfl (fun x4 n9 hge9 hlt9 hA4 hk4 => ?_)
        refine hK.out _ _ (⟨hk4.keepCell id hHeldS.1, hk4.keepCell id hHeldS.2⟩) (fun hHeld hU => ?_); clear hK K hHeldS; (try simp only [Act.put, List.setIfInBounds_toArray, List.set_cons_zero, List.set_cons_succ])
        refine T_last (N := 10) rfl (by kernel_rfl) (by kernel_rfl) (fun K hK => ?_); clear hU hHeld
        go_simp
        refine hK.out _ _ (NoPanic.normal ?_); clear hK K
        go_wp2_with fail
        go_meet
        exact ⟨n9, n6, n7, _, _, rfl, hA4, hm6.keep hk4 id, hm7.keep hk4 id, hk4.ownsRow hown (fun _ _ h => h), kk.trans hk4 (fun _ _ h => h), by have hd : w1.drew.heap.size = w1.heap.size := rfl; omega, by have hd : w1.drew.heap.size = w1.heap.size := rfl; omega, by have hd : w1.drew.heap.size = w1.heap.size := rfl; omega, by have hd : w1.drew.heap.size = w1.heap.size := rfl; omega⟩
      · clear hU hHeld
        refine step_makeMapN rfl _ rfl 19 rfl (fun x2 n7 hge7 hlt7 hm7 hk2 => ?_)
        have hz2 := hk2.size
        replace hI := hI.keep hk2 (fun _ _ => id)
        replace hm6 := hm6.keep hk2 id
        replace kk := kk.trans hk2 (fun _ _ h => h)
        refine hK.out _ _ (⟨hk2.keepCell id hHeldS.1, hk2.keepCell id hHeldS.2⟩) (fun hHeld hU => ?_); clear hK K hHeldS; (try simp only [Act.put, List.setIfInBounds_toArray, List.set_cons_zero, List.set_cons_succ])
        have hHeldS := hHeld
        refine T_step (i := 5) hU rfl (by decide) (by kernel_rfl) (fun K hK => ?_); clear hU hHeld
        go_simp
        go_at_call 23
        refine (clone_ok v xs N _ hI hl).mono ?_
        rintro e x3 ⟨fv, rfl, hown, hb3⟩
        obtain ⟨pf, cf, rfl⟩ := ownsRow_slice hown
        replace hown := ownsRow_lower hown kk.size
        have hk3 : Keep (fun _ => False) _ x3 := Keep.of_below hb3 _
        have hz3 := hk3.size
        replace hI := hI.keep hk3 (fun _ _ => id)
        replace hm6 := hm6.keep hk3 id
        replace hm7 := hm7.keep hk3 id
        replace kk := kk.trans hk3 (fun _ _ h => h)
        refine hK.out _ _ (⟨hk3.keepCell id hHeldS.1, hk3.keepCell id hHeldS.2⟩) (fun hHeld hU => ?_); clear hK K hHeldS; (try simp only [Act.put, List.setIfInBounds_toArray, List.set_cons_zero, List.set_cons_succ])
        refine T_take (i := 8) hU 20 ((.agg (madeCells92 d sct h g (.slice pf xs.length cf) n6 n7))) rfl rfl (by decide) (by kernel_rfl) (by kernel_rfl) (fun _ _ _ h => h) (yields_build _ _ _ _ rfl _ _ rfl _ _ (built92 d sct h g pf xs.length cf n6 n7) rfl) hHeld ?_; clear hU; intro hU; (try simp only [Act.put, List.setIfInBounds_toArray, List.set_cons_zero, List.set_cons_succ])
        have hHeldS := hHeld
        refine T_step (i := 9) hU rfl (by decide) (by kernel_rfl) (fun K hK => ?_); clear hU hHeld
        refine step_boxN rfl _ _ rfl 21 rfl (madeCells92 d sct h g (.slice pf xs.length cf) n6 n7) rfl (fun x4 n9 hge9 hlt9 hA4 hk4 => ?_)
        refine hK.out _ _ (⟨hk4.keepCell id hHeldS.1, hk4.keepCell id hHeldS.2⟩) (fun hHeld hU => ?_); clear hK K hHeldS; (try simp only [Act.put, List.setIfInBounds_toArray, List.set_cons_zero, List.set_cons_succ])
        refine T_last (N := 10) rfl (by kernel_rfl) (by kernel_rfl) (fun K hK => ?_); clear hU hHeld
        go_simp
        refine hK.out _ _ (NoPanic.normal ?_); clear hK K
        go_wp2_with fail
        go_meet
        exact ⟨n9, n6, n7, _, _, rfl, hA4, hm6.keep hk4 id, hm7.keep hk4 id, hk4.ownsRow hown (fun _ _ h => h), kk.trans hk4 (fun _ _ h => h), by have hd : w1.drew.heap.size = w1.heap.size := rfl; omega, by have hd : w1.drew.heap.size = w1.heap.size := rfl; omega, by have hd : w1.drew.heap.size = w1.heap.size := rfl; omega, by have hd : w1.drew.heap.size = w1.heap.size := rfl; omega⟩
    · clear hU hHeld
      refine step_makeMapN rfl _ rfl 19 rfl (fun x1 n7 hge7 hlt7 hm7 hk1 => ?_)
      have hz1 := hk1.size
      replace hI := hI.keep hk1 (fun _ _ => id)
      replace kk := kk.trans hk1 (fun _ _ h => h)
      refine hK.out _ _ (⟨hk1.keepCell id hHeldS.1, hk1.keepCell id hHeldS.2⟩) (fun hHeld hU => ?_); clear hK K hHeldS; (try simp only [Act.put, List.setIfInBounds_toArray, List.set_cons_zero, List.set_cons_succ])
      have hHeldS := hHeld
      refine T_ways2 (i := 5) (j := 6) (by kernel_rfl) (T_way (i := 5) hU rfl (by decide) (by kernel_rfl) (fun K hK => ?_)) (T_way (i := 6) hU rfl (by decide) (by kernel_rfl) (fun K hK => ?_))
      · clear hU hHeld
        go_simp
        go_at_call 23
        refine (clone_ok v xs N _ hI hl).mono ?_
        rintro e x2 ⟨fv, rfl, hown, hb2⟩
        obtain ⟨pf, cf, rfl⟩ := ownsRow_slice hown
        replace hown := ownsRow_lower hown kk.size
        have hk2 : Keep (fun _ => False) _ x2 := Keep.of_below hb2 _
        have hz2 := hk2.size
        replace hI := hI.keep hk2 (fun _ _ => id)
        replace hm7 := hm7.keep hk2 id
        replace kk := kk.trans hk2 (fun _ _ h => h)
        refine hK.out _ _ (⟨hk2.keepCell id hHeldS.1, hk2.keepCell id hHeldS.2⟩) (fun hHeld hU => ?_); clear hK K hHeldS; (try simp only [Act.put, List.setIfInBounds_toArray, List.set_cons_zero, List.set_cons_succ])
        have hHeldS := hHeld
        refine T_step (i := 6) hU rfl (by decide) (by kernel_rfl) (fun K hK => ?_); clear hU hHeld
        refine step_makeMapN rfl _ rfl 18 rfl (fun x3 n6 hge6 hlt6 hm6 hk3 => ?_)
        have hz3 := hk3.size
        replace hI := hI.keep hk3 (fun _ _ => id)
        replace hm7 := hm7.keep hk3 id
        replace hown := hk3.ownsRow hown (fun _ _ h => h)
        replace kk := kk.trans hk3 (fun _ _ h => h)
        refine hK.out _ _ (⟨hk3.keepCell id hHeldS.1, hk3.keepCell id hHeldS.2⟩) (fun hHeld hU => ?_); clear hK K hHeldS; (try simp only [Act.put, List.setIfInBounds_toArray, List.set_cons_zero, List.set_cons_succ])
        refine T_take (i := 8) hU 20 ((.agg (madeCells92 d sct h g (.slice pf xs.length cf) n6 n7))) rfl rfl (by decide) (by kernel_rfl) (by kernel_rfl) (fun _ _ _ h => h) (yields_build _ _ _ _ rfl _ _ rfl _ _ (built92 d sct h g pf xs.length cf n6 n7) rfl) hHeld ?_; clear hU; intro hU; (try simp only [Act.put, List.setIfInBounds_toArray, List.set_cons_zero, List.set_cons_succ])
        have hHeldS := hHeld
        refine T_step (i := 9) hU rfl (by decide) (by kernel_rfl) (fun K hK => ?_); clear hU hHeld
        refine step_boxN rfl _ _ rfl 21 rfl (madeCells92 d sct h g (.slice pf xs.length cf) n6 n7) rfl (fun x4 n9 hge9 hlt9 hA4 hk4 => ?_)
        refine hK.out _ _ (⟨hk4.keepCell id hHeldS.1, hk4.keepCell id hHeldS.2⟩) (fun hHeld hU => ?_); clear hK K hHeldS; (try simp only [Act.put, List.setIfInBounds_toArray, List.set_cons_zero, List.set_cons_succ])
        refine T_last (N := 10) rfl (by kernel_rfl) (by kernel_rfl) (fun K hK => ?_); clear hU hHeld
        go_simp
        refine hK.out _ _ (NoPanic.normal ?_); clear hK K
        go_wp2_with fail
        go_meet
        exact ⟨n9, n6, n7, _, _, rfl, hA4, hm6.keep hk4 id, hm7.keep hk4 id, hk4.ownsRow hown (fun _ _ h => h), kk.trans hk4 (fun _ _ h => h), by have hd : w1.drew.heap.size = w1.heap.size := rfl; omega, by have hd : w1.drew.heap.size = w1.heap.size := rfl; omega, by have hd : w1.drew.heap.size = w1.heap.size := rfl; omega, by have hd : w1.drew.heap.size = w1.heap.size := rfl; omega⟩
      · clear hU hHeld
        refine step_makeMapN rfl _ rfl 18 rfl (fun x2 n6 hge6 hlt6 hm6 hk2 => ?_)
        have hz2 := hk2.size
        replace hI := hI.keep hk2 (fun _ _ => id)
        replace hm7 := hm7.keep hk2 id
        replace kk := kk.trans hk2 (fun _ _ h => h)
        refine hK.out _ _ (⟨hk2.keepCell id hHeldS.1, hk2.keepCell id hHeldS.2⟩) (fun hHeld hU => ?_); clear hK K hHeldS; (try simp only [Act.put, List.setIfInBounds_toArray, List.set_cons_zero, List.set_cons_succ])
        have hHeldS := hHeld
        refine T_step (i := 5) hU rfl (by decide) (by kernel_rfl) (fun K hK => ?_); clear hU hHeld
        go_simp
        go_at_call 23
        refine (clone_ok v xs N _ hI hl).mono ?_
        rintro e x3 ⟨fv, rfl, hown, hb3⟩
        obtain ⟨pf, cf, rfl⟩ := ownsRow_slice hown
        replace hown := ownsRow_lower hown kk.size
        have hk3 : Keep (fun _ => False) _ x3 := Keep.of_below hb3 _
        have hz3 := hk3.size
        replace hI := hI.keep hk3 (fun _ _ => id)
        replace hm7 := hm7.keep hk3 id
        replace hm6 := hm6.keep hk3 id
        replace kk := kk.trans hk3 (fun _ _ h => h)
        refine hK.out _ _ (⟨hk3.keepCell id hHeldS.1, hk3.keepCell id hHeldS.2⟩) (fun hHeld hU => ?_); clear hK K hHeldS; (try simp only [Act.put, List.setIfInBounds_toArray, List.set_cons_zero, List.set_cons_succ])
        refine T_take (i := 8) hU 20 ((.agg (madeCells92 d sct h g (.slice pf xs.length cf) n6 n7))) rfl rfl (by decide) (by kernel_rfl) (by kernel_rfl) (fun _ _ _ h => h) (yields_build _ _ _ _ rfl _ _ rfl _ _ (built92 d sct h g pf xs.length cf n6 n7) rfl) hHeld ?_; clear hU; intro hU; (try simp only [Act.put, List.setIfInBounds_toArray, List.set_cons_zero, List.set_cons_succ])
        have hHeldS := hHeld
        refine T_step (i := 9) hU rfl (by decide) (by kernel_rfl) (fun K hK => ?_); clear hU hHeld
        refine step_boxN rfl _ _ rfl 21 rfl (madeCells92 d sct h g (.slice pf xs.length cf) n6 n7) rfl (fun x4 n9 hge9 hlt9 hA4 hk4 => ?_)
        refine hK.out _ _ (⟨hk4.keepCell id hHeldS.1, hk4.keepCell id hHeldS.2⟩) (fun hHeld hU => ?_); clear hK K hHeldS; (try simp only [Act.put, List.setIfInBounds_toArray, List.set_cons_zero, List.set_cons_succ])
        refine T_last (N := 10) rfl (by kernel_rfl) (by kernel_rfl) (fun K hK => ?_); clear hU hHeld
        go_simp
        refine hK.out _ _ (NoPanic.normal ?_); clear hK K
        go_wp2_with fail
        go_meet
        exact ⟨n9, n6, n7, _, _, rfl, hA4, hm6.keep hk4 id, hm7.keep hk4 id, hk4.ownsRow hown (fun _ _ h => h), kk.trans hk4 (fun _ _ h => h), by have hd : w1.drew.heap.size = w1.heap.size := rfl; omega, by have hd : w1.drew.heap.size = w1.heap.size := rfl; omega, by have hd : w1.drew.heap.size = w1.heap.size := rfl; omega, by have hd : w1.drew.heap.size = w1.heap.size := rfl; omega⟩
  case rest =>
    obtain ⟨s, b1, b2, p, c, rfl, hA, i1, i2, ho, hk, hne, hs, hb1, hb2⟩ := hcut
    have Hk := Lib.hid hk
    have I1 := Lib.hid i1
    have I2 := Lib.hid i2
    have HA := Lib.hid hA
    have Ho := Lib.hid ho
    have Hk1 := Lib.hid hk1
    have l1 := i1.lt
    have l2 := i2.lt
    have l3 := hA.lt
    clear hk i1 i2 hA ho hk1 c0 c1 hA1
    go_wp2_with (first
      | (go_at_call 59; refine (abort_ok s _ _ HA.out rfl).mono ?_; rintro e w3 ⟨rfl, hA3, j0, j1, j2, j3, j4, hk3, hz3⟩))
    go_ret
    have hz1 := Hk1.out.size
    have hzk := Hk.out.size
    refine ⟨s, ⟨d, sct, h, g, .slice p xs.length c, none, 0, 0, 0, 0, 0, b1, b2, wc.heap.size, wc.heap.size + 1, wc.heap.size + 2, wc.heap.size + 3, wc.heap.size + 4⟩, rfl, rfl, rfl, rfl, rfl, rfl, rfl, rfl, rfl, rfl, rfl, ?_, ?_⟩
    · refine ⟨hA3, ⟨ownsRow_lower (hk3.ownsRow Ho.out (fun b hb e => ?_)) (Nat.zero_le _), fun b hb => ?_⟩, I1.out.keep hk3 ?_, ⟨[], I2.out.keep hk3 ?_⟩, j0, j1, j2, j3, j4, fun r hr => (by cases hr), ?_, ?_, ?_, fun r hr => (by cases hr), fun k hk => hk.2⟩
      · exact own_ne_at Ho.out HA.out (by decide) hb e
      · have := Ho.out.lt b hb; constructor <;> omega
      · exact imap_ne_at I1.out HA.out
      · exact imap_ne_at I2.out HA.out
      · constructor <;> omega
      · refine ⟨⟨?_, ?_⟩, ⟨?_, ?_⟩, ⟨?_, ?_⟩, ⟨?_, ?_⟩, ⟨?_, ?_⟩, ⟨?_, ?_⟩, ?_, ?_⟩ <;> (dsimp only; omega)
      · refine ⟨?_, ?_, ?_, ?_, ?_, ?_, ?_, ?_, ?_, ?_, ?_, ?_, ?_, ?_, ?_, ?_, ?_, ?_⟩ <;> (dsimp only; omega)
    · have K1 : Below w.heap.size w wc := Hk1.out.below.trans (Hk.out.below.mono (by omega))
      exact K1.trans (hk3.belowOf K1.size (by intro b hb e; omega))
end Go.Proofs.YtnndkfhpifgaiaaGreat
