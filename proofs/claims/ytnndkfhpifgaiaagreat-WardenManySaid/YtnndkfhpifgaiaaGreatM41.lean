/-
  file.Found: a new store.
-/
import Derived.Test.YtnndkfhpifgaiaaGreatM40
set_option linter.unusedVariables false
set_option linter.unusedSimpArgs false
namespace Go.Proofs.YtnndkfhpifgaiaaGreat
open Go.RowKit

theorem built96r : Tryz.prog.built 96 [(0, .int .i64 1), (1, .int .i64 2), (2, .int .i64 1)] = some rootCells := by kernel_rfl
def slot1 (a b : Int) : SlotV := ⟨0, 1, 0, a, 0, b, 1, 0, 0, 0, 0, 0, 0⟩
theorem built82 (a b : Int) : Tryz.prog.built 82 [(1, .int .i64 1), (6, .int .i64 1), (3, .int .i64 a), (5, .int .i64 b)] = some (slot1 a b).cells := by kernel_rfl

theorem but_len (a : Int) (xs : List Int) (h : xs.Pairwise (· < ·)) : xs.length ≤ (but a a xs).length + 1 := by
  induction xs with
  | nil => simp
  | cons x xs ih =>
    have ih' := ih (List.pairwise_cons.1 h).2
    by_cases hx : x = a
    · subst hx
      have hall : but x x xs = xs := by
        unfold but
        rw [List.filter_eq_self]
        intro y hy
        have := (List.pairwise_cons.1 h).1 y hy
        simp; omega
      have : but x x (x :: xs) = but x x xs := by simp [but]
      rw [this, hall]; simp
    · have : but a a (x :: xs) = x :: but a a xs := by simp [but, hx]
      rw [this]; simp; omega

theorem IntsAt.keepV {F : Nat → Prop} {w w' : World} {v : Value} {xs : List Int} {N : Nat} (h : IntsAt w v xs N) (hb : Keep F w w') (hF : ∀ b, v.ownBlock = some b → ¬ F b) : IntsAt w' v xs N := by
  obtain ⟨p, c, rfl, hc, h⟩ := h
  refine ⟨p, c, rfl, hc, ?_⟩
  rcases h with h | ⟨b, off, hlt, rfl, h⟩
  · exact .inl h
  · exact .inr ⟨b, off, hlt, rfl, fun j x hj => Keep.keepCell hb (hF b rfl) (h j x hj)⟩

theorem IntsAt.drop2 {w : World} {b o c N : Nat} {xs : List Int} (h : IntsAt w (.slice (some ⟨b, o, none⟩) xs.length c) xs N) (hl : 2 < xs.length) : IntsAt w (.slice (some ⟨b, o + 2, none⟩) (xs.length - 2) (c - 2)) (xs.drop 2) N := by
  obtain ⟨b', o', c', hb, he, hc, hcell⟩ := h.cells (List.ne_nil_of_length_pos (by omega))
  simp only [Value.slice.injEq, Option.some.injEq, Addr.mk.injEq] at he
  obtain ⟨⟨rfl, rfl, _⟩, _, rfl⟩ := he
  refine ⟨_, _, by rw [List.length_drop], by rw [List.length_drop]; omega, .inr ⟨b, o + 2, hb, rfl, fun j x hj => ?_⟩⟩
  rw [List.getElem?_drop] at hj
  have := hcell (2 + j) x hj
  rwa [← Nat.add_assoc] at this

/-- What Found leaves. -/
def FndEnd (w : World) (d : Nat) (h : Int) (segs : List Int) (dn Bd : Nat) (F : Nat → Prop) (e : Ending) (w' : World) : Prop := ∃ s S l L G F' r,
  e = .returned (.tuple #[.pointer (some ⟨s, 0, none⟩), .bool true]) ∧ StoreAt w' s S segs (some r) false G ∧ S.lp = some ⟨l, 0, none⟩ ∧ LogAt w' l L ∧ S.d = d ∧ S.h = h ∧ DiskAt w' d dn (Bd + 2000) F' ∧ (∀ k, F' k → F k ∨ w.heap.size ≤ k) ∧ (∀ k, F' k → ¬ G k) ∧ ¬ F' l ∧ w.heap.size ≤ l ∧ (∀ k, G k → w.heap.size ≤ k) ∧ Keep F w w'

set_option maxRecDepth 100000 in
set_option maxHeartbeats 4000000 in
theorem found_ok (d n dn Bd : Nat) (F : Nat → Prop) (sct h g : Int) (v : Value) (segs : List Int) (N : Nat) (w : World) (hd : DiskAt w d dn Bd F) (hs : sct = 48 + 32 * n) (hn0 : 8 ≤ n) (hn1 : n ≤ 137) (hdn : (dn : Int) = sct) (hI : IntsAt w v segs N) (hIF : ∀ b, v.ownBlock = some b → ¬ F b) (hN : N ≤ w.heap.size)
    (hsg : ∀ x ∈ segs, 0 ≤ x ∧ x < n) (hl8 : 8 ≤ segs.length) (hl40 : segs.length ≤ 40) (hup : segs.Pairwise (· < ·)) (hh : 1 ≤ h ∧ h ≤ 16) (hg : 1 ≤ g ∧ g ≤ 65535) (hBd : Bd + 3000 < 1000000000) :
    Calls Tryz.prog 18 #[.pointer (some ⟨d, 0, none⟩), .agg #[.int .i64 sct, .int .i64 32], .int .i64 h, .int .i64 g, v] w (FndEnd w d h segs dn Bd F) := by
  have hu25 := Tryz.underlying25
  have Hd := Lib.hid hd
  have Hs := Lib.hid (And.intro hs hdn)
  have Hsg := Lib.hid hsg
  have Hbd := Lib.hid hBd
  have HI := Lib.hid hI
  have HIF := Lib.hid hIF
  obtain ⟨pb, po, pc, hpb, rfl, hpc, hcell⟩ := hI.cells (List.ne_nil_of_length_pos (by omega))
  have Hup := Lib.hid hup
  have Hl := Lib.hid (And.intro hl8 hl40)
  have Hh := Lib.hid (And.intro hh hg)
  have HFlt := Lib.hid hd.lt
  clear hs hsg hd hBd hdn hup hl8 hl40 hh hg hI hIF hpb hcell
  go_enter Tryz.func18, Tryz.ntmps18
  go_wp2_with (first
    | (refine wpList_boxAt rfl 25 _ rfl #[.int .i64 sct, .int .i64 32] rfl ?_; intro w1 hA hk hs; have HG1 := Lib.hid hA; have HB1 := Lib.hid hk.below; clear hA hk hs)
    | (refine wpList_load_row rfl 25 _ rfl w.heap.size rfl 25 #[.int .i64 sct, .int .i64 32] (0, 0) _ HG4.out hu25 rfl (size25 _ _) ?_)
    | (refine wpList_load_row rfl 25 _ rfl w.heap.size rfl 25 #[.int .i64 sct, .int .i64 32] (0, 0) _ HG1.out hu25 rfl (size25 _ _) ?_)
    | (go_at_call 35; refine (right_ok d dn Bd F sct n N (.slice (some ⟨pb, po, none⟩) segs.length pc) segs _ (Hd.out.below HB1.out) Hs.out.1 hn0 hn1 (HI.out.below (HB1.out.mono hN)) (Nat.le_trans hN HB1.out.size) Hsg.out Hl.out.1 (by have := Hl.out.2; omega)).mono ?_; rintro e w2 ⟨rfl, hb⟩; have HB2 := Lib.hid (HB1.out.trans (hb.mono HB1.out.size)); have HG2 := Lib.hid (Below.at hb HG1.out HG1.out.lt); clear hb)
    | (go_at_call 36; refine (wipe_ok d dn Bd F h _ (Hd.out.below HB2.out) Hh.out.1.1 Hh.out.1.2 (by have := Hs.out.1; have := Hs.out.2; omega) (by have := Hs.out.1; have := Hs.out.2; omega) (by have := Hbd.out; omega)).mono ?_; rintro e w3 ⟨rfl, hst⟩; have HSt3 := Lib.hid (Step.pre HB2.out hst); have HSt3w := Lib.hid hst; obtain ⟨F1, hd3, hF1, hk3⟩ := HSt3w.out; have Hd3 := Lib.hid hd3; have HF1 := Lib.hid hF1; have Hk3 := Lib.hid hk3; clear hd3 hF1 hk3; have HG4 := Lib.hid (hst.keep.at HG2.out (fun e => by have := HFlt.out _ e; omega)); clear hst)
    | (go_at_call 37; refine (made_ok d sct h g (.slice (some ⟨pb, po, none⟩) segs.length pc) segs N _ ((HI.out.below (HB2.out.mono hN)).keepV HSt3w.out.keep HIF.out) (Nat.le_trans hN HSt3.out.keep.size) (by have := Hl.out.2; omega)).mono ?_; rintro e w4 ⟨s, S, rfl, e1, e2, e3, e4, e5, e6, e7, e8, e9, e10, hst, hb⟩; have HS4 := Lib.hid hst; have HB4 := Lib.hid hb; have He := Lib.hid (And.intro e1 (And.intro e2 (And.intro e3 (And.intro e4 (And.intro e6 (And.intro e7 (And.intro e8 (And.intro e9 e10)))))))); have HG5 := Lib.hid (Below.at hb HG4.out HG4.out.lt); have hd4 : DiskAt w4 S.d dn (Bd + 2) F1 := by (rw [e1]; exact Hd3.out.below hb)
       have HD4 := Lib.hid hd4; clear hst hb e1 e2 e3 e4 e5 e6 e7 e8 e9 e10 hd4)
    )
  have hF1lt : ∀ k, F1 k → k < w3.heap.size := Hd3.out.lt
  have hFG4 : ∀ k, F1 k → ¬ (w3.heap.size ≤ k ∧ k < w4.heap.size) := fun k hf hg => by have := hF1lt k hf; omega
  have HFG4 := Lib.hid hFG4
  have Hz3 := Lib.hid (And.intro HB2.out.size (And.intro HG2.out.lt (And.intro Hk3.out.size HB4.out.size)))
  refine (clear_ok s S segs none false _ n dn (Bd + 2) F1 _ HS4.out (by rw [He.out.2.1]; exact Hs.out.1) hn0 hn1 (by rw [He.out.2.1]; exact Hs.out.2) Hsg.out Hl.out.2 (by rw [He.out.2.2.1]; exact Hh.out.1) HD4.out hFG4 (by have := Hbd.out; omega)).mono ?_
  rintro e w5 ⟨rfl, hst5⟩
  obtain ⟨F2, hd5, hF2, hk5⟩ := hst5
  have hFG5 : ∀ k, F2 k → ¬ (w3.heap.size ≤ k ∧ k < w4.heap.size) := fun k hf hg => by
    rcases hF2 k hf with e | e
    · exact hFG4 k e hg
    · omega
  have HFG5 := Lib.hid hFG5
  have HS5 := Lib.hid (HS4.out.keep hk5 (fun k hg hf => hFG4 k hf hg))
  have HD5 := Lib.hid hd5
  have HF2 := Lib.hid hF2
  have Hk5 := Lib.hid hk5
  have hG5 := hk5.at HG5.out (fun e => by
    rcases HF1.out _ e with e | e
    · have := HFlt.out _ e; omega
    · have := Hz3.out; omega)
  have hpbF : ¬ F1 pb := fun e => by
    rcases HF1.out _ e with e | e
    · exact HIF.out pb rfl e
    · obtain ⟨b', o', c', hb', he', _⟩ := HI.out.cells (List.ne_nil_of_length_pos (by have := Hl.out; omega))
      simp only [Value.slice.injEq, Option.some.injEq, Addr.mk.injEq] at he'
      obtain ⟨⟨rfl, _, _⟩, _⟩ := he'
      have := Hz3.out; omega
  have HI5 := Lib.hid (((HI.out.below (HB2.out.mono hN)).keepV Hk3.out HIF.out |>.below (HB4.out.mono (by have := Hz3.out; omega))).keepV hk5 (fun b hb => by simp only [Value.ownBlock, Option.some.injEq] at hb; subst hb; exact hpbF))
  have HG5' := Lib.hid hG5
  obtain ⟨a0, ha0⟩ : ∃ x, segs[0]? = some x := ⟨_, List.getElem?_eq_getElem (by have := Hl.out; omega)⟩
  obtain ⟨a1, ha1⟩ : ∃ x, segs[1]? = some x := ⟨_, List.getElem?_eq_getElem (by have := Hl.out; omega)⟩
  obtain ⟨b', o', c', hb', he', _, hcell⟩ := HI5.out.cells (List.ne_nil_of_length_pos (by have := Hl.out; omega))
  simp only [Value.slice.injEq, Option.some.injEq, Addr.mk.injEq] at he'
  obtain ⟨⟨rfl, rfl, _⟩, _, rfl⟩ := he'
  have y0 : w5.cell? ⟨pb, po, none⟩ = some (.int .i64 a0) := hcell 0 a0 ha0
  have y1 : w5.cell? ⟨pb, po + 1, none⟩ = some (.int .i64 a1) := hcell 1 a1 ha1
  have Ha := Lib.hid (And.intro (Hsg.out a0 (List.mem_of_getElem? ha0)) (Hsg.out a1 (List.mem_of_getElem? ha1)))
  clear HB1 HG1 HG2 HG4 HG5 HSt3 HSt3w hd5 hF2 hk5 hG5 hFG4 hFG5 hpbF hcell hb' ha0 ha1 HD4 hF1lt
  have rg : w5.rangeAt w.heap.size 0 [.int .i64 sct, .int .i64 32] := HG5'.out.range 0 2
  have i0 : (0 : Int) < segs.length := by have := Hl.out; omega
  have i1 : (1 : Int) < segs.length := by have := Hl.out; omega
  have i2 : (2 : Int) ≤ segs.length := by have := Hl.out; omega
  have i3 : segs.length ≤ pc := hpc
  have j0 : 0 < segs.length := by omega
  have j1 : 1 < segs.length := by omega
  have j2 : 2 ≤ segs.length := by omega
  have j3 : ¬ pc = 2 := by have := Hl.out; omega
  go_wp2
  (try simp only [Act.put, List.setIfInBounds_toArray, List.set_cons_zero, List.set_cons_succ])
  refine wp_region_noPanic ?_
  refine T_region 17 (fun w' => w'.rangeAt w.heap.size 0 [.int .i64 sct, .int .i64 32] ∧ w'.cell? ⟨pb, po, none⟩ = some (.int .i64 a0) ∧ w'.cell? ⟨pb, po + 1, none⟩ = some (.int .i64 a1)) (by kernel_rfl) (by kernel_rfl) (by kernel_rfl) (by decide) (by kernel_rfl) ⟨rg, y0, y1⟩ (fun hHeld hU => ?_)
  refine T_take (i := 0) hU 34 ?_ rfl rfl (by decide) (by kernel_rfl) (by kernel_rfl) (fun _ _ _ h => h) (Or.inl ⟨by rfl, ?_⟩) hHeld ?_; rotate_left; (intro w hSw; (try dsimp only at hSw); go_simp); (try with_reducible rfl); clear hU; intro hU; (try simp only [Act.put, List.setIfInBounds_toArray, List.set_cons_zero, List.set_cons_succ])
  refine T_take (i := 1) hU 35 ?_ rfl rfl (by decide) (by kernel_rfl) (by kernel_rfl) (fun _ _ _ h => h) (Or.inl ⟨by rfl, ?_⟩) hHeld ?_; rotate_left; (intro w hSw; (try dsimp only at hSw); go_simp); (try with_reducible rfl); clear hU; intro hU; (try simp only [Act.put, List.setIfInBounds_toArray, List.set_cons_zero, List.set_cons_succ])
  refine T_take (i := 2) hU 36 (.agg #[.int .i64 sct, .int .i64 32]) rfl rfl (by decide) (by kernel_rfl) (by kernel_rfl) (fun _ _ _ h => h) (yields_load _ _ _ _ rfl _ _ rfl w.heap.size 0 rfl _ _ hu25 rfl (size25 _ _) (fun _ h => h.1)) hHeld ?_; clear hU; intro hU; (try simp only [Act.put, List.setIfInBounds_toArray, List.set_cons_zero, List.set_cons_succ])
  refine T_take (i := 3) hU 37 ?_ rfl rfl (by decide) (by kernel_rfl) (by kernel_rfl) (fun _ _ _ h => h) (Or.inl ⟨by rfl, ?_⟩) hHeld ?_; rotate_left; (intro w hSw; (try dsimp only at hSw); go_simp); (try with_reducible rfl); clear hU; intro hU; (try simp only [Act.put, List.setIfInBounds_toArray, List.set_cons_zero, List.set_cons_succ])
  refine T_take (i := 4) hU 38 ?_ rfl rfl (by decide) (by kernel_rfl) (by kernel_rfl) (fun _ _ _ h => h) (Or.inl ⟨by rfl, ?_⟩) hHeld ?_; rotate_left; (intro w hSw; (try dsimp only at hSw); go_simp); (try with_reducible rfl); clear hU; intro hU; (try simp only [Act.put, List.setIfInBounds_toArray, List.set_cons_zero, List.set_cons_succ])
  refine T_take (i := 5) hU 39 ?_ rfl rfl (by decide) (by kernel_rfl) (by kernel_rfl) (fun _ _ _ h => h) (Or.inl ⟨by rfl, ?_⟩) hHeld ?_; rotate_left; (intro w hSw; (try dsimp only at hSw); go_simp); (try with_reducible rfl); clear hU; intro hU; (try simp only [Act.put, List.setIfInBounds_toArray, List.set_cons_zero, List.set_cons_succ])
  refine T_take (i := 6) hU 40 ?_ rfl rfl (by decide) (by kernel_rfl) (by kernel_rfl) (fun _ _ _ h => h) (Or.inl ⟨by rfl, ?_⟩) hHeld ?_; rotate_left; (intro w hSw; (try dsimp only at hSw); go_simp); (try with_reducible rfl); clear hU; intro hU; (try simp only [Act.put, List.setIfInBounds_toArray, List.set_cons_zero, List.set_cons_succ])
  refine T_take (i := 7) hU 41 ?_ rfl rfl (by decide) (by kernel_rfl) (by kernel_rfl) (fun _ _ _ h => h) (Or.inl ⟨by rfl, ?_⟩) hHeld ?_; rotate_left; (intro w hSw; (try dsimp only at hSw); go_simp); (try with_reducible rfl); clear hU; intro hU; (try simp only [Act.put, List.setIfInBounds_toArray, List.set_cons_zero, List.set_cons_succ])
  refine T_take (i := 8) hU 42 ?_ rfl rfl (by decide) (by kernel_rfl) (by kernel_rfl) (fun _ _ _ h => h) (Or.inl ⟨by rfl, ?_⟩) hHeld ?_; rotate_left; (intro w hSw; (try dsimp only at hSw); go_simp); (try with_reducible rfl); clear hU; intro hU; (try simp only [Act.put, List.setIfInBounds_toArray, List.set_cons_zero, List.set_cons_succ])
  refine T_take (i := 9) hU 43 ?_ rfl rfl (by decide) (by kernel_rfl) (by kernel_rfl) (fun _ _ _ h => h) (Or.inl ⟨by rfl, ?_⟩) hHeld ?_; rotate_left; (intro w hSw; (try dsimp only at hSw); go_simp); (try with_reducible rfl); clear hU; intro hU; (try simp only [Act.put, List.setIfInBounds_toArray, List.set_cons_zero, List.set_cons_succ])
  refine T_take (i := 10) hU 44 ?_ rfl rfl (by decide) (by kernel_rfl) (by kernel_rfl) (fun _ _ _ h => h) (Or.inl ⟨by rfl, ?_⟩) hHeld ?_; rotate_left; (intro w hSw; (try dsimp only at hSw); go_simp); (try with_reducible rfl); clear hU; intro hU; (try simp only [Act.put, List.setIfInBounds_toArray, List.set_cons_zero, List.set_cons_succ])
  refine T_take (i := 11) hU 45 (.agg (slot1 a0 a1).cells) rfl rfl (by decide) (by kernel_rfl) (by kernel_rfl) (fun _ _ _ h => h) (yields_build _ _ _ _ rfl _ _ rfl _ _ (built82 a0 a1) rfl) hHeld ?_; clear hU; intro hU; (try simp only [Act.put, List.setIfInBounds_toArray, List.set_cons_zero, List.set_cons_succ])
  refine T_take (i := 12) hU 46 ?_ rfl rfl (by decide) (by kernel_rfl) (by kernel_rfl) (fun _ _ _ h => h) (Or.inl ⟨by rfl, ?_⟩) hHeld ?_; rotate_left; (intro w hSw; (try dsimp only at hSw); go_simp); (try with_reducible rfl); clear hU; intro hU; (try simp only [Act.put, List.setIfInBounds_toArray, List.set_cons_zero, List.set_cons_succ])
  refine T_take (i := 13) hU 47 ?_ rfl rfl (by decide) (by kernel_rfl) (by kernel_rfl) (fun _ _ _ h => h) (Or.inl ⟨by rfl, ?_⟩) hHeld ?_; rotate_left; (intro w hSw; (try dsimp only at hSw); go_simp); (try with_reducible rfl); clear hU; intro hU; (try simp only [Act.put, List.setIfInBounds_toArray, List.set_cons_zero, List.set_cons_succ])
  have hHeld14 := hHeld
  refine T_step (i := 14) hU rfl (by decide) (by kernel_rfl) (fun K hK => ?_); clear hU hHeld
  go_simp
  go_at_call 39
  refine (lnew_ok ⟨d, sct, h, g, slot1 a0 a1, .slice none 0 0⟩ (.slice (some ⟨pb, po + 2, none⟩) (segs.length - 2) (pc - 2)) (segs.drop 2) N w5.drew (show IntsAt w5 _ _ _ from HI5.out.drop2 (by have := Hl.out; omega)) (by have := Hz3.out; have := Hk5.out.size; show N ≤ w5.heap.size; omega) (by have := Hl.out; rw [List.length_drop]; omega)).mono ?_
  rintro e w6 ⟨l, fv, rfl, hl6, hL6, hrow6, hb6⟩
  refine hK.out _ _ (⟨Below.keepRange hb6 hHeld14.1, Below.keepCell hb6 hHeld14.2.1, Below.keepCell hb6 hHeld14.2.2⟩) (fun hHeld hU => ?_); clear hK K; (try simp only [Act.put, List.setIfInBounds_toArray, List.set_cons_zero, List.set_cons_succ])
  refine T_take (i := 15) hU 49 ?_ rfl rfl (by decide) (by kernel_rfl) (by kernel_rfl) (fun _ _ _ h => h) (Or.inl ⟨by rfl, ?_⟩) hHeld ?_; rotate_left; (intro w hSw; (try dsimp only at hSw); go_simp); (try with_reducible rfl); clear hU; intro hU; (try simp only [Act.put, List.setIfInBounds_toArray, List.set_cons_zero, List.set_cons_succ])
  refine T_take (i := 16) hU 50 ?_ rfl rfl (by decide) (by kernel_rfl) (by kernel_rfl) (fun _ _ _ h => h) (Or.inl ⟨by rfl, ?_⟩) hHeld ?_; rotate_left; (intro w hSw; (try dsimp only at hSw); go_simp); (try with_reducible rfl); clear hU; intro hU; (try simp only [Act.put, List.setIfInBounds_toArray, List.set_cons_zero, List.set_cons_succ])
  refine T_last (N := 17) rfl (by kernel_rfl) (by kernel_rfl) (fun K hK => ?_); clear hU hHeld
  refine step_storeCell rfl 78 _ _ rfl rfl s 6 (.pointer (some ⟨l, 0, none⟩)) S.cells 92 (by with_unfolding_all exact rfl) (by with_unfolding_all exact rfl) (Below.at hb6 (show At w5.drew s S.cells 92 from HS5.out.cells) HS5.out.cells.lt) (show 6 < 19 by omega) size78 rfl rfl (fun w7 hA7 hk7 hs7 => ?_)
  refine hK.out _ _ (NoPanic.normal ?_); clear hK K
  have b56 : Below w5.heap.size w5 w6 := (World.drew_below0 w5).trans hb6
  have hl5 : w5.heap.size ≤ l := hl6
  have hsG : (w3.heap.size ≤ s ∧ s < w4.heap.size) := HS5.out.gs
  have hls : ¬ (l = s) := fun e => by have := HS5.out.cells.lt; omega
  have HS7 := Lib.hid ((HS5.out.below b56).withLog (lp := some ⟨l, 0, none⟩) hA7 hk7)
  have HL7 := Lib.hid (hk7.at hL6 hls)
  have HR7 := Lib.hid (hk7.ownsRow hrow6 (fun b hb e => own_ne_at hrow6 (Below.at b56 HS5.out.cells HS5.out.cells.lt) (by decide) hb e))
  have HD7 := Lib.hid ((HD5.out.below b56).kept hk7 (fun k hf e => HFG5.out k hf (e ▸ hsG)))
  have Hb56 := Lib.hid b56
  have Hk7 := Lib.hid hk7
  have Hls := Lib.hid (And.intro hl5 (And.intro hls hL6.lt))
  obtain ⟨pf, cf, rfl⟩ := ownsRow_slice hrow6
  clear b56 hl5 hls hA7 hk7 hs7 hL6 hrow6 hb6 hl6 rg y0 y1 i0 i1 i2 i3 j0 j1 j2 j3 hHeld14
  go_wp2_with (first
    | (refine wpList_buildL rfl 96 _ rfl _ _ built96r rfl ?_)
    | (go_at_call 40; refine (setnode_ok s _ segs _ w7 HS7.out).mono ?_; rintro e w8 ⟨rfl, hS8, hk8⟩; have HS8 := Lib.hid hS8; have Hk8 := Lib.hid hk8; clear hS8 hk8))
  have hgb := HS7.out.gb
  have nlm : ¬ (l = S.mnodes ∨ l = S.mturn) := fun e => by
    have h1 := hgb.2.2.2.2.1
    have h2 := hgb.2.2.2.2.2.1
    have := Hls.out.1
    have := Hk5.out.size
    rcases e with e | e
    · have : S.mnodes < w4.heap.size := h1.2; omega
    · have : S.mturn < w4.heap.size := h2.2; omega
  have HL8 := Lib.hid (Hk8.out.at HL7.out nlm)
  have HR8 := Lib.hid (Hk8.out.ownsRow HR7.out (fun b hb e => e.elim (fun e => imap_ne_own (e ▸ HS7.out.nodes) HR7.out hb) (fun e => imap_ne_own (e ▸ HS7.out.turn) HR7.out hb)))
  have HD8 := Lib.hid (HD7.out.kept Hk8.out (fun k hf e => e.elim (fun e => HFG5.out k hf (e ▸ hgb.2.2.2.2.1)) (fun e => HFG5.out k hf (e ▸ hgb.2.2.2.2.2.1))))
  have hFlt5 : ∀ k, F2 k → k < w5.heap.size := HD5.out.lt
  have hdl : (segs.drop 2).length = segs.length - 2 := List.length_drop
  have HE : CmEnv w8 s { S with lp := some ⟨l, 0, none⟩ } segs (fun k => w3.heap.size ≤ k ∧ k < w4.heap.size) l ⟨d, sct, h, g, slot1 a0 a1, .slice pf (segs.drop 2).length cf⟩ (segs.drop 2) n dn (Bd + 2 + 32 * segs.length) F2 := {
    st := HS8.out
    lg := ⟨HL8.out, rfl, IntsAt.of_own HR8.out rfl, by rw [hdl]; have := Hl.out; omega⟩
    dk := by rw [← He.out.1]; exact HD8.out
    d := He.out.1
    num := ⟨by rw [show ({ S with lp := some ⟨l, 0, none⟩ } : StoreV).sct = S.sct from rfl, He.out.2.1]; exact Hs.out.1, hn0, hn1, He.out.2.1.symm, by rw [show ({ S with lp := some ⟨l, 0, none⟩ } : StoreV).sct = S.sct from rfl, He.out.2.1]; exact Hs.out.2, Ha.out.1, by simp [slot1], Hh.out.1, Hh.out.2, by simp [slot1], by simp [slot1], by have := Ha.out.2; simp only [slot1]; omega⟩
    FG := HFG5.out
    Fl := fun hf => by have := hFlt5 l hf; have := Hls.out.1; omega
    Gl := fun hg => by have := Hls.out.1; have := Hk5.out.size; omega
    bd := by have := Hbd.out; have := Hl.out; omega
    fs := by rw [hdl]; have := Hl.out; omega
    segs8 := Hl.out.1
    segs40 := Hl.out.2
    room := by have := but_len a0 segs Hup.out; have := Hl.out; show 4 + segs.length / 8 ≤ (but a0 a0 segs).length; omega }
  have HE' := Lib.hid HE
  clear HE hgb nlm
  refine (commit_ok s _ segs _ l _ (segs.drop 2) n dn _ F2 0 0 0 w8 HE'.out (by decide) (by decide) (by decide)).mono ?_
  rintro e w9 ⟨rfl, m, r, G2, F3, hS9, hr0, hr1, hL9, hd9, hFG9, hFl9, hGl9, hF9, hG9, hk9⟩
  have HE9 := HE'.out
  have Hcp := Lib.hid (checkpoint_ok s _ segs r G2 l _ n dn (Bd + 2 + 32 * segs.length + 2) F3 w9 hS9 ⟨HE9.num.sct, HE9.num.lo, HE9.num.hi, fun r' h' => by obtain rfl := Option.some.inj h'; exact ⟨hr0, hr1⟩⟩ hL9 rfl (by rw [show (StoreV.fresh { S with lp := some ⟨l, 0, none⟩ } m).d = d from He.out.1]; exact hd9)
    ⟨He.out.2.2.2.2.2.1, He.out.2.2.2.2.2.2.1, He.out.2.2.2.2.2.2.2.1, He.out.2.2.2.2.2.2.2.2⟩ ⟨HE9.num.sct, hn0, hn1, HE9.num.lsct, HE9.num.dn, Ha.out.1, by simp [LogV.on, slot1], Hh.out.1, Hh.out.2, by simp [LogV.on, slot1], by simp [LogV.on, slot1], by have := Ha.out.2; simp only [LogV.on, slot1]; omega⟩
    He.out.1.symm ⟨He.out.2.2.1.symm, He.out.2.2.2.1.symm⟩ He.out.2.2.2.2.1 (by simp [LogV.on]) (by simp [LogV.on, slot1]) ⟨_, _, _, rfl⟩ hFG9 hFl9 hGl9 (by have := Hbd.out; have := Hl.out; omega) Hl.out.2 (by have := Hl.out; omega))
  clear HE9
  go_wp2_with (first
    | (go_at_call 42; refine Hcp.out.mono ?_; rintro e w10 ⟨rfl, S', l', L', F4, hS10, hlp10, hL10, hd10, hh10, hD10, hF10, hFG10, hFl10, hl10, hk10⟩))
  go_ret2
  have z3 := Hz3.out
  have z5 := Hk5.out.size
  have z56 := Hb56.out.size
  have z7 := Hk7.out.size
  have z8 := Hk8.out.size
  have z9 := hk9.size
  have lF2 : ∀ k, F2 k → F k ∨ w.heap.size ≤ k := fun k hf => by
    rcases HF2.out k hf with e | e
    · rcases HF1.out k e with e | e
      · exact .inl e
      · exact .inr (by omega)
    · exact .inr (by omega)
  have lF3 : ∀ k, F3 k → F k ∨ w.heap.size ≤ k := fun k hf => (hF9 k hf).elim (lF2 k) (fun e => .inr (by omega))
  have lG2 : ∀ k, G2 k → w.heap.size ≤ k := fun k hg => (hG9 k hg).elim (fun e => by omega) (fun e => by omega)
  refine ⟨s, S', l', L', G2, F4, r, rfl, hS10, hlp10, hL10, by rw [hd10]; exact He.out.1, by rw [hh10]; exact He.out.2.2.1, ?_, fun k hf => (hF10 k hf).elim (lF3 k) (fun e => .inr (by omega)), hFG10, hFl10, by omega, lG2, ?_⟩
  · have h1 : DiskAt w10 d dn (Bd + 2 + 32 * segs.length + 2 + 10) F4 := by rw [show (StoreV.fresh { S with lp := some ⟨l, 0, none⟩ } m).d = d from He.out.1] at hD10; exact hD10
    exact h1.mono (by have := Hl.out; omega)
  · have lF1 : ∀ k, k < w.heap.size → F1 k → F k := fun k hk hf => (HF1.out k hf).elim id (fun e => by omega)
    have k3 : Keep F w w3 := (Keep.of_below HB2.out F).trans Hk3.out (fun _ _ h => h)
    have k4 : Keep F w w4 := k3.trans (Keep.of_below HB4.out (fun _ => False)) (fun _ _ h => h.elim)
    have k5 : Keep F w w5 := k4.trans Hk5.out (fun k hk hf => lF1 k hk hf)
    have k6 : Keep F w w6 := k5.trans (Keep.of_below Hb56.out (fun _ => False)) (fun _ _ h => h.elim)
    have k7 : Keep F w w7 := k6.trans Hk7.out (fun k hk e => by omega)
    have k8 : Keep F w w8 := k7.trans Hk8.out (fun k hk e => by
      have h1 := HS7.out.gb.2.2.2.2.1
      have h2 := HS7.out.gb.2.2.2.2.2.1
      rcases e with e | e
      · have : w3.heap.size ≤ S.mnodes := h1.1; exact absurd e (by show ¬ k = S.mnodes; omega)
      · have : w3.heap.size ≤ S.mturn := h2.1; exact absurd e (by show ¬ k = S.mturn; omega))
    have k9 : Keep F w w9 := k8.trans hk9 (fun k hk e => by
      rcases e with e | e | e
      · exact (lF2 k e).elim id (fun e => by omega)
      · omega
      · have := Hls.out.1; omega)
    exact k9.trans hk10 (fun k hk e => by
      rcases e with e | e | e
      · exact (lF3 k e).elim id (fun e => by omega)
      · have := lG2 k e; omega
      · have := Hls.out.1; omega)
end Go.Proofs.YtnndkfhpifgaiaaGreat
