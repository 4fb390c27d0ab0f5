/-
  house.New: over a store with its root alone.
-/
import Derived.Test.YtnndkfhpifgaiaaGreatM37
set_option linter.unusedVariables false
set_option linter.unusedSimpArgs false
namespace Go.Proofs.YtnndkfhpifgaiaaGreat
open Go.RowKit

/-- Bounds, wide. -/
def limV (k : Int) : Array Value := #[.int .i64 k, .int .i64 100000, .int .i64 100000, .int .i64 255, .int .i64 255, .int .i64 5, .int .i64 200]
theorem size32 (k : Int) : (Tryz.prog.info? 32).map (·.size) = some (limV k).toList.length := by kernel_rfl
def houseCells (s : Nat) (sct k : Int) (c q : Nat) (segs clock a b e f : Int) : Array Value := #[.pointer (some ⟨s, 0, none⟩), .int .i64 sct, .int .i64 32, .int .i64 k, .int .i64 100000, .int .i64 100000, .int .i64 255, .int .i64 255, .int .i64 5, .int .i64 200, .pointer (some ⟨c, 0, none⟩), .pointer (some ⟨q, 0, none⟩), .int .i64 segs, .int .i64 clock, .int .i64 a, .int .i64 b, .int .i64 e, .int .i64 f, .int .i64 0]
theorem built107 (s : Nat) (sct k : Int) (c q : Nat) (segs clock : Int) : Tryz.prog.built 107 [(0, .pointer (some ⟨s, 0, none⟩)), (1, .agg #[.int .i64 sct, .int .i64 32]), (2, .agg (limV k)), (3, .pointer (some ⟨c, 0, none⟩)), (4, .pointer (some ⟨q, 0, none⟩)), (5, .int .i64 segs), (6, .int .i64 clock)] = some (houseCells s sct k c q segs clock 0 0 0 0) := by kernel_rfl
theorem built105 (a b e f : Int) : Tryz.prog.built 105 [(0, .int .i64 a), (1, .int .i64 b), (2, .int .i64 e), (3, .int .i64 f)] = some #[.int .i64 a, .int .i64 b, .int .i64 e, .int .i64 f] := by kernel_rfl
theorem size105 (a b e f : Value) : (Tryz.prog.info? 105).map (·.size) = some (#[a, b, e, f] : Array Value).size := by kernel_rfl

set_option maxRecDepth 100000 in
set_option maxHeartbeats 4000000 in
theorem hnew_ok (s : Nat) (S : StoreV) (segs : List Int) (R : Option RootV) (now : Bool) (G : Nat → Prop) (l : Nat) (L : LogV) (sct k hh gg : Int) (v : Value) (xs : List Int) (N : Nat) (w : World) (h : StoreAt w s S segs R now G) (hr : HasRoot R now) (hL : LogAt w l L) (hlp : S.lp = some ⟨l, 0, none⟩)
    (hI : IntsAt w v xs N) (hN : N ≤ w.heap.size) (hl : xs.length ≤ 1000) :
    Calls Tryz.prog 21 #[.pointer (some ⟨s, 0, none⟩), .agg #[.int .i64 sct, .int .i64 32], .int .i64 hh, .int .i64 gg, .agg (limV k), v] w fun e w' => (∃ b, e = .returned (.pointer (some ⟨b, 0, none⟩))) ∧ Below w.heap.size w w' := by
  have hu25 := Tryz.underlying25
  have hu32 := Tryz.underlying32
  have HS := Lib.hid h
  have HL := Lib.hid hL
  have HI := Lib.hid hI
  obtain ⟨pv, cv, hv⟩ := hI.slice
  subst hv
  clear h hL hI
  go_enter Tryz.func21, Tryz.ntmps21
  go_wp2_with (first
    | (refine wpList_boxAt rfl 25 _ rfl #[.int .i64 sct, .int .i64 32] rfl ?_; intro w1 hA hk hs; have HG1 := Lib.hid hA; have HB1 := Lib.hid hk.below; clear hA hk hs)
    | (refine wpList_boxAt rfl 32 _ rfl (limV k) rfl ?_; intro w2 hA hk hs; have HM2 := Lib.hid hA; have HG2 := Lib.hid (hk.at HG1.out id); have HB2 := Lib.hid (HB1.out.trans (hk.below.mono HB1.out.size)); have Hw1 := Lib.hid HG1.out.lt; clear hA hk hs HG1)
    | (go_at_call 45; refine (slot_ok s S l L _ (Below.at HB2.out HS.out.cells HS.out.cells.lt) (Below.at HB2.out HL.out HL.out.lt) hlp).mono ?_; rintro e w3 ⟨rfl, hb⟩; have HM3 := Lib.hid (Below.at hb HM2.out HM2.out.lt); have HG3 := Lib.hid (Below.at hb HG2.out HG2.out.lt); have HB3 := Lib.hid (HB2.out.trans (hb.mono HB2.out.size)); clear hb)
    | (refine wpList_allocAt rfl 82 rfl zSlot zero82 ?_; intro w4 hz hk hs; have HY4 := Lib.hid hz; have Hk4 := Lib.hid hk; have Hs4 := Lib.hid hs; clear hz hk hs)
    | (refine wpList_storeRow rfl 82 _ _ rfl rfl w3.heap.size (L.x.to S.num S.m0 S.m1 S.m2 S.m3).cells zSlot _ rfl rfl HY4.out rfl (size82 _) (one82 _) ?_; intro w5 hA hk hs; have b35 : Below w3.heap.size w3 w5 := Hk4.out.below.trans (hk.belowOf (by have := Hs4.out; omega) (by intro b hb e; omega)); have HX5 := Lib.hid hA; have HM5 := Lib.hid (Below.at b35 HM3.out HM3.out.lt); have HG5 := Lib.hid (Below.at b35 HG3.out HG3.out.lt); have HB5 := Lib.hid (HB3.out.trans (b35.mono HB3.out.size)); clear hA hk hs b35))
  have rg : w5.rangeAt w.heap.size 0 [.int .i64 sct, .int .i64 32] := HG5.out.range 0 2
  have rm : w5.rangeAt w1.heap.size 0 (limV k).toList := HM5.out.range 0 7
  have m6 : w5.cell? ⟨w1.heap.size, 6, none⟩ = some (.int .i64 200) := HM5.out.cell 6
  have x1 : w5.cell? ⟨w3.heap.size, 1, none⟩ = some (.int .i64 L.x.life) := HX5.out.cell 1
  have x2 : w5.cell? ⟨w3.heap.size, 2, none⟩ = some (.int .i64 L.x.clock) := HX5.out.cell 2
  have hi32 := size32 k
  (try simp only [Act.put, List.setIfInBounds_toArray, List.set_cons_zero, List.set_cons_succ])
  refine wp_region_noPanic ?_
  refine T_region 20 (fun w' => w'.rangeAt w.heap.size 0 [.int .i64 sct, .int .i64 32] ∧ w'.rangeAt w1.heap.size 0 (limV k).toList ∧ w'.cell? ⟨w1.heap.size, 6, none⟩ = some (.int .i64 200) ∧ w'.cell? ⟨w3.heap.size, 1, none⟩ = some (.int .i64 L.x.life) ∧ w'.cell? ⟨w3.heap.size, 2, none⟩ = some (.int .i64 L.x.clock)) (by kernel_rfl) (by kernel_rfl) (by kernel_rfl) (by decide) (by kernel_rfl) ⟨rg, rm, m6, x1, x2⟩ (fun hHeld hU => ?_)
  refine T_take (i := 0) hU 23 ?_ rfl rfl (by decide) (by kernel_rfl) (by kernel_rfl) (fun _ _ _ h => h) (Or.inl ⟨by rfl, ?_⟩) hHeld ?_; rotate_left; (intro w hSw; (try dsimp only at hSw); go_simp); (try with_reducible rfl); clear hU; intro hU; (try simp only [Act.put, List.setIfInBounds_toArray, List.set_cons_zero, List.set_cons_succ])
  refine T_take (i := 1) hU 24 (.agg #[.int .i64 sct, .int .i64 32]) rfl rfl (by decide) (by kernel_rfl) (by kernel_rfl) (fun _ _ _ h => h) (yields_load _ _ _ _ rfl _ _ rfl w.heap.size 0 rfl _ _ hu25 rfl (size25 _ _) (fun _ h => h.1)) hHeld ?_; clear hU; intro hU; (try simp only [Act.put, List.setIfInBounds_toArray, List.set_cons_zero, List.set_cons_succ])
  refine T_take (i := 2) hU 25 (.agg (limV k)) rfl rfl (by decide) (by kernel_rfl) (by kernel_rfl) (fun _ _ _ h => h) (yields_load _ _ _ _ rfl _ _ rfl w1.heap.size 0 rfl _ _ hu32 rfl hi32 (fun _ h => h.2.1)) hHeld ?_; clear hU; intro hU; (try simp only [Act.put, List.setIfInBounds_toArray, List.set_cons_zero, List.set_cons_succ])
  refine T_take (i := 3) hU 26 ?_ rfl rfl (by decide) (by kernel_rfl) (by kernel_rfl) (fun _ _ _ h => h) (Or.inl ⟨by rfl, ?_⟩) hHeld ?_; rotate_left; (intro w hSw; (try dsimp only at hSw); go_simp); (try with_reducible rfl); clear hU; intro hU; (try simp only [Act.put, List.setIfInBounds_toArray, List.set_cons_zero, List.set_cons_succ])
  refine T_take (i := 4) hU 27 ?_ rfl rfl (by decide) (by kernel_rfl) (by kernel_rfl) (fun _ _ _ h => h) (Or.inl ⟨by rfl, ?_⟩) hHeld ?_; rotate_left; (intro w hSw; (try dsimp only at hSw); go_simp); (try with_reducible rfl); clear hU; intro hU; (try simp only [Act.put, List.setIfInBounds_toArray, List.set_cons_zero, List.set_cons_succ])
  refine T_take (i := 5) hU 28 ?_ rfl rfl (by decide) (by kernel_rfl) (by kernel_rfl) (fun _ _ _ h => h) (Or.inl ⟨by rfl, ?_⟩) hHeld ?_; rotate_left; (intro w hSw; (try dsimp only at hSw); go_simp); (try with_reducible rfl); clear hU; intro hU; (try simp only [Act.put, List.setIfInBounds_toArray, List.set_cons_zero, List.set_cons_succ])
  refine T_take (i := 6) hU 29 ?_ rfl rfl (by decide) (by kernel_rfl) (by kernel_rfl) (fun _ _ _ h => h) (Or.inl ⟨by rfl, ?_⟩) hHeld ?_; rotate_left; (intro w hSw; (try dsimp only at hSw); go_simp); (try with_reducible rfl); clear hU; intro hU; (try simp only [Act.put, List.setIfInBounds_toArray, List.set_cons_zero, List.set_cons_succ])
  refine T_take (i := 8) hU 31 ?_ rfl rfl (by decide) (by kernel_rfl) (by kernel_rfl) (fun _ _ _ h => h) (Or.inl ⟨by rfl, ?_⟩) hHeld ?_; rotate_left; (intro w hSw; (try dsimp only at hSw); go_simp); (try with_reducible rfl); clear hU; intro hU; (try simp only [Act.put, List.setIfInBounds_toArray, List.set_cons_zero, List.set_cons_succ])
  refine T_take (i := 9) hU 32 (.agg #[.int .i64 sct, .int .i64 32]) rfl rfl (by decide) (by kernel_rfl) (by kernel_rfl) (fun _ _ _ h => h) (yields_load _ _ _ _ rfl _ _ rfl w.heap.size 0 rfl _ _ hu25 rfl (size25 _ _) (fun _ h => h.1)) hHeld ?_; clear hU; intro hU; (try simp only [Act.put, List.setIfInBounds_toArray, List.set_cons_zero, List.set_cons_succ])
  refine T_take (i := 10) hU 33 ?_ rfl rfl (by decide) (by kernel_rfl) (by kernel_rfl) (fun _ _ _ h => h) (Or.inl ⟨by rfl, ?_⟩) hHeld ?_; rotate_left; (intro w hSw; (try dsimp only at hSw); go_simp); (try with_reducible rfl); clear hU; intro hU; (try simp only [Act.put, List.setIfInBounds_toArray, List.set_cons_zero, List.set_cons_succ])
  refine T_take (i := 11) hU 34 ?_ rfl rfl (by decide) (by kernel_rfl) (by kernel_rfl) (fun _ _ _ h => h) (Or.inl ⟨by rfl, ?_⟩) hHeld ?_; rotate_left; (intro w hSw; (try dsimp only at hSw); go_simp); (try with_reducible rfl); clear hU; intro hU; (try simp only [Act.put, List.setIfInBounds_toArray, List.set_cons_zero, List.set_cons_succ])
  refine T_take (i := 12) hU 35 ?_ rfl rfl (by decide) (by kernel_rfl) (by kernel_rfl) (fun _ _ _ h => h) (Or.inl ⟨by rfl, ?_⟩) hHeld ?_; rotate_left; (intro w hSw; (try dsimp only at hSw); go_simp); (try with_reducible rfl); clear hU; intro hU; (try simp only [Act.put, List.setIfInBounds_toArray, List.set_cons_zero, List.set_cons_succ])
  refine T_take (i := 14) hU 37 ?_ rfl rfl (by decide) (by kernel_rfl) (by kernel_rfl) (fun _ _ _ h => h) (Or.inl ⟨by rfl, ?_⟩) hHeld ?_; rotate_left; (intro w hSw; (try dsimp only at hSw); go_simp); (try with_reducible rfl); clear hU; intro hU; (try simp only [Act.put, List.setIfInBounds_toArray, List.set_cons_zero, List.set_cons_succ])
  refine T_take (i := 15) hU 38 ?_ rfl rfl (by decide) (by kernel_rfl) (by kernel_rfl) (fun _ _ _ h => h) (Or.inl ⟨by rfl, ?_⟩) hHeld ?_; rotate_left; (intro w hSw; (try dsimp only at hSw); go_simp); (try with_reducible rfl); clear hU; intro hU; (try simp only [Act.put, List.setIfInBounds_toArray, List.set_cons_zero, List.set_cons_succ])
  refine T_take (i := 16) hU 39 ?_ rfl rfl (by decide) (by kernel_rfl) (by kernel_rfl) (fun _ _ _ h => h) (Or.inl ⟨by rfl, ?_⟩) hHeld ?_; rotate_left; (intro w hSw; (try dsimp only at hSw); go_simp); (try with_reducible rfl); clear hU; intro hU; (try simp only [Act.put, List.setIfInBounds_toArray, List.set_cons_zero, List.set_cons_succ])
  refine T_take (i := 17) hU 40 ?_ rfl rfl (by decide) (by kernel_rfl) (by kernel_rfl) (fun _ _ _ h => h) (Or.inl ⟨by rfl, ?_⟩) hHeld ?_; rotate_left; (intro w hSw; (try dsimp only at hSw); go_simp); (try with_reducible rfl); clear hU; intro hU; (try simp only [Act.put, List.setIfInBounds_toArray, List.set_cons_zero, List.set_cons_succ])
  have hHeld7 := hHeld
  refine T_step (i := 7) hU rfl (by decide) (by kernel_rfl) (fun K hK => ?_); clear hU hHeld
  go_simp
  go_at_call 46
  refine (caps_ok _ _ _ _).mono ?_
  rintro e w6 ⟨⟨kc, rfl⟩, hb6⟩
  refine hK.out _ _ (⟨Below.keepRange hb6 hHeld7.1, Below.keepRange hb6 hHeld7.2.1, Below.keepCell hb6 hHeld7.2.2.1, Below.keepCell hb6 hHeld7.2.2.2.1, Below.keepCell hb6 hHeld7.2.2.2.2⟩) (fun hHeld hU => ?_); clear hK K; (try simp only [Act.put, List.setIfInBounds_toArray, List.set_cons_zero, List.set_cons_succ])
  have hHeld13 := hHeld
  refine T_step (i := 13) hU rfl (by decide) (by kernel_rfl) (fun K hK => ?_); clear hU hHeld
  have B6 : Below w.heap.size w w6 := HB5.out.trans (((World.drew_below0 w5).trans hb6).mono HB5.out.size)
  go_simp
  go_at_call 47
  refine (cnew_ok s sct _ xs N _ (HI.out.below (B6.mono hN)) (Nat.le_trans hN B6.size) hl).mono ?_
  rintro e w7 ⟨⟨kq, rfl⟩, hb7⟩
  refine hK.out _ _ (⟨Below.keepRange hb7 hHeld13.1, Below.keepRange hb7 hHeld13.2.1, Below.keepCell hb7 hHeld13.2.2.1, Below.keepCell hb7 hHeld13.2.2.2.1, Below.keepCell hb7 hHeld13.2.2.2.2⟩) (fun hHeld hU => ?_); clear hK K; (try simp only [Act.put, List.setIfInBounds_toArray, List.set_cons_zero, List.set_cons_succ])
  refine T_take (i := 18) hU 41 (.agg (houseCells s sct k kc kq xs.length L.x.clock 0 0 0 0)) rfl rfl (by decide) (by kernel_rfl) (by kernel_rfl) (fun _ _ _ h => h) (yields_build _ _ _ _ rfl _ _ rfl _ _ (built107 s sct k kc kq xs.length L.x.clock) rfl) hHeld ?_; clear hU; intro hU; (try simp only [Act.put, List.setIfInBounds_toArray, List.set_cons_zero, List.set_cons_succ])
  have hHeld19 := hHeld
  refine T_step (i := 19) hU rfl (by decide) (by kernel_rfl) (fun K hK => ?_); clear hU hHeld
  refine step_boxN rfl _ _ rfl 42 rfl (houseCells s sct k kc kq xs.length L.x.clock 0 0 0 0) rfl (fun w8 q hq0 hq1 hA8 hk8 => ?_)
  refine hK.out _ _ (⟨hk8.keepRange id hHeld19.1, hk8.keepRange id hHeld19.2.1, hk8.keepCell id hHeld19.2.2.1, hk8.keepCell id hHeld19.2.2.2.1, hk8.keepCell id hHeld19.2.2.2.2⟩) (fun hHeld hU => ?_); clear hK K; (try simp only [Act.put, List.setIfInBounds_toArray, List.set_cons_zero, List.set_cons_succ])
  refine T_last (N := 20) rfl (by kernel_rfl) (by kernel_rfl) (fun K hK => ?_); clear hU hHeld
  go_simp
  refine hK.out _ _ (NoPanic.normal ?_); clear hK K
  have B7 := B6.trans (hb7.mono B6.size)
  have HB8 := Lib.hid (B7.trans (hk8.below.mono B7.size))
  have b58 : Below w5.heap.size w5 w8 := by
    have a1 := (World.drew_below0 w5).trans hb6
    have a2 := a1.trans (hb7.mono a1.size)
    exact a2.trans (hk8.below.mono a2.size)
  have HX8 := Lib.hid (Below.at b58 HX5.out HX5.out.lt)
  have HQ8 := Lib.hid hA8
  have Hqx := Lib.hid (show w5.heap.size ≤ q by have a1 := ((World.drew_below0 w5).trans hb6).size; have := hb7.size; omega)
  have q0 : w8.cell? ⟨q, 0, none⟩ = some (.pointer (some ⟨s, 0, none⟩)) := hA8.cell 0
  have Hxq := Lib.hid HX5.out.lt
  have Hwq := Lib.hid HB5.out.size
  clear hA8 hk8 hq0 hq1 hb7 hb6 b58 B6 B7 rg rm m6 x1 x2 hHeld7 hHeld13 hHeld19
  go_wp2_with (first
    | (go_at_call 48; refine (count_ok q s S segs R now G _ q0 (HS.out.below HB8.out) hr).mono ?_; rintro e w9 ⟨rfl, hb⟩; have HQ9 := Lib.hid (Below.at hb HQ8.out HQ8.out.lt); have HX9 := Lib.hid (Below.at hb HX8.out HX8.out.lt); have HB9 := Lib.hid (HB8.out.trans (hb.mono HB8.out.size)); have x11 : w9.cell? ⟨w3.heap.size, 11, none⟩ = some (.int .i64 L.x.sb) := HX9.out.cell 11; have x12 : w9.cell? ⟨w3.heap.size, 12, none⟩ = some (.int .i64 L.x.sn) := HX9.out.cell 12; clear hb q0)
    | (refine wpList_buildL rfl 105 _ rfl _ _ (built105 0 1 L.x.sb L.x.sn) rfl ?_)
    | (refine wpList_storeAt rfl 105 _ _ rfl rfl q 14 #[.int .i64 0, .int .i64 1, .int .i64 L.x.sb, .int .i64 L.x.sn] _ 107 rfl rfl HQ9.out (show 18 ≤ 19 by omega) (size105 _ _ _ _) (by simp [Value.oneCell']) ?_; intro w10 hA hk hs; have HB10 := Lib.hid (HB9.out.trans (hk.belowOf HB9.out.size (by intro b hb e; have := Hqx.out; have := Hwq.out; omega))); clear hA hk hs x11 x12)
    | (go_at_call 49; refine (nodes_ok s S segs R now G _ (HS.out.below HB10.out) hr).mono ?_; rintro e w11 ⟨b, cc, rfl, hbb, hown, hb1⟩; have HO := Lib.hid hown; have HB11 := Lib.hid (HB10.out.trans (hb1.mono HB10.out.size)); clear hown hb1 hbb))
  have c0 : w11.cell? ⟨b, 0, none⟩ = some (.int .i64 1) := by
    obtain ⟨b', off, c', _, he, _, hc⟩ := (IntsAt.of_own (xs := [1]) HO.out rfl).cells (by simp)
    simp only [Value.slice.injEq, Option.some.injEq, Addr.mk.injEq] at he
    obtain ⟨⟨rfl, rfl, _⟩, _⟩ := he
    exact hc 0 1 rfl
  refine wp_loop_rounds 2 ?_; rw [rounds_succ]
  go_wp2_with (first
    | (go_at_call 50; refine (node_any s S segs R now G 1 _ (HS.out.below HB11.out) hr).mono ?_; rintro e w12 ⟨rfl, hb⟩; rw [show nodeA 1 = .tuple #[rootV, .bool true] from rfl]; have HB12 := Lib.hid (HB11.out.trans (hb.mono HB11.out.size)); clear hb)
    | (refine wpList_allocAt rfl 96 rfl noneCells zero96 ?_; intro w13 hz hk hs; have HZ13 := Lib.hid hz; have Hk13 := Lib.hid hk; have Hs13 := Lib.hid hs; clear hz hk hs)
    | (refine wpList_storeRow rfl 96 _ _ rfl rfl w12.heap.size rootCells noneCells _ rfl rfl HZ13.out rfl size96 one96 ?_; intro w14 hA hk hs; have HB14 := Lib.hid (HB12.out.trans ((Hk13.out.below.trans (hk.belowOf (by have := Hs13.out; omega) (by intro b hb e; omega))).mono HB12.out.size)); have y2 : w14.cell? ⟨w12.heap.size, 2, none⟩ = some (.int .i64 1) := hA.cell 2; clear hA hk hs))
  rw [rounds_succ]
  go_wp2
  go_ret
  exact ⟨⟨_, rfl⟩, HB14.out⟩
end Go.Proofs.YtnndkfhpifgaiaaGreat
