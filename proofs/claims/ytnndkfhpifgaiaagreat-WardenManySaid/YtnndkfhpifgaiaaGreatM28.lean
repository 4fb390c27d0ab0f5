/-
  file.SetNode of the root.
-/
import Derived.Test.YtnndkfhpifgaiaaGreatM26
import Derived.Test.YtnndkfhpifgaiaaGreatM27
set_option linter.unusedVariables false
set_option linter.unusedSimpArgs false
namespace Go.Proofs.YtnndkfhpifgaiaaGreat
open Go.RowKit

theorem imap_ne_own {w : World} {base n b : Nat} {e : TypeId} {size : Nat} {v : Value} {xs : List Value} {l} (h : IMap w b l) (ho : w.ownsRow base e size v n xs) (hb : v.ownBlock = some b) : False := by
  rcases ho.2 with ⟨rfl, _⟩ | ⟨g, cap, cur, rfl, _, hg, _⟩
  · simp [Value.ownBlock] at hb
  · simp only [Value.ownBlock, Option.some.injEq] at hb
    subst hb
    obtain ⟨es, clk, h, _⟩ := h
    have := (show w.heap[g]? = _ from h).symm.trans hg
    cases this
theorem built94 : Tryz.prog.built 94 [] = some ptrCells.toArray := by kernel_rfl
theorem zeroNode (w : World) : (zeroValue 96).run Tryz.prog w = .ok noneV w := by kernel_rfl
theorem zeroBool (w : World) : (zeroValue 4).run Tryz.prog w = .ok (.bool false) w := by kernel_rfl
theorem zeroInt (w : World) : (zeroValue 3).run Tryz.prog w = .ok (.int .i64 0) w := by kernel_rfl
theorem size94' : (Tryz.prog.info? 94).map (·.size) = some ptrCells.toArray.size := by kernel_rfl
theorem one94 : ptrCells.toArray.all (·.oneCell') = true := by simp [ptrCells, Value.oneCell']

set_option maxRecDepth 100000 in
set_option maxHeartbeats 2000000 in
theorem setnode_ok (s : Nat) (S : StoreV) (segs : List Int) (G : Nat → Prop) (w : World) (h : StoreAt w s S segs none false G) :
    Calls Tryz.prog 40 #[.pointer (some ⟨s, 0, none⟩), rootV] w fun e w' => e = .returned (.bool true) ∧ StoreAt w' s S segs none true G ∧ Keep (fun k => k = S.mnodes ∨ k = S.mturn) w w' := by
  have hu96 := Tryz.underlying96
  have hi96 := Lib.hid size96
  have hlt := h.lt s h.gs
  have HS := Lib.hid h
  clear h
  go_enter Tryz.func40, Tryz.ntmps40
  go_wp2_with (first
    | (refine wpList_boxAt rfl 96 _ rfl rootCells rfl ?_; intro w1 hA1 hk1 hs1; have HA1 := Lib.hid hA1; clear hA1)
    | (refine wpList_buildTo rfl 94 _ rfl _ rfl ptrCells.toArray built94 ?_)
    | (refine wpList_storeAt rfl 94 _ _ rfl rfl w.heap.size 5 ptrCells.toArray rootCells 96 rfl rfl HA1.out (by decide) size94' one94 ?_; intro w2 hA2 hk2 hs2; have HA2 := Lib.hid (show At w2 w.heap.size rootCells 96 from hA2); clear hA2)
    | (refine wpList_load_row rfl 96 _ rfl w.heap.size rfl 96 rootCells (0, 0) _ HA2.out hu96 rfl hi96.out ?_)
    | (go_at_call 63; refine (ncheck_ok _).mono ?_; rintro e w3 ⟨rfl, hb3⟩))
  have B3 : Below w.heap.size w w3 := (hk1.below.trans (hk2.belowOf (by omega) (by intro b hb e; omega))).trans (hb3.mono (by omega))
  have A3 := Below.at hb3 HA2.out HA2.out.lt
  have S3 := HS.out.below B3
  have m16 : w3.cell? ⟨s, 16, none⟩ = some (.map (some S.mnodes)) := S3.cells.cell 16
  have m17 : w3.cell? ⟨s, 17, none⟩ = some (.map (some S.mturn)) := S3.cells.cell 17
  have b0 : w3.cell? ⟨w.heap.size, 0, none⟩ = some (.int .i64 1) := A3.cell 0
  have rg : w3.rangeAt w.heap.size 0 rootCells.toList := A3.range 0 19
  have hi96l : (Tryz.prog.info? 96).map (·.size) = some rootCells.toList.length := size96
  have hG := HS.out.lt
  have hgn := S3.gb.2.2.2.2.1
  have hgt := S3.gb.2.2.2.2.2.1
  have hgs := S3.gs
  have n1 : s ≠ S.mnodes := fun e => imap_ne_at S3.nodes S3.cells e.symm
  have n2 : s ≠ S.mturn := fun e => imap_ne_at S3.turn S3.cells e.symm
  have n3 : ¬ (w.heap.size = S.mnodes) := fun e => by have := hG _ hgn; omega
  have n4 : ¬ (w.heap.size = S.mturn) := fun e => by have := hG _ hgt; omega
  have n5 : ¬ (S.mturn = S.mnodes) := fun e => S3.ne.1 e.symm
  have n6 : ¬ (S.mnodes = S.mturn) := S3.ne.1
  have H3 := Lib.hid S3
  have HB3 := Lib.hid B3
  clear hb3 A3 S3 hk1 hk2 B3
  (try simp only [Act.put, List.setIfInBounds_toArray, List.set_cons_zero, List.set_cons_succ])
  refine wp_region_noPanic ?_
  refine T_region 20 (fun w' => w'.cell? ⟨s, 16, none⟩ = some (.map (some S.mnodes)) ∧ w'.cell? ⟨s, 17, none⟩ = some (.map (some S.mturn)) ∧ w'.cell? ⟨w.heap.size, 0, none⟩ = some (.int .i64 1) ∧ w'.rangeAt w.heap.size 0 rootCells.toList) (by kernel_rfl) (by kernel_rfl) (by kernel_rfl) (by decide) (by kernel_rfl) ⟨m16, m17, b0, rg⟩ (fun hHeld hU => ?_)
  refine T_take (i := 0) hU 10 ?_ rfl rfl (by decide) (by kernel_rfl) (by kernel_rfl) (fun _ _ _ h => h) (Or.inl ⟨by rfl, ?_⟩) hHeld ?_; rotate_left; (intro w hSw; (try dsimp only at hSw); go_simp); (try with_reducible rfl); clear hU; intro hU; (try simp only [Act.put, List.setIfInBounds_toArray, List.set_cons_zero, List.set_cons_succ])
  refine T_take (i := 1) hU 11 ?_ rfl rfl (by decide) (by kernel_rfl) (by kernel_rfl) (fun _ _ _ h => h) (Or.inl ⟨by rfl, ?_⟩) hHeld ?_; rotate_left; (intro w hSw; (try dsimp only at hSw); go_simp); (try with_reducible rfl); clear hU; intro hU; (try simp only [Act.put, List.setIfInBounds_toArray, List.set_cons_zero, List.set_cons_succ])
  refine T_take (i := 2) hU 12 ?_ rfl rfl (by decide) (by kernel_rfl) (by kernel_rfl) (fun _ _ _ h => h) (Or.inl ⟨by rfl, ?_⟩) hHeld ?_; rotate_left; (intro w hSw; (try dsimp only at hSw); go_simp); (try with_reducible rfl); clear hU; intro hU; (try simp only [Act.put, List.setIfInBounds_toArray, List.set_cons_zero, List.set_cons_succ])
  refine T_take (i := 3) hU 13 ?_ rfl rfl (by decide) (by kernel_rfl) (by kernel_rfl) (fun _ _ _ h => h) (Or.inl ⟨by rfl, ?_⟩) hHeld ?_; rotate_left; (intro w hSw; (try dsimp only at hSw); go_simp); (try with_reducible rfl); clear hU; intro hU; (try simp only [Act.put, List.setIfInBounds_toArray, List.set_cons_zero, List.set_cons_succ])
  refine T_take (i := 4) hU 14 ?_ rfl rfl (by decide) (by kernel_rfl) (by kernel_rfl) (fun _ _ _ h => h) (Or.inl ⟨by rfl, ?_⟩) hHeld ?_; rotate_left; (intro w hSw; (try dsimp only at hSw); go_simp); (try with_reducible rfl); clear hU; intro hU; (try simp only [Act.put, List.setIfInBounds_toArray, List.set_cons_zero, List.set_cons_succ])
  refine T_take (i := 5) hU 15 ?_ rfl rfl (by decide) (by kernel_rfl) (by kernel_rfl) (fun _ _ _ h => h) (Or.inl ⟨by rfl, ?_⟩) hHeld ?_; rotate_left; (intro w hSw; (try dsimp only at hSw); go_simp); (try with_reducible rfl); clear hU; intro hU; (try simp only [Act.put, List.setIfInBounds_toArray, List.set_cons_zero, List.set_cons_succ])
  refine T_take (i := 6) hU 16 ?_ rfl rfl (by decide) (by kernel_rfl) (by kernel_rfl) (fun _ _ _ h => h) (Or.inl ⟨by rfl, ?_⟩) hHeld ?_; rotate_left; (intro w hSw; (try dsimp only at hSw); go_simp); (try with_reducible rfl); clear hU; intro hU; (try simp only [Act.put, List.setIfInBounds_toArray, List.set_cons_zero, List.set_cons_succ])
  refine T_take (i := 7) hU 17 ?_ rfl rfl (by decide) (by kernel_rfl) (by kernel_rfl) (fun _ _ _ h => h) (Or.inl ⟨by rfl, ?_⟩) hHeld ?_; rotate_left; (intro w hSw; (try dsimp only at hSw); go_simp); (try with_reducible rfl); clear hU; intro hU; (try simp only [Act.put, List.setIfInBounds_toArray, List.set_cons_zero, List.set_cons_succ])
  refine T_take (i := 8) hU 18 ?_ rfl rfl (by decide) (by kernel_rfl) (by kernel_rfl) (fun _ _ _ h => h) (Or.inl ⟨by rfl, ?_⟩) hHeld ?_; rotate_left; (intro w hSw; (try dsimp only at hSw); go_simp); (try with_reducible rfl); clear hU; intro hU; (try simp only [Act.put, List.setIfInBounds_toArray, List.set_cons_zero, List.set_cons_succ])
  refine T_take (i := 9) hU 19 ?_ rfl rfl (by decide) (by kernel_rfl) (by kernel_rfl) (fun _ _ _ h => h) (Or.inl ⟨by rfl, ?_⟩) hHeld ?_; rotate_left; (intro w hSw; (try dsimp only at hSw); go_simp); (try with_reducible rfl); clear hU; intro hU; (try simp only [Act.put, List.setIfInBounds_toArray, List.set_cons_zero, List.set_cons_succ])
  refine T_take (i := 10) hU 20 ?_ rfl rfl (by decide) (by kernel_rfl) (by kernel_rfl) (fun _ _ _ h => h) (Or.inl ⟨by rfl, ?_⟩) hHeld ?_; rotate_left; (intro w hSw; (try dsimp only at hSw); go_simp); (try with_reducible rfl); clear hU; intro hU; (try simp only [Act.put, List.setIfInBounds_toArray, List.set_cons_zero, List.set_cons_succ])
  refine T_take (i := 11) hU 21 ?_ rfl rfl (by decide) (by kernel_rfl) (by kernel_rfl) (fun _ _ _ h => h) (Or.inl ⟨by rfl, ?_⟩) hHeld ?_; rotate_left; (intro w hSw; (try dsimp only at hSw); go_simp); (try with_reducible rfl); clear hU; intro hU; (try simp only [Act.put, List.setIfInBounds_toArray, List.set_cons_zero, List.set_cons_succ])
  refine T_take (i := 12) hU 22 ?_ rfl rfl (by decide) (by kernel_rfl) (by kernel_rfl) (fun _ _ _ h => h) (Or.inl ⟨by rfl, ?_⟩) hHeld ?_; rotate_left; (intro w hSw; (try dsimp only at hSw); go_simp); (try with_reducible rfl); clear hU; intro hU; (try simp only [Act.put, List.setIfInBounds_toArray, List.set_cons_zero, List.set_cons_succ])
  refine T_take (i := 13) hU 23 ?_ rfl rfl (by decide) (by kernel_rfl) (by kernel_rfl) (fun _ _ _ h => h) (Or.inl ⟨by rfl, ?_⟩) hHeld ?_; rotate_left; (intro w hSw; (try dsimp only at hSw); go_simp); (try with_reducible rfl); clear hU; intro hU; (try simp only [Act.put, List.setIfInBounds_toArray, List.set_cons_zero, List.set_cons_succ])
  refine T_take (i := 14) hU 24 (rootV) rfl rfl (by decide) (by kernel_rfl) (by kernel_rfl) (fun _ _ _ h => h) (yields_load _ _ _ _ rfl _ _ rfl w.heap.size 0 rfl _ _ hu96 rfl hi96l (fun _ h => h.2.2.2)) hHeld ?_; clear hU; intro hU; (try simp only [Act.put, List.setIfInBounds_toArray, List.set_cons_zero, List.set_cons_succ])
  have hHeld15 := hHeld
  refine T_step (i := 15) hU rfl (by decide) (by kernel_rfl) (fun K hK => ?_); clear hU hHeld
  refine step_mapEntry1 rfl _ _ _ rfl 25 rfl 3 96 .i64 Tryz.underlying87 Tryz.underlying3 noneV zeroNode S.mnodes rfl H3.out.nodes.drew 1 rfl (fun w4 q4 hE4 hk4 hs4 => ?_)
  refine hK.out _ _ (⟨hk4.keepCell n1 hHeld15.1, hk4.keepCell n1 hHeld15.2.1, hk4.keepCell n3 hHeld15.2.2.1, hk4.keepRange n3 hHeld15.2.2.2⟩) (fun hHeld hU => ?_); clear hK K; (try simp only [Act.put, List.setIfInBounds_toArray, List.set_cons_zero, List.set_cons_succ])
  refine T_take (i := 16) hU 26 ?_ rfl rfl (by decide) (by kernel_rfl) (by kernel_rfl) (fun _ _ _ h => h) (Or.inl ⟨by rfl, ?_⟩) hHeld ?_; rotate_left; (intro w hSw; (try dsimp only at hSw); go_simp); (try with_reducible rfl); clear hU; intro hU; (try simp only [Act.put, List.setIfInBounds_toArray, List.set_cons_zero, List.set_cons_succ])
  have hHeld17 := hHeld
  refine T_step (i := 17) hU rfl (by decide) (by kernel_rfl) (fun K hK => ?_); clear hU hHeld
  refine step_entryStore1 rfl _ _ _ _ rfl rfl S.mnodes q4 1 noneV rfl rfl hE4 rootV rfl (fun w5 hM5 hk5 hs5 => ?_)
  refine hK.out _ _ (⟨hk5.keepCell n1 hHeld17.1, hk5.keepCell n1 hHeld17.2.1, hk5.keepCell n3 hHeld17.2.2.1, hk5.keepRange n3 hHeld17.2.2.2⟩) (fun hHeld hU => ?_); clear hK K; (try simp only [Act.put, List.setIfInBounds_toArray, List.set_cons_zero, List.set_cons_succ])
  have hHeld18 := hHeld
  refine T_step (i := 18) hU rfl (by decide) (by kernel_rfl) (fun K hK => ?_); clear hU hHeld
  refine step_mapEntry1 rfl _ _ _ rfl 27 rfl 3 4 .i64 Tryz.underlying88 Tryz.underlying3 (.bool false) zeroBool S.mturn rfl ((H3.out.turn.drew.keep hk4 n5).keep hk5 n5) 1 rfl (fun w6 q6 hE6 hk6 hs6 => ?_)
  refine hK.out _ _ (⟨hk6.keepCell n2 hHeld18.1, hk6.keepCell n2 hHeld18.2.1, hk6.keepCell n4 hHeld18.2.2.1, hk6.keepRange n4 hHeld18.2.2.2⟩) (fun hHeld hU => ?_); clear hK K; (try simp only [Act.put, List.setIfInBounds_toArray, List.set_cons_zero, List.set_cons_succ])
  refine T_take (i := 19) hU 28 ?_ rfl rfl (by decide) (by kernel_rfl) (by kernel_rfl) (fun _ _ _ h => h) (Or.inl ⟨by rfl, ?_⟩) hHeld ?_; rotate_left; (intro w hSw; (try dsimp only at hSw); go_simp); (try with_reducible rfl); clear hU; intro hU; (try simp only [Act.put, List.setIfInBounds_toArray, List.set_cons_zero, List.set_cons_succ])
  refine T_last (N := 20) rfl (by kernel_rfl) (by kernel_rfl) (fun K hK => ?_); clear hU hHeld
  refine step_entryStore1 rfl _ _ _ _ rfl rfl S.mturn q6 1 (.bool false) rfl rfl hE6 (.bool true) rfl (fun w7 hM7 hk7 hs7 => ?_)
  refine hK.out _ _ (NoPanic.normal ?_); clear hK K
  go_wp2
  go_ret
  have K45 : Keep (· = S.mnodes) w3.drew w5 := hk4.trans hk5 (fun _ _ h => h)
  have K67 : Keep (· = S.mturn) w5 w7 := hk6.trans hk7 (fun _ _ h => h)
  have K7 : Keep (fun k => k = S.mnodes ∨ k = S.mturn) w3 w7 := ((K45.ofDrew).mono (fun _ _ h => .inl h)).trans K67 (fun _ _ h => .inr h)
  have s3 := H3.out
  refine ⟨rfl, ?_, (Keep.of_below HB3.out _).trans K7 (fun _ _ h => h)⟩
  exact {
    cells := K7.at s3.cells (fun e => e.elim n1 n2)
    segs := ⟨K7.ownsRow s3.segs.1 (fun b hb e => by
      rcases e with rfl | rfl
      · exact imap_ne_own s3.nodes s3.segs.1 hb
      · exact imap_ne_own s3.turn s3.segs.1 hb), s3.segs.2⟩
    base := s3.base.keep K7 (fun e => e.elim s3.ne.2.2.2.2.2.2.2.2.1 s3.ne.2.2.2.2.2.2.2.2.2.1)
    last := s3.last.imp fun l hl => hl.keep K7 (fun e => e.elim s3.ne.2.2.2.2.2.2.2.2.2.2.1 s3.ne.2.2.2.2.2.2.2.2.2.2.2.1)
    set := s3.set.keep K7 (fun e => e.elim s3.ne.2.1 s3.ne.2.2.1)
    touch := s3.touch.keep K7 (fun e => e.elim s3.ne.2.2.2.1 s3.ne.2.2.2.2.1)
    nodes := hM5.keep K67 n6
    turn := hM7
    gone := s3.gone.keep K7 (fun e => e.elim s3.ne.2.2.2.2.2.1 s3.ne.2.2.2.2.2.2.1)
    root := fun r hr => by cases hr
    gs := s3.gs
    gb := s3.gb
    ne := s3.ne
    neR := s3.neR
    lt := fun k hk => Nat.lt_of_lt_of_le (s3.lt k hk) K7.size }
end Go.Proofs.YtnndkfhpifgaiaaGreat
