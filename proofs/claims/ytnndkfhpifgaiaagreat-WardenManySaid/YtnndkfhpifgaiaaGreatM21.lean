/-
  log.Append: one block put; a chunk more.
  log.next where there is room.
  log.Append: a chunk more.
-/
import Derived.Test.YtnndkfhpifgaiaaGreatM20
import Derived.Test.YtnndkfhpifgaiaaGreatM09
import Derived.Test.YtnndkfhpifgaiaaGreatM17
import Derived.Deep.LoopGhost
set_option linter.unusedVariables false
set_option linter.unusedSimpArgs false
namespace Go.Proofs.YtnndkfhpifgaiaaGreat
open Go.RowKit

theorem Step.ofDrew {d n B : Nat} {F : Nat → Prop} {w w' : World} (h : Step d n F w.drew B w') : Step d n F w B w' := by
  obtain ⟨F', h1, h2, h3⟩ := h
  exact ⟨F', h1, h2, h3.ofDrew⟩
theorem DiskAt.drew {d n B : Nat} {F : Nat → Prop} {w : World} (h : DiskAt w d n B F) : DiskAt w.drew d n B F := h.below (World.drew_below0 w)

set_option maxRecDepth 100000 in
set_option maxHeartbeats 1000000 in
theorem aput_ok (bl ba bs l d n B : Nat) (F : Nat → Prop) (h at0 i : Int) (s : ByteArray) (w : World) (hd : DiskAt w d n B F)
    (c1 : w.cell? ⟨bl, 0, none⟩ = some (.pointer (some ⟨l, 0, none⟩))) (c2 : w.cell? ⟨l, 0, none⟩ = some (.pointer (some ⟨d, 0, none⟩))) (c3 : w.cell? ⟨l, 3, none⟩ = some (.int .i64 h))
    (c4 : w.cell? ⟨ba, 0, none⟩ = some (.int .i64 at0)) (c5 : w.cell? ⟨bs, 0, none⟩ = some (.string s)) (n1 : ¬ F bl) (n2 : ¬ F l) (n3 : ¬ F ba) (n4 : ¬ F bs)
    (hh : 1 ≤ h ∧ h ≤ 16) (hi0 : 0 ≤ i) (hi1 : i ≤ 24) (ha0 : 0 ≤ at0) (ha1 : at0 + i < n) (hs : (i + 1) * 256 ≤ s.size) (hn : n ≤ 16384) (hB : B < 1000000000) :
    Calls Tryz.prog 121 #[.int .i64 i, .pointer (some ⟨bl, 0, none⟩), .pointer (some ⟨ba, 0, none⟩), .pointer (some ⟨bs, 0, none⟩)] w fun e w' => e = .returned (.bool true) ∧ Step d n F w (B + 1) w' := by
  have hw1 : IntKind.i64.wrap (at0 + i) = at0 + i := by rw [IntKind.wrap_i64]; omega
  have hw2 : IntKind.i64.wrap (i * 256) = i * 256 := by rw [IntKind.wrap_i64]; omega
  have hw3 : IntKind.i64.wrap (i + 1) = i + 1 := by rw [IntKind.wrap_i64]; omega
  have hw4 : IntKind.i64.wrap ((i + 1) * 256) = (i + 1) * 256 := by rw [IntKind.wrap_i64]; omega
  have b1 : 0 ≤ i * 256 := by omega
  have b2 : i * 256 ≤ (i + 1) * 256 := by omega
  have b3 : 0 ≤ (i + 1) * 256 := by omega
  go_enter Tryz.func121, Tryz.ntmps121
  go_wp2
  (try simp only [Act.put, List.setIfInBounds_toArray, List.set_cons_zero, List.set_cons_succ])
  refine wp_region_noPanic ?_
  refine T_region 20 (fun w' => w'.cell? ⟨bl, 0, none⟩ = some (.pointer (some ⟨l, 0, none⟩)) ∧ w'.cell? ⟨l, 0, none⟩ = some (.pointer (some ⟨d, 0, none⟩)) ∧ w'.cell? ⟨l, 3, none⟩ = some (.int .i64 h) ∧ w'.cell? ⟨ba, 0, none⟩ = some (.int .i64 at0) ∧ w'.cell? ⟨bs, 0, none⟩ = some (.string s)) (by kernel_rfl) (by kernel_rfl) (by kernel_rfl) (by decide) (by kernel_rfl) ⟨c1, c2, c3, c4, c5⟩ (fun hHeld hU => ?_)
  refine T_take (i := 0) hU 6 ?_ rfl rfl (by decide) (by kernel_rfl) (by kernel_rfl) (fun _ _ _ h => h) (Or.inl ⟨by rfl, ?_⟩) hHeld ?_; rotate_left; (intro w hSw; (try dsimp only at hSw); go_simp); (try with_reducible rfl); clear hU; intro hU; (try simp only [Act.put, List.setIfInBounds_toArray, List.set_cons_zero, List.set_cons_succ])
  refine T_take (i := 1) hU 7 ?_ rfl rfl (by decide) (by kernel_rfl) (by kernel_rfl) (fun _ _ _ h => h) (Or.inl ⟨by rfl, ?_⟩) hHeld ?_; rotate_left; (intro w hSw; (try dsimp only at hSw); go_simp); (try with_reducible rfl); clear hU; intro hU; (try simp only [Act.put, List.setIfInBounds_toArray, List.set_cons_zero, List.set_cons_succ])
  refine T_take (i := 2) hU 8 ?_ rfl rfl (by decide) (by kernel_rfl) (by kernel_rfl) (fun _ _ _ h => h) (Or.inl ⟨by rfl, ?_⟩) hHeld ?_; rotate_left; (intro w hSw; (try dsimp only at hSw); go_simp); (try with_reducible rfl); clear hU; intro hU; (try simp only [Act.put, List.setIfInBounds_toArray, List.set_cons_zero, List.set_cons_succ])
  refine T_take (i := 3) hU 9 ?_ rfl rfl (by decide) (by kernel_rfl) (by kernel_rfl) (fun _ _ _ h => h) (Or.inl ⟨by rfl, ?_⟩) hHeld ?_; rotate_left; (intro w hSw; (try dsimp only at hSw); go_simp); (try with_reducible rfl); clear hU; intro hU; (try simp only [Act.put, List.setIfInBounds_toArray, List.set_cons_zero, List.set_cons_succ])
  refine T_take (i := 4) hU 10 ?_ rfl rfl (by decide) (by kernel_rfl) (by kernel_rfl) (fun _ _ _ h => h) (Or.inl ⟨by rfl, ?_⟩) hHeld ?_; rotate_left; (intro w hSw; (try dsimp only at hSw); go_simp); (try with_reducible rfl); clear hU; intro hU; (try simp only [Act.put, List.setIfInBounds_toArray, List.set_cons_zero, List.set_cons_succ])
  refine T_take (i := 5) hU 11 ?_ rfl rfl (by decide) (by kernel_rfl) (by kernel_rfl) (fun _ _ _ h => h) (Or.inl ⟨by rfl, ?_⟩) hHeld ?_; rotate_left; (intro w hSw; (try dsimp only at hSw); go_simp); (try with_reducible rfl); clear hU; intro hU; (try simp only [Act.put, List.setIfInBounds_toArray, List.set_cons_zero, List.set_cons_succ])
  refine T_take (i := 6) hU 12 ?_ rfl rfl (by decide) (by kernel_rfl) (by kernel_rfl) (fun _ _ _ h => h) (Or.inl ⟨by rfl, ?_⟩) hHeld ?_; rotate_left; (intro w hSw; (try dsimp only at hSw); go_simp); (try with_reducible rfl); clear hU; intro hU; (try simp only [Act.put, List.setIfInBounds_toArray, List.set_cons_zero, List.set_cons_succ])
  refine T_take (i := 7) hU 13 ?_ rfl rfl (by decide) (by kernel_rfl) (by kernel_rfl) (fun _ _ _ h => h) (Or.inl ⟨by rfl, ?_⟩) hHeld ?_; rotate_left; (intro w hSw; (try dsimp only at hSw); go_simp); (try with_reducible rfl); clear hU; intro hU; (try simp only [Act.put, List.setIfInBounds_toArray, List.set_cons_zero, List.set_cons_succ])
  refine T_take (i := 8) hU 14 ?_ rfl rfl (by decide) (by kernel_rfl) (by kernel_rfl) (fun _ _ _ h => h) (Or.inl ⟨by rfl, ?_⟩) hHeld ?_; rotate_left; (intro w hSw; (try dsimp only at hSw); go_simp); (try with_reducible rfl); clear hU; intro hU; (try simp only [Act.put, List.setIfInBounds_toArray, List.set_cons_zero, List.set_cons_succ])
  refine T_take (i := 9) hU 15 ?_ rfl rfl (by decide) (by kernel_rfl) (by kernel_rfl) (fun _ _ _ h => h) (Or.inl ⟨by rfl, ?_⟩) hHeld ?_; rotate_left; (intro w hSw; (try dsimp only at hSw); go_simp); (try with_reducible rfl); clear hU; intro hU; (try simp only [Act.put, List.setIfInBounds_toArray, List.set_cons_zero, List.set_cons_succ])
  refine T_take (i := 10) hU 16 ?_ rfl rfl (by decide) (by kernel_rfl) (by kernel_rfl) (fun _ _ _ h => h) (Or.inl ⟨by rfl, ?_⟩) hHeld ?_; rotate_left; (intro w hSw; (try dsimp only at hSw); go_simp); (try with_reducible rfl); clear hU; intro hU; (try simp only [Act.put, List.setIfInBounds_toArray, List.set_cons_zero, List.set_cons_succ])
  refine T_take (i := 11) hU 17 ?_ rfl rfl (by decide) (by kernel_rfl) (by kernel_rfl) (fun _ _ _ h => h) (Or.inl ⟨by rfl, ?_⟩) hHeld ?_; rotate_left; (intro w hSw; (try dsimp only at hSw); go_simp); (try with_reducible rfl); clear hU; intro hU; (try simp only [Act.put, List.setIfInBounds_toArray, List.set_cons_zero, List.set_cons_succ])
  refine T_take (i := 12) hU 18 ?_ rfl rfl (by decide) (by kernel_rfl) (by kernel_rfl) (fun _ _ _ h => h) (Or.inl ⟨by rfl, ?_⟩) hHeld ?_; rotate_left; (intro w hSw; (try dsimp only at hSw); go_simp); (try with_reducible rfl); clear hU; intro hU; (try simp only [Act.put, List.setIfInBounds_toArray, List.set_cons_zero, List.set_cons_succ])
  refine T_take (i := 13) hU 19 ?_ rfl rfl (by decide) (by kernel_rfl) (by kernel_rfl) (fun _ _ _ h => h) (Or.inl ⟨by rfl, ?_⟩) hHeld ?_; rotate_left; (intro w hSw; (try dsimp only at hSw); go_simp); (try with_reducible rfl); clear hU; intro hU; (try simp only [Act.put, List.setIfInBounds_toArray, List.set_cons_zero, List.set_cons_succ])
  refine T_take (i := 14) hU 20 ?_ rfl rfl (by decide) (by kernel_rfl) (by kernel_rfl) (fun _ _ _ h => h) (Or.inl ⟨by rfl, ?_⟩) hHeld ?_; rotate_left; (intro w hSw; (try dsimp only at hSw); go_simp); (try with_reducible rfl); clear hU; intro hU; (try simp only [Act.put, List.setIfInBounds_toArray, List.set_cons_zero, List.set_cons_succ])
  refine T_take (i := 15) hU 21 ?_ rfl rfl (by decide) (by kernel_rfl) (by kernel_rfl) (fun _ _ _ h => h) (Or.inl ⟨by rfl, ?_⟩) hHeld ?_; rotate_left; (intro w hSw; (try dsimp only at hSw); go_simp); (try with_reducible rfl); clear hU; intro hU; (try simp only [Act.put, List.setIfInBounds_toArray, List.set_cons_zero, List.set_cons_succ])
  refine T_take (i := 16) hU 22 ?_ rfl rfl (by decide) (by kernel_rfl) (by kernel_rfl) (fun _ _ _ h => h) (Or.inl ⟨by rfl, ?_⟩) hHeld ?_; rotate_left; (intro w hSw; (try dsimp only at hSw); go_simp); (try with_reducible rfl); clear hU; intro hU; (try simp only [Act.put, List.setIfInBounds_toArray, List.set_cons_zero, List.set_cons_succ])
  refine T_take (i := 17) hU 23 ?_ rfl rfl (by decide) (by kernel_rfl) (by kernel_rfl) (fun _ _ _ h => h) (Or.inl ⟨by rfl, ?_⟩) hHeld ?_; rotate_left; (intro w hSw; (try dsimp only at hSw); go_simp); (try with_reducible rfl); clear hU; intro hU; (try simp only [Act.put, List.setIfInBounds_toArray, List.set_cons_zero, List.set_cons_succ])
  refine T_take (i := 18) hU 24 ?_ rfl rfl (by decide) (by kernel_rfl) (by kernel_rfl) (fun _ _ _ h => h) (Or.inl ⟨by rfl, ?_⟩) hHeld ?_; rotate_left; (intro w hSw; (try dsimp only at hSw); go_simp); rw [if_pos (by omega)]; (try with_reducible rfl); clear hU; intro hU; (try simp only [Act.put, List.setIfInBounds_toArray, List.set_cons_zero, List.set_cons_succ])
  have hHeld19 := hHeld
  refine T_step (i := 19) hU rfl (by decide) (by kernel_rfl) (fun K hK => ?_); clear hU hHeld
  go_simp
  go_at_call 31
  refine (write_step d n B F _ _ _ _ hd.drew (by omega) (by omega) (by omega) (by omega) (by simp [ByteArray.size_extract]; omega) hB).mono ?_
  rintro e w1 ⟨rfl, hst⟩
  have hk := hst.keep
  refine hK.out _ _ (⟨hk.keepCell n1 hHeld19.1, hk.keepCell n2 hHeld19.2.1, hk.keepCell n2 hHeld19.2.2.1, hk.keepCell n3 hHeld19.2.2.2.1, hk.keepCell n4 hHeld19.2.2.2.2⟩) (fun hHeld hU => ?_); clear hK K; (try simp only [Act.put, List.setIfInBounds_toArray, List.set_cons_zero, List.set_cons_succ])
  refine T_last (N := 20) rfl (by kernel_rfl) (by kernel_rfl) (fun K hK => ?_); clear hU hHeld
  go_simp
  refine hK.out _ _ (NoPanic.normal ?_); clear hK K
  go_wp2
  go_ret
  exact ⟨rfl, hst.ofDrew⟩
end Go.Proofs.YtnndkfhpifgaiaaGreat
namespace Go.Proofs.YtnndkfhpifgaiaaGreat
open Go.RowKit


set_option maxRecDepth 100000 in
set_option maxHeartbeats 1000000 in
theorem next_yes (l : Nat) (L : LogV) (n : Int) (w : World) (h : LogAt w l L) (h0 : 0 ≤ L.x.at_) (h1 : L.x.at_ ≤ 100) (hn : 0 ≤ n) (hn' : n ≤ 100) (hfit : L.x.at_ + n ≤ 32) (hfv : ∃ p m c, L.fv = .slice p m c) :
    Calls Tryz.prog 119 #[.pointer (some ⟨l, 0, none⟩), .int .i64 n] w (Ans (.tuple #[L.x.v, L.fv, .bool true]) w) := by
  have hu := Tryz.underlying82
  have hi := size82 L.x
  have hlt := h.lt
  have Hl := Lib.hid h
  clear h
  have tok1 : True := trivial
  go_enter Tryz.func119, Tryz.ntmps119
  go_wp2_with (first
    | (refine wpList_loadIn rfl 82 _ rfl l 5 rfl 132 L.cells HL1.out L.x.cells.toList rfl _ rfl hu (size82 _) ?_)
    | (refine wpList_storeRow rfl 82 _ _ rfl rfl _ L.x.cells zSlot _ rfl rfl HZ2.out rfl (size82 _) (one82 _) ?_; intro w3 hA3 hk3 hs3; have HL3 := Lib.hid (hk3.at HL2.out (by omega)); have HZ3 := Lib.hid (hk3.at HZ1b.out (by omega)); have HA3 := Lib.hid hA3; clear hA3)
    | (have _t := tok1; refine wpList_allocAt rfl 82 rfl zSlot zero82 ?_; clear tok1 _t; intro w1 hz1 hk1 hs1; have HL1 := Lib.hid (hk1.at Hl.out id); have HZ1 := Lib.hid hz1; clear hz1)
    | (refine wpList_allocAt rfl 82 rfl zSlot zero82 ?_; intro w2 hz2 hk2 hs2; have HL2 := Lib.hid (hk2.at HL1.out id); have HZ1b := Lib.hid (hk2.at HZ1.out id); have HZ2 := Lib.hid hz2; clear hz2)
    | (go_at_call 166; refine (room_yes l L n _ HL3.out h0 h1 hn hn' hfit).mono ?_; rintro e w4 ⟨rfl, hb4⟩))
  have A7 : At w4 (w.heap.size + 1) L.x.cells 82 := by have := Below.at hb4 HA3.out (by omega); rwa [hs1] at this
  have A4 : At w4 w.heap.size zSlot 82 := Below.at hb4 HZ3.out (by omega)
  have c18 : w4.cell? ⟨l, 18, none⟩ = some L.fv := Below.keepCell hb4 (HL3.out.cell 18)
  have r7 : w4.rangeAt (w.heap.size + 1) 0 L.x.cells.toList := A7.range 0 13
  have hB : Below w.heap.size w w4 := (((hk1.below.trans (hk2.below.mono (by omega))).trans (hk3.belowOf (by omega) (by omega)))).trans (hb4.mono (by omega))
  clear hb4 hk1 hk2 hk3
  obtain ⟨pf, mf, cf, hfv⟩ := hfv
  rw [hfv] at c18
  have hne : ¬ (w.heap.size + 1 = w.heap.size) := by omega
  (try simp only [Act.put, List.setIfInBounds_toArray, List.set_cons_zero, List.set_cons_succ])
  refine wp_region_noPanic ?_
  refine T_region 7 (fun w' => w'.cell? ⟨l, 18, none⟩ = some (.slice pf mf cf) ∧ w'.rangeAt (w.heap.size + 1) 0 L.x.cells.toList) (by kernel_rfl) (by kernel_rfl) (by kernel_rfl) (by decide) (by kernel_rfl) ⟨c18, r7⟩ (fun hHeld hU => ?_)
  refine T_take (i := 0) hU 15 ((.agg L.x.cells)) rfl rfl (by decide) (by kernel_rfl) (by kernel_rfl) (fun _ _ _ h => h) (yields_load _ _ _ _ rfl _ _ rfl (w.heap.size + 1) 0 rfl _ _ hu rfl hi (fun _ h => h.2)) hHeld ?_; clear hU; intro hU; (try simp only [Act.put, List.setIfInBounds_toArray, List.set_cons_zero, List.set_cons_succ])
  refine T_take (i := 1) hU 16 ?_ rfl rfl (by decide) (by kernel_rfl) (by kernel_rfl) (fun _ _ _ h => h) (Or.inl ⟨by rfl, ?_⟩) hHeld ?_; rotate_left; (intro w hSw; (try dsimp only at hSw); go_simp); (try with_reducible rfl); clear hU; intro hU; (try simp only [Act.put, List.setIfInBounds_toArray, List.set_cons_zero, List.set_cons_succ])
  refine T_take (i := 2) hU 17 ?_ rfl rfl (by decide) (by kernel_rfl) (by kernel_rfl) (fun _ _ _ h => h) (Or.inl ⟨by rfl, ?_⟩) hHeld ?_; rotate_left; (intro w hSw; (try dsimp only at hSw); go_simp); (try with_reducible rfl); clear hU; intro hU; (try simp only [Act.put, List.setIfInBounds_toArray, List.set_cons_zero, List.set_cons_succ])
  refine T_take (i := 3) hU 18 ?_ rfl rfl (by decide) (by kernel_rfl) (by kernel_rfl) (fun _ _ _ h => h) (Or.inl ⟨by rfl, ?_⟩) hHeld ?_; rotate_left; (intro w hSw; (try dsimp only at hSw); go_simp); (try with_reducible rfl); clear hU; intro hU; (try simp only [Act.put, List.setIfInBounds_toArray, List.set_cons_zero, List.set_cons_succ])
  refine T_take (i := 4) hU 19 ?_ rfl rfl (by decide) (by kernel_rfl) (by kernel_rfl) (fun _ _ _ h => h) (Or.inl ⟨by rfl, ?_⟩) hHeld ?_; rotate_left; (intro w hSw; (try dsimp only at hSw); go_simp); (try with_reducible rfl); clear hU; intro hU; (try simp only [Act.put, List.setIfInBounds_toArray, List.set_cons_zero, List.set_cons_succ])
  have hHeld5 := hHeld
  refine T_step (i := 5) hU rfl (by decide) (by kernel_rfl) (fun K hK => ?_); clear hU hHeld
  refine step_storeRow rfl 82 _ _ rfl w.heap.size L.x.cells zSlot _ rfl rfl A4.drew rfl hi (one82 _) (fun w5 hA5 hk5 hs5 => ?_)
  refine hK.out _ _ (⟨hk5.keepCell (by omega) hHeld5.1, hk5.keepRange hne hHeld5.2⟩) (fun hHeld hU => ?_); clear hK K; (try simp only [Act.put, List.setIfInBounds_toArray, List.set_cons_zero, List.set_cons_succ])
  refine T_take (i := 6) hU 5 ?_ rfl rfl (by decide) (by kernel_rfl) (by kernel_rfl) (fun _ _ _ h => h) (Or.inl ⟨by rfl, ?_⟩) hHeld ?_; rotate_left; (intro w hSw; (try dsimp only at hSw); go_simp); (try with_reducible rfl); clear hU; intro hU; (try simp only [Act.put, List.setIfInBounds_toArray, List.set_cons_zero, List.set_cons_succ])
  refine T_last (N := 7) rfl (by kernel_rfl) (by kernel_rfl) (fun K hK => ?_); clear hU hHeld
  go_simp
  refine hK.out _ _ (NoPanic.normal ?_); clear hK K
  have hB5 : Below w.heap.size w w5 := hB.drew.trans (hk5.belowOf hB.size (by omega))
  go_wp2
  refine bodyPost_ret (v := .tuple #[L.x.v, L.fv, .bool true]) ?_ rfl ⟨rfl, hB5⟩
  rw [hfv]
  exact results_cell3 Tryz.results119 _ _ w.heap.size _ L.x.cells _ rfl hA5 hu rfl hi
end Go.Proofs.YtnndkfhpifgaiaaGreat
namespace Go.Proofs.YtnndkfhpifgaiaaGreat
open Go.RowKit

theorem BlocksAt.mono {w : World} {v : Value} {m N M : Nat} (h : BlocksAt w v m N) (hN : N ≤ M) : BlocksAt w v m M := by
  obtain ⟨p, c, rfl, hc, h⟩ := h
  exact ⟨p, c, rfl, hc, h.imp id (fun ⟨b, xs, hb, r⟩ => ⟨b, xs, by omega, r⟩)⟩

/-- The log behind a chunk of m blocks. -/
def LogV.on (L : LogV) (m : Nat) (f g h : Int) : LogV := { L with x := { L.x with at_ := L.x.at_ + (1 + m), seq := L.x.seq + 1, clock := f, sb := g, sn := h } }

/-- What log.Append leaves. -/
def AppendEnd (l n B : Nat) (F : Nat → Prop) (L : LogV) (m : Nat) (f g h : Int) (w : World) (e : Ending) (w' : World) : Prop :=
  ∃ vs F', e = .returned (.tuple #[vs, .bool true]) ∧ DiskAt w' L.d n (B + m + 1) F' ∧ (∀ k, F' k → F k ∨ w.heap.size ≤ k) ∧ Keep (fun k => F k ∨ k = l) w w' ∧ LogAt w' l (L.on m f g h) ∧
    w'.ownsRow w.heap.size 3 1 vs m ((List.range m).map fun (i : Nat) => Value.int .i64 (48 + L.x.seg * 32 + L.x.at_ + 1 + (i : Int)))

theorem append_round {w16 wr w17 w18 : World} {d n B k : Nat} {F F1 : Nat → Prop} {u v' : Value} {x0 : Int} {o : Obj} (hF1 : ∀ b, F1 b → F b ∨ w16.heap.size ≤ b) (hK1 : Keep F w16 wr)
    (hown1 : wr.ownsRow w16.heap.size 3 1 u k ((List.range k).map fun (i : Nat) => Value.int .i64 (x0 + 1 + (i : Int)))) (hno1 : ∀ b, u.ownBlock = some b → ¬ F1 b) (hst : Step d n F1 wr (B + k + 1) w17)
    (hown3 : w18.ownsRow w16.heap.size 3 1 v' (k + 1) (((List.range k).map fun (i : Nat) => Value.int .i64 (x0 + 1 + (i : Int))) ++ [.int .i64 (x0 + (1 + (k : Int)))])) (hgrow : (w17.alloc o).grownBy w18 u.ownBlock)
    (hblk : v'.ownBlock = u.ownBlock ∨ v'.ownBlock = some (w17.alloc o).heap.size) :
    ∃ F', DiskAt w18 d n (B + (k + 1)) F' ∧ (∀ b, F' b → F b ∨ w16.heap.size ≤ b) ∧ Keep F w16 w18 ∧
    w18.ownsRow w16.heap.size 3 1 v' (k + 1) ((List.range (k + 1)).map fun (i : Nat) => Value.int .i64 (x0 + 1 + (i : Int))) ∧ ∀ b, v'.ownBlock = some b → ¬ F' b := by
  obtain ⟨F2, hd2, hF2, hK2⟩ := hst
  have hno2 : ∀ b, F2 b → ¬ u.ownBlock = some b := fun b hb hu => by
    rcases hF2 b hb with h | h
    · exact hno1 b hu h
    · have := (hown1.lt b hu).2; omega
  have hz := hK1.size
  have hz2 := hK2.size
  have hKg : Keep (fun b => u.ownBlock = some b) w17 w18 := ((Keep.refl _ w17).alloc o).grown hgrow (fun j hj => .inl hj)
  have hK3 : Keep F w16 w17 := hK1.trans hK2 (fun b hb h => (hF1 b h).resolve_right (by omega))
  refine ⟨F2, by have := hd2.kept hKg hno2; rwa [Nat.add_assoc] at this, fun b hb => ?_, (hK3.alloc o).grown hgrow (fun j hj => .inr (hown1.lt j hj).1), ?_, fun b hb hf => ?_⟩
  · rcases hF2 b hb with h | h
    · exact hF1 b h
    · right; omega
  · rw [List.range_succ, List.map_append]
    simp only [List.map_cons, List.map_nil]
    rwa [show x0 + 1 + (k : Int) = x0 + (1 + (k : Int)) from by omega]
  · rcases hblk with h | h
    · exact hno2 b hf (h ▸ hb)
    · rw [h] at hb
      simp only [Option.some.injEq, World.size_alloc] at hb
      have := hd2.lt b hf
      omega

theorem append_tail {w16 wr w19 w20 : World} {d n B' k : Nat} {F F1 F2 : Nat → Prop} {u : Value} {xs : List Value} (hF1 : ∀ b, F1 b → F b ∨ w16.heap.size ≤ b) (hK1 : Keep F w16 wr) (hF2 : ∀ b, F2 b → F1 b ∨ wr.drew.heap.size ≤ b) (hK2 : Keep F1 wr.drew w19)
    (hst : Step d n F2 w19 B' w20) (hown : wr.ownsRow w16.heap.size 3 1 u k xs) (hno1 : ∀ b, u.ownBlock = some b → ¬ F1 b) :
    ∃ F3, DiskAt w20 d n B' F3 ∧ (∀ b, F3 b → F b ∨ w16.heap.size ≤ b) ∧ Keep F w16 w20 ∧ w20.ownsRow w16.heap.size 3 1 u k xs ∧ ∀ b, u.ownBlock = some b → ¬ F3 b := by
  obtain ⟨F3, hd3, hF3, hK3⟩ := hst
  have hz1 := hK1.size
  have hz2 : wr.heap.size ≤ w19.heap.size := hK2.size
  have hF2' : ∀ b, F2 b → F1 b ∨ wr.heap.size ≤ b := hF2
  have no2 : ∀ b, u.ownBlock = some b → ¬ F2 b := fun b hb h => by
    rcases hF2' b h with h | h
    · exact hno1 b hb h
    · have := (hown.lt b hb).2; omega
  have no3 : ∀ b, u.ownBlock = some b → ¬ F3 b := fun b hb h => by
    rcases hF3 b h with h | h
    · exact no2 b hb h
    · have := (hown.lt b hb).2; omega
  refine ⟨F3, hd3, fun b hb => ?_, (hK1.trans hK2.ofDrew (fun b hb h => (hF1 b h).resolve_right (by omega))).trans hK3 (fun b hb h => ?_), hK3.ownsRow (hK2.ofDrew.ownsRow hown hno1) no2, no3⟩
  · rcases hF3 b hb with h | h
    · rcases hF2' b h with h | h
      · exact hF1 b h
      · right; omega
    · right; omega
  · rcases hF2' b h with h | h
    · exact (hF1 b h).resolve_right (by omega)
    · omega



theorem size9 : (Tryz.prog.info? 9).map (·.size) = some 1 := by kernel_rfl
theorem zero3 : (Tryz.prog.info? 3).bind (·.zero) = some (.int .i64 0) := by kernel_rfl
theorem zero9 : (Tryz.prog.info? 9).bind (·.zero) = some (.string ⟨#[]⟩) := by kernel_rfl
theorem size126 : (Tryz.prog.info? 126).map (·.size) = some 9 := by kernel_rfl

set_option maxRecDepth 100000 in
set_option maxHeartbeats 4000000 in
theorem append_ok (l n B nseg : Nat) (F : Nat → Prop) (L : LogV) (a0 a1 a2 a3 a4 f g h : Int) (v vb : Value) (m : Nat) (w : World) (hd : DiskAt w L.d n B F) (hl : LogAt w l L) (hF : ¬ F l)
    (hE : EntriesAt EntryOk w v m w.heap.size) (hB : BlocksAt w vb m w.heap.size) (hm : m ≤ 24) (hs : L.sct = 48 + 32 * nseg) (hn : (n : Int) = L.sct) (hns0 : 8 ≤ nseg) (hns1 : nseg ≤ 137)
    (hseg : 0 ≤ L.x.seg ∧ L.x.seg < nseg) (hat : 0 ≤ L.x.at_ ∧ L.x.at_ + (1 + m) ≤ 32) (hh : 1 ≤ L.h ∧ L.h ≤ 16) (hg : 1 ≤ L.g ∧ L.g ≤ 65535) (hlife : 1 ≤ L.x.life ∧ L.x.life ≤ 1048575) (hseq : 1 ≤ L.x.seq ∧ L.x.seq ≤ 1099511627776)
    (hnx : 0 ≤ L.x.next ∧ L.x.next ≤ 65535) (hf : 0 ≤ f ∧ f ≤ 1099511627776) (hgg : 0 ≤ g ∧ g ≤ 1099511627777) (hhh : 0 ≤ h ∧ h ≤ 1099511627777) (hBB : B + 100 < 1000000000) (hfv : ∃ p m c, L.fv = .slice p m c) :
    Calls Tryz.prog 77 #[.pointer (some ⟨l, 0, none⟩), .agg #[.int .i64 a0, .int .i64 a1, .int .i64 a2, .int .i64 a3, .int .i64 a4, .int .i64 f, .int .i64 g, .int .i64 h, v], vb] w (AppendEnd l n B F L m f g h w) := by
  have hu := Tryz.underlying82
  have hi := size82 L.x
  obtain ⟨pe, ce, rfl, hjunk⟩ := id hE
  clear hjunk
  obtain ⟨pb, cb, rfl, hcb, hjunk⟩ := id hB
  clear hjunk
  have HE := Lib.hid hE
  have HB := Lib.hid hB
  have Hl := Lib.hid hl
  have Hd := Lib.hid hd
  have Hs := Lib.hid hs
  have Hn := Lib.hid hn
  have hlt := hl.lt
  clear hE hB hl hd hs hn
  have hm2 : (m : Int) ≤ 24 := by omega
  have hw1 : IntKind.i64.wrap (1 + (m : Int)) = 1 + m := by rw [IntKind.wrap_i64]; omega
  have hap : LogV.cells L = LogV.cells L := rfl
  clear hap
  go_enter Tryz.func77, Tryz.ntmps77
  go_wp2_with (first
    | (refine wpList_boxAt rfl 78 _ rfl #[.pointer (some ⟨l, 0, none⟩)] rfl ?_; intro w1 hA1 hk1 hs1)
    | (refine wpList_boxAt rfl 126 _ rfl #[.int .i64 a0, .int .i64 a1, .int .i64 a2, .int .i64 a3, .int .i64 a4, .int .i64 f, .int .i64 g, .int .i64 h, .slice pe m ce] rfl ?_; intro w2 hA2 hk2 hs2; have c1 : w2.cell? ⟨w.heap.size, 0, none⟩ = some (.pointer (some ⟨l, 0, none⟩)) := hk2.keepCell id (hA1.cell 0))
    | (go_at_call 119; refine (next_yes l L _ _ (hk2.at (hk1.at Hl.out id) id) hat.1 (by omega) (by omega) (by omega) (by omega) hfv).mono ?_; rintro e w3 ⟨rfl, hb3⟩; have c1' := Below.keepCell hb3 c1; clear c1)
    | (refine wpList_allocAt rfl 82 rfl zSlot zero82 ?_; intro w4 hz4 hk4 hs4)
    | (refine wpList_storeRow rfl 82 _ _ rfl rfl _ L.x.cells zSlot _ rfl rfl hz4 rfl hi (one82 _) ?_; intro w5 hA5 hk5 hs5))
  obtain ⟨b9, hb9⟩ : ∃ b, w3.heap.size = b := ⟨_, rfl⟩
  rw [hb9] at hA5 hk5 hs4 hz4
  have hz3 := hb3.size
  have B2 : Below w.heap.size w w2 := hk1.below.trans (hk2.below.mono (by omega))
  have B3 : Below w.heap.size w w3 := B2.trans (hb3.mono (by omega))
  have B4 : Below w.heap.size w w4 := B3.trans (hk4.below.mono (by omega))
  have B5 : Below w.heap.size w w5 := B4.trans (hk5.belowOf (by omega) (by intro b hb e; omega))
  have A4 := hk5.at (hk4.at (Below.at hb3 hA2 (by omega)) id) (show ¬ (w1.heap.size = b9) by omega)
  rw [hs1] at A4
  have A3 := hk5.at (hk4.at (Below.at hb3 (hk2.at hA1 id) (by omega)) id) (show ¬ (w.heap.size = b9) by omega)
  have HL5 := Lib.hid (Below.at B5 Hl.out hlt)
  have l1 : w5.cell? ⟨l, 1, none⟩ = some (.int .i64 L.sct) := HL5.out.cell 1
  have l2 : w5.cell? ⟨l, 2, none⟩ = some (.int .i64 32) := HL5.out.cell 2
  have x3 : w5.cell? ⟨b9, 3, none⟩ = some (.int .i64 L.x.seg) := hA5.cell 3
  have c1 : w5.cell? ⟨w.heap.size, 0, none⟩ = some (.pointer (some ⟨l, 0, none⟩)) := A3.cell 0
  clear c1' hA1 hA2 hz4 hk1 hk2 hk4 hk5 hb3 B2 B3 B4
  simp only [hb9]
  (try simp only [Act.put, List.setIfInBounds_toArray, List.set_cons_zero, List.set_cons_succ])
  refine wp_region_noPanic ?_
  refine T_region 8 (fun w' => w'.cell? ⟨w.heap.size, 0, none⟩ = some (.pointer (some ⟨l, 0, none⟩)) ∧ w'.cell? ⟨l, 1, none⟩ = some (.int .i64 L.sct) ∧ w'.cell? ⟨l, 2, none⟩ = some (.int .i64 32) ∧ w'.cell? ⟨b9, 3, none⟩ = some (.int .i64 L.x.seg)) (by kernel_rfl) (by kernel_rfl) (by kernel_rfl) (by decide) (by kernel_rfl) ⟨c1, l1, l2, x3⟩ (fun hHeld hU => ?_)
  refine T_take (i := 0) hU 28 ?_ rfl rfl (by decide) (by kernel_rfl) (by kernel_rfl) (fun _ _ _ h => h) (Or.inl ⟨by rfl, ?_⟩) hHeld ?_; rotate_left; (intro w hSw; (try dsimp only at hSw); go_simp); (try with_reducible rfl); clear hU; intro hU; (try simp only [Act.put, List.setIfInBounds_toArray, List.set_cons_zero, List.set_cons_succ])
  refine T_take (i := 1) hU 29 ?_ rfl rfl (by decide) (by kernel_rfl) (by kernel_rfl) (fun _ _ _ h => h) (Or.inl ⟨by rfl, ?_⟩) hHeld ?_; rotate_left; (intro w hSw; (try dsimp only at hSw); go_simp); (try with_reducible rfl); clear hU; intro hU; (try simp only [Act.put, List.setIfInBounds_toArray, List.set_cons_zero, List.set_cons_succ])
  refine T_take (i := 2) hU 30 ?_ rfl rfl (by decide) (by kernel_rfl) (by kernel_rfl) (fun _ _ _ h => h) (Or.inl ⟨by rfl, ?_⟩) hHeld ?_; rotate_left; (intro w hSw; (try dsimp only at hSw); go_simp); (try with_reducible rfl); clear hU; intro hU; (try simp only [Act.put, List.setIfInBounds_toArray, List.set_cons_zero, List.set_cons_succ])
  refine T_take (i := 3) hU 31 ?_ rfl rfl (by decide) (by kernel_rfl) (by kernel_rfl) (fun _ _ _ h => h) (Or.inl ⟨by rfl, ?_⟩) hHeld ?_; rotate_left; (intro w hSw; (try dsimp only at hSw); go_simp); (try with_reducible rfl); clear hU; intro hU; (try simp only [Act.put, List.setIfInBounds_toArray, List.set_cons_zero, List.set_cons_succ])
  refine T_take (i := 4) hU 32 ?_ rfl rfl (by decide) (by kernel_rfl) (by kernel_rfl) (fun _ _ _ h => h) (Or.inl ⟨by rfl, ?_⟩) hHeld ?_; rotate_left; (intro w hSw; (try dsimp only at hSw); go_simp); (try with_reducible rfl); clear hU; intro hU; (try simp only [Act.put, List.setIfInBounds_toArray, List.set_cons_zero, List.set_cons_succ])
  refine T_take (i := 5) hU 33 ?_ rfl rfl (by decide) (by kernel_rfl) (by kernel_rfl) (fun _ _ _ h => h) (Or.inl ⟨by rfl, ?_⟩) hHeld ?_; rotate_left; (intro w hSw; (try dsimp only at hSw); go_simp); (try with_reducible rfl); clear hU; intro hU; (try simp only [Act.put, List.setIfInBounds_toArray, List.set_cons_zero, List.set_cons_succ])
  refine T_take (i := 6) hU 34 ?_ rfl rfl (by decide) (by kernel_rfl) (by kernel_rfl) (fun _ _ _ h => h) (Or.inl ⟨by rfl, ?_⟩) hHeld ?_; rotate_left; (intro w hSw; (try dsimp only at hSw); go_simp); (try with_reducible rfl); clear hU; intro hU; (try simp only [Act.put, List.setIfInBounds_toArray, List.set_cons_zero, List.set_cons_succ])
  have hHeld7 := hHeld
  refine T_step (i := 7) hU rfl (by decide) (by kernel_rfl) (fun K hK => ?_); clear hU hHeld
  go_simp
  go_at_call 55
  refine (start_ok _ _ nseg _ Hs.out hns0 hns1 hseg.1 hseg.2).mono ?_
  rintro e w6 ⟨rfl, hb6⟩
  refine hK.out _ _ (⟨Below.keepCell hb6 hHeld7.1, Below.keepCell hb6 hHeld7.2.1, Below.keepCell hb6 hHeld7.2.2.1, Below.keepCell hb6 hHeld7.2.2.2⟩) (fun hHeld hU => ?_); clear hK K; (try simp only [Act.put, List.setIfInBounds_toArray, List.set_cons_zero, List.set_cons_succ])
  refine T_last (N := 8) rfl (by kernel_rfl) (by kernel_rfl) (fun K hK => ?_); clear hU hHeld
  go_simp
  refine hK.out _ _ (NoPanic.normal ?_); clear hK K
  have q0 : ((48 + L.x.seg * 32 : Int) == 0) = false := by simp; omega
  have q1 : ¬ (48 + L.x.seg * 32 = 0) := by omega
  clear l1 l2 x3 c1
  go_wp2
  have B6 : Below w.heap.size w w6 := B5.drew.trans (hb6.mono B5.size)
  have hz5 := B5.size
  have A4b := Below.at hb6 A4.drew (by show _ < w5.heap.size; omega)
  have HL6 := Lib.hid (Below.at hb6 HL5.out.drew (by show _ < w5.heap.size; omega))
  have A9 := Below.at hb6 hA5.drew (by show _ < w5.heap.size; omega)
  have A3b := Below.at hb6 A3.drew (by show _ < w5.heap.size; omega)
  have c1 : w6.cell? ⟨w.heap.size, 0, none⟩ = some (.pointer (some ⟨l, 0, none⟩)) := A3b.cell 0
  have l3 : w6.cell? ⟨l, 3, none⟩ = some (.int .i64 L.h) := HL6.out.cell 3
  have l4 : w6.cell? ⟨l, 4, none⟩ = some (.int .i64 L.g) := HL6.out.cell 4
  have x1 : w6.cell? ⟨b9, 1, none⟩ = some (.int .i64 L.x.life) := A9.cell 1
  have x5 : w6.cell? ⟨b9, 5, none⟩ = some (.int .i64 L.x.next) := A9.cell 5
  have x6 : w6.cell? ⟨b9, 6, none⟩ = some (.int .i64 L.x.seq) := A9.cell 6
  clear A4 hA5 A3 hb6
  have nb1 : ¬ (w.heap.size = w.heap.size + 1) := by omega
  have nb2 : ¬ (l = w.heap.size + 1) := by omega
  have nb3 : ¬ (b9 = w.heap.size + 1) := by omega
  (try simp only [Act.put, List.setIfInBounds_toArray, List.set_cons_zero, List.set_cons_succ])
  refine wp_region_noPanic ?_
  refine T_region 23 (fun w' => w'.cell? ⟨w.heap.size, 0, none⟩ = some (.pointer (some ⟨l, 0, none⟩)) ∧ w'.cell? ⟨l, 3, none⟩ = some (.int .i64 L.h) ∧ w'.cell? ⟨l, 4, none⟩ = some (.int .i64 L.g) ∧ w'.cell? ⟨b9, 1, none⟩ = some (.int .i64 L.x.life) ∧ w'.cell? ⟨b9, 5, none⟩ = some (.int .i64 L.x.next) ∧ w'.cell? ⟨b9, 6, none⟩ = some (.int .i64 L.x.seq)) (by kernel_rfl) (by kernel_rfl) (by kernel_rfl) (by decide) (by kernel_rfl) ⟨c1, l3, l4, x1, x5, x6⟩ (fun hHeld hU => ?_)
  refine T_take (i := 0) hU 42 ?_ rfl rfl (by decide) (by kernel_rfl) (by kernel_rfl) (fun _ _ _ h => h) (Or.inl ⟨by rfl, ?_⟩) hHeld ?_; rotate_left; (intro w hSw; (try dsimp only at hSw); go_simp); (try with_reducible rfl); clear hU; intro hU; (try simp only [Act.put, List.setIfInBounds_toArray, List.set_cons_zero, List.set_cons_succ])
  refine T_take (i := 1) hU 43 ?_ rfl rfl (by decide) (by kernel_rfl) (by kernel_rfl) (fun _ _ _ h => h) (Or.inl ⟨by rfl, ?_⟩) hHeld ?_; rotate_left; (intro w hSw; (try dsimp only at hSw); go_simp); (try with_reducible rfl); clear hU; intro hU; (try simp only [Act.put, List.setIfInBounds_toArray, List.set_cons_zero, List.set_cons_succ])
  refine T_take (i := 2) hU 44 ?_ rfl rfl (by decide) (by kernel_rfl) (by kernel_rfl) (fun _ _ _ h => h) (Or.inl ⟨by rfl, ?_⟩) hHeld ?_; rotate_left; (intro w hSw; (try dsimp only at hSw); go_simp); (try with_reducible rfl); clear hU; intro hU; (try simp only [Act.put, List.setIfInBounds_toArray, List.set_cons_zero, List.set_cons_succ])
  refine T_take (i := 3) hU 45 ?_ rfl rfl (by decide) (by kernel_rfl) (by kernel_rfl) (fun _ _ _ h => h) (Or.inl ⟨by rfl, ?_⟩) hHeld ?_; rotate_left; (intro w hSw; (try dsimp only at hSw); go_simp); (try with_reducible rfl); clear hU; intro hU; (try simp only [Act.put, List.setIfInBounds_toArray, List.set_cons_zero, List.set_cons_succ])
  refine T_take (i := 4) hU 46 ?_ rfl rfl (by decide) (by kernel_rfl) (by kernel_rfl) (fun _ _ _ h => h) (Or.inl ⟨by rfl, ?_⟩) hHeld ?_; rotate_left; (intro w hSw; (try dsimp only at hSw); go_simp); (try with_reducible rfl); clear hU; intro hU; (try simp only [Act.put, List.setIfInBounds_toArray, List.set_cons_zero, List.set_cons_succ])
  refine T_take (i := 5) hU 47 ?_ rfl rfl (by decide) (by kernel_rfl) (by kernel_rfl) (fun _ _ _ h => h) (Or.inl ⟨by rfl, ?_⟩) hHeld ?_; rotate_left; (intro w hSw; (try dsimp only at hSw); go_simp); (try with_reducible rfl); clear hU; intro hU; (try simp only [Act.put, List.setIfInBounds_toArray, List.set_cons_zero, List.set_cons_succ])
  refine T_take (i := 6) hU 48 ?_ rfl rfl (by decide) (by kernel_rfl) (by kernel_rfl) (fun _ _ _ h => h) (Or.inl ⟨by rfl, ?_⟩) hHeld ?_; rotate_left; (intro w hSw; (try dsimp only at hSw); go_simp); (try with_reducible rfl); clear hU; intro hU; (try simp only [Act.put, List.setIfInBounds_toArray, List.set_cons_zero, List.set_cons_succ])
  refine T_take (i := 7) hU 49 ?_ rfl rfl (by decide) (by kernel_rfl) (by kernel_rfl) (fun _ _ _ h => h) (Or.inl ⟨by rfl, ?_⟩) hHeld ?_; rotate_left; (intro w hSw; (try dsimp only at hSw); go_simp); (try with_reducible rfl); clear hU; intro hU; (try simp only [Act.put, List.setIfInBounds_toArray, List.set_cons_zero, List.set_cons_succ])
  refine T_take (i := 8) hU 50 ?_ rfl rfl (by decide) (by kernel_rfl) (by kernel_rfl) (fun _ _ _ h => h) (Or.inl ⟨by rfl, ?_⟩) hHeld ?_; rotate_left; (intro w hSw; (try dsimp only at hSw); go_simp); (try with_reducible rfl); clear hU; intro hU; (try simp only [Act.put, List.setIfInBounds_toArray, List.set_cons_zero, List.set_cons_succ])
  refine T_take (i := 9) hU 51 ?_ rfl rfl (by decide) (by kernel_rfl) (by kernel_rfl) (fun _ _ _ h => h) (Or.inl ⟨by rfl, ?_⟩) hHeld ?_; rotate_left; (intro w hSw; (try dsimp only at hSw); go_simp); (try with_reducible rfl); clear hU; intro hU; (try simp only [Act.put, List.setIfInBounds_toArray, List.set_cons_zero, List.set_cons_succ])
  refine T_take (i := 10) hU 52 ?_ rfl rfl (by decide) (by kernel_rfl) (by kernel_rfl) (fun _ _ _ h => h) (Or.inl ⟨by rfl, ?_⟩) hHeld ?_; rotate_left; (intro w hSw; (try dsimp only at hSw); go_simp); (try with_reducible rfl); clear hU; intro hU; (try simp only [Act.put, List.setIfInBounds_toArray, List.set_cons_zero, List.set_cons_succ])
  refine T_take (i := 11) hU 53 ?_ rfl rfl (by decide) (by kernel_rfl) (by kernel_rfl) (fun _ _ _ h => h) (Or.inl ⟨by rfl, ?_⟩) hHeld ?_; rotate_left; (intro w hSw; (try dsimp only at hSw); go_simp); (try with_reducible rfl); clear hU; intro hU; (try simp only [Act.put, List.setIfInBounds_toArray, List.set_cons_zero, List.set_cons_succ])
  refine T_take (i := 12) hU 54 ?_ rfl rfl (by decide) (by kernel_rfl) (by kernel_rfl) (fun _ _ _ h => h) (Or.inl ⟨by rfl, ?_⟩) hHeld ?_; rotate_left; (intro w hSw; (try dsimp only at hSw); go_simp); (try with_reducible rfl); clear hU; intro hU; (try simp only [Act.put, List.setIfInBounds_toArray, List.set_cons_zero, List.set_cons_succ])
  refine T_take (i := 13) hU 55 ?_ rfl rfl (by decide) (by kernel_rfl) (by kernel_rfl) (fun _ _ _ h => h) (Or.inl ⟨by rfl, ?_⟩) hHeld ?_; rotate_left; (intro w hSw; (try dsimp only at hSw); go_simp); (try with_reducible rfl); clear hU; intro hU; (try simp only [Act.put, List.setIfInBounds_toArray, List.set_cons_zero, List.set_cons_succ])
  refine T_take (i := 14) hU 56 ?_ rfl rfl (by decide) (by kernel_rfl) (by kernel_rfl) (fun _ _ _ h => h) (Or.inl ⟨by rfl, ?_⟩) hHeld ?_; rotate_left; (intro w hSw; (try dsimp only at hSw); go_simp); (try with_reducible rfl); clear hU; intro hU; (try simp only [Act.put, List.setIfInBounds_toArray, List.set_cons_zero, List.set_cons_succ])
  have hHeld15 := hHeld
  refine T_step (i := 15) hU rfl (by decide) (by kernel_rfl) (fun K hK => ?_); clear hU hHeld
  refine step_storeCell rfl 3 _ _ rfl rfl (w.heap.size + 1) 0 (.int .i64 L.h) _ _ rfl rfl A4b.drew (by simp) size3 rfl rfl (fun w7 hA7 hk7 hs7 => ?_)
  refine hK.out _ _ (⟨hk7.keepCell nb1 hHeld15.1, hk7.keepCell nb2 hHeld15.2.1, hk7.keepCell nb2 hHeld15.2.2.1, hk7.keepCell nb3 hHeld15.2.2.2.1, hk7.keepCell nb3 hHeld15.2.2.2.2.1, hk7.keepCell nb3 hHeld15.2.2.2.2.2⟩) (fun hHeld hU => ?_); clear hK K; (try simp only [Act.put, List.setIfInBounds_toArray, List.set_cons_zero, List.set_cons_succ])
  refine T_take (i := 16) hU 57 ?_ rfl rfl (by decide) (by kernel_rfl) (by kernel_rfl) (fun _ _ _ h => h) (Or.inl ⟨by rfl, ?_⟩) hHeld ?_; rotate_left; (intro w hSw; (try dsimp only at hSw); go_simp); (try with_reducible rfl); clear hU; intro hU; (try simp only [Act.put, List.setIfInBounds_toArray, List.set_cons_zero, List.set_cons_succ])
  have hHeld17 := hHeld
  refine T_step (i := 17) hU rfl (by decide) (by kernel_rfl) (fun K hK => ?_); clear hU hHeld
  refine step_storeCell rfl 3 _ _ rfl rfl (w.heap.size + 1) 1 (.int .i64 L.g) _ _ rfl rfl (show At w7 (w.heap.size + 1) #[.int .i64 L.h, .int .i64 a1, .int .i64 a2, .int .i64 a3, .int .i64 a4, .int .i64 f, .int .i64 g, .int .i64 h, .slice pe m ce] 126 from hA7) (by simp) size3 rfl rfl (fun w8 hA8 hk8 hs8 => ?_)
  refine hK.out _ _ (⟨hk8.keepCell nb1 hHeld17.1, hk8.keepCell nb2 hHeld17.2.1, hk8.keepCell nb2 hHeld17.2.2.1, hk8.keepCell nb3 hHeld17.2.2.2.1, hk8.keepCell nb3 hHeld17.2.2.2.2.1, hk8.keepCell nb3 hHeld17.2.2.2.2.2⟩) (fun hHeld hU => ?_); clear hK K; (try simp only [Act.put, List.setIfInBounds_toArray, List.set_cons_zero, List.set_cons_succ])
  refine T_take (i := 18) hU 58 ?_ rfl rfl (by decide) (by kernel_rfl) (by kernel_rfl) (fun _ _ _ h => h) (Or.inl ⟨by rfl, ?_⟩) hHeld ?_; rotate_left; (intro w hSw; (try dsimp only at hSw); go_simp); (try with_reducible rfl); clear hU; intro hU; (try simp only [Act.put, List.setIfInBounds_toArray, List.set_cons_zero, List.set_cons_succ])
  have hHeld19 := hHeld
  refine T_step (i := 19) hU rfl (by decide) (by kernel_rfl) (fun K hK => ?_); clear hU hHeld
  refine step_storeCell rfl 3 _ _ rfl rfl (w.heap.size + 1) 2 (.int .i64 L.x.life) _ _ rfl rfl (show At w8 (w.heap.size + 1) #[.int .i64 L.h, .int .i64 L.g, .int .i64 a2, .int .i64 a3, .int .i64 a4, .int .i64 f, .int .i64 g, .int .i64 h, .slice pe m ce] 126 from hA8) (by simp) size3 rfl rfl (fun w9 hA9 hk9 hs9 => ?_)
  refine hK.out _ _ (⟨hk9.keepCell nb1 hHeld19.1, hk9.keepCell nb2 hHeld19.2.1, hk9.keepCell nb2 hHeld19.2.2.1, hk9.keepCell nb3 hHeld19.2.2.2.1, hk9.keepCell nb3 hHeld19.2.2.2.2.1, hk9.keepCell nb3 hHeld19.2.2.2.2.2⟩) (fun hHeld hU => ?_); clear hK K; (try simp only [Act.put, List.setIfInBounds_toArray, List.set_cons_zero, List.set_cons_succ])
  refine T_take (i := 20) hU 59 ?_ rfl rfl (by decide) (by kernel_rfl) (by kernel_rfl) (fun _ _ _ h => h) (Or.inl ⟨by rfl, ?_⟩) hHeld ?_; rotate_left; (intro w hSw; (try dsimp only at hSw); go_simp); (try with_reducible rfl); clear hU; intro hU; (try simp only [Act.put, List.setIfInBounds_toArray, List.set_cons_zero, List.set_cons_succ])
  have hHeld21 := hHeld
  refine T_step (i := 21) hU rfl (by decide) (by kernel_rfl) (fun K hK => ?_); clear hU hHeld
  refine step_storeCell rfl 3 _ _ rfl rfl (w.heap.size + 1) 3 (.int .i64 L.x.seq) _ _ rfl rfl (show At w9 (w.heap.size + 1) #[.int .i64 L.h, .int .i64 L.g, .int .i64 L.x.life, .int .i64 a3, .int .i64 a4, .int .i64 f, .int .i64 g, .int .i64 h, .slice pe m ce] 126 from hA9) (by simp) size3 rfl rfl (fun w10 hA10 hk10 hs10 => ?_)
  refine hK.out _ _ (⟨hk10.keepCell nb1 hHeld21.1, hk10.keepCell nb2 hHeld21.2.1, hk10.keepCell nb2 hHeld21.2.2.1, hk10.keepCell nb3 hHeld21.2.2.2.1, hk10.keepCell nb3 hHeld21.2.2.2.2.1, hk10.keepCell nb3 hHeld21.2.2.2.2.2⟩) (fun hHeld hU => ?_); clear hK K; (try simp only [Act.put, List.setIfInBounds_toArray, List.set_cons_zero, List.set_cons_succ])
  refine T_take (i := 22) hU 60 ?_ rfl rfl (by decide) (by kernel_rfl) (by kernel_rfl) (fun _ _ _ h => h) (Or.inl ⟨by rfl, ?_⟩) hHeld ?_; rotate_left; (intro w hSw; (try dsimp only at hSw); go_simp); (try with_reducible rfl); clear hU; intro hU; (try simp only [Act.put, List.setIfInBounds_toArray, List.set_cons_zero, List.set_cons_succ])
  refine T_last (N := 23) rfl (by kernel_rfl) (by kernel_rfl) (fun K hK => ?_); clear hU hHeld
  refine step_storeCell rfl 3 _ _ rfl rfl (w.heap.size + 1) 4 (.int .i64 L.x.next) _ _ rfl rfl (show At w10 (w.heap.size + 1) #[.int .i64 L.h, .int .i64 L.g, .int .i64 L.x.life, .int .i64 L.x.seq, .int .i64 a4, .int .i64 f, .int .i64 g, .int .i64 h, .slice pe m ce] 126 from hA10) (by simp) size3 rfl rfl (fun w11 hA11 hk11 hs11 => ?_)
  refine hK.out _ _ (NoPanic.normal ?_); clear hK K
  have A4 : At w11 (w.heap.size + 1) #[.int .i64 L.h, .int .i64 L.g, .int .i64 L.x.life, .int .i64 L.x.seq, .int .i64 L.x.next, .int .i64 f, .int .i64 g, .int .i64 h, .slice pe m ce] 126 := hA11
  have K11 : Keep (· = w.heap.size + 1) w6 w11 := ((((hk7.trans hk8 (fun _ _ h => h)).trans hk9 (fun _ _ h => h)).trans hk10 (fun _ _ h => h)).trans hk11 (fun _ _ h => h)).ofDrew
  have hz11 : w11.heap.size = w6.heap.size := by rw [hs11, hs10, hs9, hs8, hs7]; rfl
  clear hA7 hA8 hA9 hA10 hA11 hk7 hk8 hk9 hk10 hk11 hs7 hs8 hs9 hs10 hs11 l3 l4 x1 x5 x6 A4b
  have B11 : Below w.heap.size w w11 := B6.trans (K11.belowOf B6.size (by intro b hb e; omega))
  have HE11 := Lib.hid (((HE.out.below B11).mono B11.size))
  have HB11 := Lib.hid (HB.out.below B11 (Nat.le_refl _))
  have c1b : w11.cell? ⟨w.heap.size, 0, none⟩ = some (.pointer (some ⟨l, 0, none⟩)) := K11.keepCell nb1 c1
  have A9b := K11.at A9 nb3
  have A3c := K11.at A3b nb1
  have HL11 := Lib.hid (K11.at HL6.out nb2)
  have hu126 := Tryz.underlying126
  clear c1 A9
  have H4 := Lib.hid A4
  clear A4
  go_wp2_with (first
    | (refine wpList_load_row rfl 126 _ rfl (w.heap.size + 1) rfl 126 #[.int .i64 L.h, .int .i64 L.g, .int .i64 L.x.life, .int .i64 L.x.seq, .int .i64 L.x.next, .int .i64 f, .int .i64 g, .int .i64 h, .slice pe m ce] (0, 0) _ H4.out hu126 rfl size126 ?_)
    | (go_at_call 120
       refine (make_ok L.h L.g L.x.life L.x.seq L.x.next f g h (.slice pe m ce) (.slice pb m cb) m _ HE11.out ?hb hm hh hg hlife hseq hnx hf hgg hhh).mono ?_
       case hb => exact BlocksAt.mono HB11.out B11.size
       rintro e w12 ⟨s, hs, rfl, hb12⟩)
    | (refine wpList_allocOne rfl 9 rfl (.string ⟨#[]⟩) zero9 rfl ?_; intro w13 hA13 hk13 hs13)
    | (refine wpList_storeCell rfl 9 _ _ rfl rfl w12.heap.size 0 (.string s) _ _ rfl rfl hA13 (by simp) size9 rfl rfl ?_; intro w14 hA14 hk14 hs14))
  have hz12 := hb12.size
  have C14 : Below w11.heap.size w11 w14 := (hb12.trans (hk13.below.mono hz12)).trans (hk14.belowOf (by omega) (by intro b hb e; omega))
  have B14 : Below w.heap.size w w14 := B11.trans (C14.mono B11.size)
  have c1c := Below.keepCell C14 c1b
  have l2 : w14.cell? ⟨l, 2, none⟩ = some (.int .i64 32) := Below.keepCell C14 (HL11.out.cell 2)
  have x4 : w14.cell? ⟨b9, 4, none⟩ = some (.int .i64 L.x.at_) := Below.keepCell C14 (A9b.cell 4)
  have e8 : decide (32 < L.x.at_ + (1 + (m : Int))) = false := by simp; omega
  have hw8 : IntKind.i64.wrap (L.x.at_ + (1 + (m : Int))) = L.x.at_ + (1 + m) := by rw [IntKind.wrap_i64]; omega
  have HL14 := Lib.hid (Below.at C14 HL11.out HL11.out.lt)
  have A9c := Below.at C14 A9b A9b.lt
  have As := hA14
  have Ab := Below.at C14 A3c A3c.lt
  have Ah := Below.at C14 H4.out H4.out.lt
  clear H4
  clear hb12 hk13 hA13 hk14 hA14 c1b A9b HE11 HB11 A3b A3c
  (try simp only [Act.put, List.setIfInBounds_toArray, List.set_cons_zero, List.set_cons_succ])
  refine wp_region_noPanic ?_
  refine T_region 14 (fun w' => w'.cell? ⟨w.heap.size, 0, none⟩ = some (.pointer (some ⟨l, 0, none⟩)) ∧ w'.cell? ⟨l, 2, none⟩ = some (.int .i64 32) ∧ w'.cell? ⟨b9, 4, none⟩ = some (.int .i64 L.x.at_)) (by kernel_rfl) (by kernel_rfl) (by kernel_rfl) (by decide) (by kernel_rfl) ⟨c1c, l2, x4⟩ (fun hHeld hU => ?_)
  refine T_take (i := 0) hU 67 ?_ rfl rfl (by decide) (by kernel_rfl) (by kernel_rfl) (fun _ _ _ h => h) (Or.inl ⟨by rfl, ?_⟩) hHeld ?_; rotate_left; (intro w hSw; (try dsimp only at hSw); go_simp); (try with_reducible rfl); clear hU; intro hU; (try simp only [Act.put, List.setIfInBounds_toArray, List.set_cons_zero, List.set_cons_succ])
  refine T_take (i := 1) hU 68 ?_ rfl rfl (by decide) (by kernel_rfl) (by kernel_rfl) (fun _ _ _ h => h) (Or.inl ⟨by rfl, ?_⟩) hHeld ?_; rotate_left; (intro w hSw; (try dsimp only at hSw); go_simp); (try with_reducible rfl); clear hU; intro hU; (try simp only [Act.put, List.setIfInBounds_toArray, List.set_cons_zero, List.set_cons_succ])
  refine T_take (i := 2) hU 69 ?_ rfl rfl (by decide) (by kernel_rfl) (by kernel_rfl) (fun _ _ _ h => h) (Or.inl ⟨by rfl, ?_⟩) hHeld ?_; rotate_left; (intro w hSw; (try dsimp only at hSw); go_simp); (try with_reducible rfl); clear hU; intro hU; (try simp only [Act.put, List.setIfInBounds_toArray, List.set_cons_zero, List.set_cons_succ])
  refine T_take (i := 3) hU 70 ?_ rfl rfl (by decide) (by kernel_rfl) (by kernel_rfl) (fun _ _ _ h => h) (Or.inl ⟨by rfl, ?_⟩) hHeld ?_; rotate_left; (intro w hSw; (try dsimp only at hSw); go_simp); (try with_reducible rfl); clear hU; intro hU; (try simp only [Act.put, List.setIfInBounds_toArray, List.set_cons_zero, List.set_cons_succ])
  refine T_take (i := 4) hU 71 ?_ rfl rfl (by decide) (by kernel_rfl) (by kernel_rfl) (fun _ _ _ h => h) (Or.inl ⟨by rfl, ?_⟩) hHeld ?_; rotate_left; (intro w hSw; (try dsimp only at hSw); go_simp); (try with_reducible rfl); clear hU; intro hU; (try simp only [Act.put, List.setIfInBounds_toArray, List.set_cons_zero, List.set_cons_succ])
  refine T_take (i := 5) hU 72 ?_ rfl rfl (by decide) (by kernel_rfl) (by kernel_rfl) (fun _ _ _ h => h) (Or.inl ⟨by rfl, ?_⟩) hHeld ?_; rotate_left; (intro w hSw; (try dsimp only at hSw); go_simp); (try with_reducible rfl); clear hU; intro hU; (try simp only [Act.put, List.setIfInBounds_toArray, List.set_cons_zero, List.set_cons_succ])
  refine T_take (i := 6) hU 73 ?_ rfl rfl (by decide) (by kernel_rfl) (by kernel_rfl) (fun _ _ _ h => h) (Or.inl ⟨by rfl, ?_⟩) hHeld ?_; rotate_left; (intro w hSw; (try dsimp only at hSw); go_simp); (try with_reducible rfl); clear hU; intro hU; (try simp only [Act.put, List.setIfInBounds_toArray, List.set_cons_zero, List.set_cons_succ])
  refine T_take (i := 7) hU 74 ?_ rfl rfl (by decide) (by kernel_rfl) (by kernel_rfl) (fun _ _ _ h => h) (Or.inl ⟨by rfl, ?_⟩) hHeld ?_; rotate_left; (intro w hSw; (try dsimp only at hSw); go_simp); (try with_reducible rfl); clear hU; intro hU; (try simp only [Act.put, List.setIfInBounds_toArray, List.set_cons_zero, List.set_cons_succ])
  refine T_take (i := 8) hU 75 ?_ rfl rfl (by decide) (by kernel_rfl) (by kernel_rfl) (fun _ _ _ h => h) (Or.inl ⟨by rfl, ?_⟩) hHeld ?_; rotate_left; (intro w hSw; (try dsimp only at hSw); go_simp); (try with_reducible rfl); clear hU; intro hU; (try simp only [Act.put, List.setIfInBounds_toArray, List.set_cons_zero, List.set_cons_succ])
  refine T_take (i := 9) hU 76 ?_ rfl rfl (by decide) (by kernel_rfl) (by kernel_rfl) (fun _ _ _ h => h) (Or.inl ⟨by rfl, ?_⟩) hHeld ?_; rotate_left; (intro w hSw; (try dsimp only at hSw); go_simp); (try with_reducible rfl); clear hU; intro hU; (try simp only [Act.put, List.setIfInBounds_toArray, List.set_cons_zero, List.set_cons_succ])
  refine T_take (i := 10) hU 77 ?_ rfl rfl (by decide) (by kernel_rfl) (by kernel_rfl) (fun _ _ _ h => h) (Or.inl ⟨by rfl, ?_⟩) hHeld ?_; rotate_left; (intro w hSw; (try dsimp only at hSw); go_simp); (try with_reducible rfl); clear hU; intro hU; (try simp only [Act.put, List.setIfInBounds_toArray, List.set_cons_zero, List.set_cons_succ])
  refine T_take (i := 11) hU 78 ?_ rfl rfl (by decide) (by kernel_rfl) (by kernel_rfl) (fun _ _ _ h => h) (Or.inl ⟨by rfl, ?_⟩) hHeld ?_; rotate_left; (intro w hSw; (try dsimp only at hSw); go_simp); (try with_reducible rfl); clear hU; intro hU; (try simp only [Act.put, List.setIfInBounds_toArray, List.set_cons_zero, List.set_cons_succ])
  refine T_take (i := 12) hU 79 ?_ rfl rfl (by decide) (by kernel_rfl) (by kernel_rfl) (fun _ _ _ h => h) (Or.inl ⟨by rfl, ?_⟩) hHeld ?_; rotate_left; (intro w hSw; (try dsimp only at hSw); go_simp); (try with_reducible rfl); clear hU; intro hU; (try simp only [Act.put, List.setIfInBounds_toArray, List.set_cons_zero, List.set_cons_succ])
  refine T_take (i := 13) hU 80 ?_ rfl rfl (by decide) (by kernel_rfl) (by kernel_rfl) (fun _ _ _ h => h) (Or.inl ⟨by rfl, ?_⟩) hHeld ?_; rotate_left; (intro w hSw; (try dsimp only at hSw); go_simp); (try with_reducible rfl); clear hU; intro hU; (try simp only [Act.put, List.setIfInBounds_toArray, List.set_cons_zero, List.set_cons_succ])
  refine T_last (N := 14) rfl (by kernel_rfl) (by kernel_rfl) (fun K hK => ?_); clear hU hHeld
  go_simp
  refine hK.out _ _ (NoPanic.normal ?_); clear hK K
  clear e8 hw8
  have hmf : ∀ (fn : Fn) (first cap : Array Value) (w : World), (Instr.makeFunc fn first cap).run Tryz.prog w = .ok (.func fn first cap) w := fun _ _ _ _ => rfl
  have hw9 : IntKind.i64.wrap (48 + L.x.seg * 32 + L.x.at_) = 48 + L.x.seg * 32 + L.x.at_ := by rw [IntKind.wrap_i64]; omega
  have x4 : w14.drew.cell? ⟨b9, 4, none⟩ = some (.int .i64 L.x.at_) := A9c.cell 4
  have hz14 : w14.drew.heap.size = w14.heap.size := rfl
  go_wp2_with (first
    | (refine wpList_allocOne rfl 3 rfl (.int .i64 0) zero3 rfl ?_; intro w15 hA15 hk15 hs15)
    | (refine wpList_storeCell rfl 3 _ _ rfl rfl w14.heap.size 0 (.int .i64 (48 + L.x.seg * 32 + L.x.at_)) _ _ rfl rfl hA15 (by simp) size3 rfl rfl ?_; intro w16 hA16 hk16 hs16))
  clear x4 hw9 c1c l2 hw1
  have hz12b := hs13
  have D16 : Below w14.heap.size w14 w16 := (World.drew_below0 w14).trans ((hk15.below.mono (by rw [hz14]; omega)).trans (hk16.belowOf (by omega) (by intro b hb e; omega)))
  have B16 : Below w.heap.size w w16 := B14.trans (D16.mono B14.size)
  have Hd16 := Lib.hid (Hd.out.below B16)
  have hFlt := Hd.out.lt
  have HL16 := Lib.hid (Below.at D16 HL14.out HL14.out.lt)
  have A9d := Lib.hid (Below.at D16 A9c A9c.lt)
  have Ab16 := Lib.hid (Below.at D16 Ab Ab.lt)
  have Ah16 := Lib.hid (Below.at D16 Ah Ah.lt)
  have As16 := Lib.hid (Below.at D16 As As.lt)
  have Aa16 := Lib.hid hA16
  obtain ⟨bs, hbs⟩ : ∃ b, w12.heap.size = b := ⟨_, rfl⟩
  obtain ⟨ba, hba⟩ : ∃ b, w14.heap.size = b := ⟨_, rfl⟩
  have nF : ∀ b, w.heap.size ≤ b → ¬ F b := fun b hb hf => by have := hFlt b hf; omega
  have zz1 := B11.size
  have zz2 := B14.size
  have lb9 : w.heap.size + 2 ≤ b9 := by omega
  have lbs : w.heap.size ≤ bs := by omega
  have lba : w.heap.size ≤ ba := by omega
  have lt0 := Ab16.out.lt
  have lt1 := Ah16.out.lt
  have lt9 := A9d.out.lt
  have lts := As16.out.lt
  have lta := Aa16.out.lt
  have ltl := HL16.out.lt
  clear hA16 As Ah Ab A9c D16 C14 B14 B11 B5 B6 K11 hk15 hk16
  have HZ := Lib.hid (show w12.heap.size + 1 = ba by omega)
  have hbs2 := hbs
  have hba2 := hba
  rw [hbs] at lts As16
  rw [hba] at lta Aa16
  have nbs : bs ≠ ba := by omega
  have hsz : (m + 1) * 256 = s.size := hs.symm
  have Hsz := Lib.hid hsz
  have hbb : bs + 1 = ba := by omega
  have Hbb := Lib.hid hbb
  clear hs hs2 hs4 hs5 hs13 hs14 hs15 hs16 hz11 hz12 hz12b hz14 hz3 hz5 hbs2 hba2 hsz hbb hba hs1 zz1 zz2
  simp only [hbs, Hbb.out]
  clear hbs
  go_loopg [14, 17] m (fun gk v i wr => ∃ k : Nat, k ≤ m ∧ gk = m - k ∧ i = .int .i64 (1 + k) ∧ ∃ F', DiskAt wr L.d n (B + k) F' ∧ (∀ b, F' b → F b ∨ w16.heap.size ≤ b) ∧ Keep F w16 wr ∧
    wr.ownsRow w16.heap.size 3 1 v k ((List.range k).map fun (i : Nat) => Value.int .i64 (48 + L.x.seg * 32 + L.x.at_ + 1 + (i : Int))) ∧ ∀ b, v.ownBlock = some b → ¬ F' b)
  case atStart => exact ⟨0, by omega, by omega, rfl, F, by simpa using Hd16.out, fun b hb => .inl hb, Keep.refl _ _, World.ownsRow_nil _ _ _ _, by simp [Value.ownBlock]⟩
  case round =>
    obtain ⟨k, hk, hgk, rfl, F1, hd1, hF1, hK1, hown1, hno1⟩ := hrel
    have Hgk := Lib.hid hgk
    have Hd1 := Lib.hid hd1
    have hF1lt := hd1.lt
    have n0 : ∀ b, b < w16.heap.size → ¬ F b → ¬ F1 b := fun b hb h0 h1 => by rcases hF1 b h1 with h2 | h2; exact h0 h2; omega
    have q1 : wr.cell? ⟨w.heap.size, 0, none⟩ = some (.pointer (some ⟨l, 0, none⟩)) := hK1.keepCell (nF _ (Nat.le_refl _)) (Ab16.out.cell 0)
    have q2 : wr.cell? ⟨l, 0, none⟩ = some (.pointer (some ⟨L.d, 0, none⟩)) := hK1.keepCell hF (HL16.out.cell 0)
    have q3 : wr.cell? ⟨l, 3, none⟩ = some (.int .i64 L.h) := hK1.keepCell hF (HL16.out.cell 3)
    have q4 : wr.cell? ⟨ba, 0, none⟩ = some (.int .i64 (48 + L.x.seg * 32 + L.x.at_)) := hK1.keepCell (nF _ lba) (Aa16.out.cell 0)
    have q5 : wr.cell? ⟨bs, 0, none⟩ = some (.string s) := hK1.keepCell (nF _ lbs) (As16.out.cell 0)
    have Q1 := Lib.hid q1
    have Q2 := Lib.hid q2
    have Q3 := Lib.hid q3
    have Q4 := Lib.hid q4
    have Q5 := Lib.hid q5
    clear hgk hd1 q1 q2 q3 q4 q5
    by_cases hlt : k < m
    · have hput := fun (i : Int) (hi0 : 0 ≤ i) (hi1 : i ≤ 24) (ha1 : 48 + L.x.seg * 32 + L.x.at_ + i < n) (hss : (i + 1) * 256 ≤ s.size) => aput_ok w.heap.size ba bs l L.d n (B + k) F1 L.h (48 + L.x.seg * 32 + L.x.at_) i s wr Hd1.out Q1.out Q2.out Q3.out Q4.out Q5.out (n0 _ lt0 (nF _ (Nat.le_refl _))) (n0 _ ltl hF) (n0 _ lta (nF _ lba)) (n0 _ lts (nF _ lbs)) hh hi0 hi1 (by omega) ha1 hss (by have := Hs.out; have := Hn.out; omega) (by omega)
      have ha1 : 48 + L.x.seg * 32 + L.x.at_ + (1 + (k : Int)) < n := by have := Hs.out; have := Hn.out; omega
      have hss : (1 + (k : Int) + 1) * 256 ≤ s.size := by have := Hsz.out; omega
      have hp := hput (1 + k) (by omega) (by omega) ha1 hss
      have Hp := Lib.hid hp
      clear hput hp ha1 hss
      have e1 : decide (1 + k < 1 + m) = true := by simp; omega
      have e2 : decide (1 + (k : Int) < 1 + m) = true := by simp; omega
      go_wp2_with (first
        | (go_at_call 121; refine Hp.out.mono ?_; rintro e w17 ⟨rfl, hst⟩; have Hst := Lib.hid hst; have q4 : w17.cell? ⟨ba, 0, none⟩ = some (.int .i64 (48 + L.x.seg * 32 + L.x.at_)) := hst.keep.keepCell (n0 _ lta (nF _ lba)) Q4.out; have hbase : w16.heap.size ≤ w17.heap.size := Nat.le_trans hK1.size hst.keep.size; have Hw17 := Lib.hid (hst.keep.ownsRow hown1 hno1); clear hst)
        | (refine wpList_appendInt rfl _ _ rfl w16.heap.size u14 k _ rfl (Hw17.out.alloc _) w17.heap.size (48 + L.x.seg * 32 + L.x.at_ + (1 + (k : Int))) rfl ((At.new w17 _ _).cell 0) (by omega) (by simp; omega) ?_; intro v' w18 hown3 hgrow hblk))
      have HR := Lib.hid (append_round hF1 hK1 hown1 hno1 Hst.out hown3 hgrow hblk)
      clear hown3 hgrow hblk Hw17 q4
      go_roundg (m - (k + 1))
      case measure => have := Hgk.out; omega
      case rel => exact ⟨k + 1, by omega, rfl, by go_num, HR.out⟩
    · obtain rfl : k = m := by omega
      have e1 : decide (1 + k < 1 + k) = false := by simp
      have e2 : decide (1 + (k : Int) < 1 + k) = false := by simp
      go_wp2
      clear e1 e2
      (try simp only [Act.put, List.setIfInBounds_toArray, List.set_cons_zero, List.set_cons_succ])
      refine wp_region_noPanic ?_
      refine T_region 15 (fun w' => w'.cell? ⟨w.heap.size, 0, none⟩ = some (.pointer (some ⟨l, 0, none⟩)) ∧ w'.cell? ⟨l, 0, none⟩ = some (.pointer (some ⟨L.d, 0, none⟩)) ∧ w'.cell? ⟨l, 3, none⟩ = some (.int .i64 L.h) ∧ w'.cell? ⟨ba, 0, none⟩ = some (.int .i64 (48 + L.x.seg * 32 + L.x.at_)) ∧ w'.cell? ⟨bs, 0, none⟩ = some (.string s)) (by kernel_rfl) (by kernel_rfl) (by kernel_rfl) (by decide) (by kernel_rfl) ⟨Q1.out, Q2.out, Q3.out, Q4.out, Q5.out⟩ (fun hHeld hU => ?_)
      refine T_take (i := 0) hU 102 ?_ rfl rfl (by decide) (by kernel_rfl) (by kernel_rfl) (fun _ _ _ h => h) (Or.inl ⟨by rfl, ?_⟩) hHeld ?_; rotate_left; (intro w hSw; (try dsimp only at hSw); go_simp); (try with_reducible rfl); clear hU; intro hU; (try simp only [Act.put, List.setIfInBounds_toArray, List.set_cons_zero, List.set_cons_succ])
      refine T_take (i := 1) hU 103 ?_ rfl rfl (by decide) (by kernel_rfl) (by kernel_rfl) (fun _ _ _ h => h) (Or.inl ⟨by rfl, ?_⟩) hHeld ?_; rotate_left; (intro w hSw; (try dsimp only at hSw); go_simp); (try with_reducible rfl); clear hU; intro hU; (try simp only [Act.put, List.setIfInBounds_toArray, List.set_cons_zero, List.set_cons_succ])
      refine T_take (i := 2) hU 104 ?_ rfl rfl (by decide) (by kernel_rfl) (by kernel_rfl) (fun _ _ _ h => h) (Or.inl ⟨by rfl, ?_⟩) hHeld ?_; rotate_left; (intro w hSw; (try dsimp only at hSw); go_simp); (try with_reducible rfl); clear hU; intro hU; (try simp only [Act.put, List.setIfInBounds_toArray, List.set_cons_zero, List.set_cons_succ])
      refine T_take (i := 3) hU 105 ?_ rfl rfl (by decide) (by kernel_rfl) (by kernel_rfl) (fun _ _ _ h => h) (Or.inl ⟨by rfl, ?_⟩) hHeld ?_; rotate_left; (intro w hSw; (try dsimp only at hSw); go_simp); (try with_reducible rfl); clear hU; intro hU; (try simp only [Act.put, List.setIfInBounds_toArray, List.set_cons_zero, List.set_cons_succ])
      refine T_take (i := 4) hU 106 ?_ rfl rfl (by decide) (by kernel_rfl) (by kernel_rfl) (fun _ _ _ h => h) (Or.inl ⟨by rfl, ?_⟩) hHeld ?_; rotate_left; (intro w hSw; (try dsimp only at hSw); go_simp); (try with_reducible rfl); clear hU; intro hU; (try simp only [Act.put, List.setIfInBounds_toArray, List.set_cons_zero, List.set_cons_succ])
      refine T_take (i := 5) hU 107 ?_ rfl rfl (by decide) (by kernel_rfl) (by kernel_rfl) (fun _ _ _ h => h) (Or.inl ⟨by rfl, ?_⟩) hHeld ?_; rotate_left; (intro w hSw; (try dsimp only at hSw); go_simp); (try with_reducible rfl); clear hU; intro hU; (try simp only [Act.put, List.setIfInBounds_toArray, List.set_cons_zero, List.set_cons_succ])
      refine T_take (i := 6) hU 108 ?_ rfl rfl (by decide) (by kernel_rfl) (by kernel_rfl) (fun _ _ _ h => h) (Or.inl ⟨by rfl, ?_⟩) hHeld ?_; rotate_left; (intro w hSw; (try dsimp only at hSw); go_simp); (try with_reducible rfl); clear hU; intro hU; (try simp only [Act.put, List.setIfInBounds_toArray, List.set_cons_zero, List.set_cons_succ])
      refine T_take (i := 7) hU 109 ?_ rfl rfl (by decide) (by kernel_rfl) (by kernel_rfl) (fun _ _ _ h => h) (Or.inl ⟨by rfl, ?_⟩) hHeld ?_; rotate_left; (intro w hSw; (try dsimp only at hSw); go_simp); (try with_reducible rfl); clear hU; intro hU; (try simp only [Act.put, List.setIfInBounds_toArray, List.set_cons_zero, List.set_cons_succ])
      refine T_take (i := 8) hU 110 ?_ rfl rfl (by decide) (by kernel_rfl) (by kernel_rfl) (fun _ _ _ h => h) (Or.inl ⟨by rfl, ?_⟩) hHeld ?_; rotate_left; (intro w hSw; (try dsimp only at hSw); go_simp); (try with_reducible rfl); clear hU; intro hU; (try simp only [Act.put, List.setIfInBounds_toArray, List.set_cons_zero, List.set_cons_succ])
      have hHeld9 := hHeld
      refine T_step (i := 9) hU rfl (by decide) (by kernel_rfl) (fun K hK => ?_); clear hU hHeld
      go_simp
      go_at_call 33
      refine (flush_step L.d n (B + k) F1 _ _ Hd1.out.drew (by omega) (by omega) (by have := Hs.out; have := Hn.out; omega) (by omega)).mono ?_
      rintro e w19 ⟨rfl, hst9⟩
      obtain ⟨F2, hd2, hF2, hK2⟩ := hst9
      have n2 : ∀ b, b < w16.heap.size → ¬ F b → ¬ F2 b := fun b hb h0 h1 => by
        rcases hF2 b h1 with h2 | h2
        · exact n0 b hb h0 h2
        · have h3 : wr.heap.size ≤ b := h2
          have := hK1.size; omega
      have p1 := hK2.keepCell (n0 _ lt0 (nF _ (Nat.le_refl _))) hHeld9.1
      have p2 := hK2.keepCell (n0 _ ltl hF) hHeld9.2.1
      have p3 := hK2.keepCell (n0 _ ltl hF) hHeld9.2.2.1
      have p4 := hK2.keepCell (n0 _ lta (nF _ lba)) hHeld9.2.2.2.1
      have p5 := hK2.keepCell (n0 _ lts (nF _ lbs)) hHeld9.2.2.2.2
      refine hK.out _ _ (⟨p1, p2, p3, p4, p5⟩) (fun hHeld hU => ?_); clear hK K; (try simp only [Act.put, List.setIfInBounds_toArray, List.set_cons_zero, List.set_cons_succ])
      refine T_take (i := 10) hU 112 ?_ rfl rfl (by decide) (by kernel_rfl) (by kernel_rfl) (fun _ _ _ h => h) (Or.inl ⟨by rfl, ?_⟩) hHeld ?_; rotate_left; (intro w hSw; (try dsimp only at hSw); go_simp); (try with_reducible rfl); clear hU; intro hU; (try simp only [Act.put, List.setIfInBounds_toArray, List.set_cons_zero, List.set_cons_succ])
      refine T_take (i := 11) hU 113 ?_ rfl rfl (by decide) (by kernel_rfl) (by kernel_rfl) (fun _ _ _ h => h) (Or.inl ⟨by rfl, ?_⟩) hHeld ?_; rotate_left; (intro w hSw; (try dsimp only at hSw); go_simp); (try with_reducible rfl); clear hU; intro hU; (try simp only [Act.put, List.setIfInBounds_toArray, List.set_cons_zero, List.set_cons_succ])
      refine T_take (i := 12) hU 114 ?_ rfl rfl (by decide) (by kernel_rfl) (by kernel_rfl) (fun _ _ _ h => h) (Or.inl ⟨by rfl, ?_⟩) hHeld ?_; rotate_left; (intro w hSw; (try dsimp only at hSw); go_simp); (try with_reducible rfl); clear hU; intro hU; (try simp only [Act.put, List.setIfInBounds_toArray, List.set_cons_zero, List.set_cons_succ])
      have hHeld13 := hHeld
      refine T_step (i := 13) hU rfl (by decide) (by kernel_rfl) (fun K hK => ?_); clear hU hHeld
      go_simp
      go_at_call 121
      refine (aput_ok w.heap.size ba bs l L.d n (B + k) F2 L.h (48 + L.x.seg * 32 + L.x.at_) 0 s _ hd2 p1 p2 p3 p4 p5 (n2 _ lt0 (nF _ (Nat.le_refl _))) (n2 _ ltl hF) (n2 _ lta (nF _ lba)) (n2 _ lts (nF _ lbs)) hh (by omega) (by omega) (by omega) (by have := Hs.out; have := Hn.out; omega) (by have := Hsz.out; omega) (by have := Hs.out; have := Hn.out; omega) (by omega)).mono ?_
      rintro e w20 ⟨rfl, hst20⟩
      have hk20 := hst20.keep
      refine hK.out _ _ (⟨hk20.keepCell (n2 _ lt0 (nF _ (Nat.le_refl _))) p1, hk20.keepCell (n2 _ ltl hF) p2, hk20.keepCell (n2 _ ltl hF) p3, hk20.keepCell (n2 _ lta (nF _ lba)) p4, hk20.keepCell (n2 _ lts (nF _ lbs)) p5⟩) (fun hHeld hU => ?_); clear hK K; (try simp only [Act.put, List.setIfInBounds_toArray, List.set_cons_zero, List.set_cons_succ])
      refine T_take (i := 14) hU 116 ?_ rfl rfl (by decide) (by kernel_rfl) (by kernel_rfl) (fun _ _ _ h => h) (Or.inl ⟨by rfl, ?_⟩) hHeld ?_; rotate_left; (intro w hSw; (try dsimp only at hSw); go_simp); (try with_reducible rfl); clear hU; intro hU; (try simp only [Act.put, List.setIfInBounds_toArray, List.set_cons_zero, List.set_cons_succ])
      refine T_last (N := 15) rfl (by kernel_rfl) (by kernel_rfl) (fun K hK => ?_); clear hU hHeld
      go_simp
      refine hK.out _ _ (NoPanic.normal ?_); clear hK K
      have HT := append_tail hF1 hK1 hF2 hK2 hst20 hown1 hno1
      clear hst20 hk20 hd2 hF2 hK2 n2 p1 p2 p3 p4 p5 hown1 hno1 hF1
      obtain ⟨F3, hd3, hF3, hK3, hown3, hno3⟩ := HT
      have A9 := hK3.at A9d.out (nF _ (by omega))
      have Ah := hK3.at Ah16.out (nF _ (by omega))
      have Hc1 := Lib.hid (hK3.keepCell (nF _ (Nat.le_refl _)) (Ab16.out.cell 0))
      have HL3 := Lib.hid (hK3.at HL16.out hF)
      have Hd3 := Lib.hid hd3
      clear hd3
      have x4 : w20.cell? ⟨b9, 4, none⟩ = some (.int .i64 L.x.at_) := A9.cell 4
      have hw4 : IntKind.i64.wrap (L.x.at_ + (1 + (k : Int))) = L.x.at_ + (1 + k) := by rw [IntKind.wrap_i64]; omega
      have hw5 : IntKind.i64.wrap (L.x.seq + 1) = L.x.seq + 1 := by rw [IntKind.wrap_i64]; omega
      have s4 : 4 < L.x.cells.size := by show 4 < 13; decide
      go_wp2_with (first
        | (refine wpList_storeCell rfl 3 _ _ rfl rfl b9 4 (.int .i64 (L.x.at_ + (1 + k))) L.x.cells 82 rfl rfl A9 s4 size3 rfl rfl ?_; intro w21 hA21 hk21 hs21; replace hA21 : At w21 b9 #[.int .i64 L.x.num, .int .i64 L.x.life, .int .i64 L.x.clock, .int .i64 L.x.seg, .int .i64 (L.x.at_ + (1 + k)), .int .i64 L.x.next, .int .i64 L.x.seq, .int .i64 L.x.m0, .int .i64 L.x.m1, .int .i64 L.x.m2, .int .i64 L.x.m3, .int .i64 L.x.sb, .int .i64 L.x.sn] 82 := hA21; have x6 : w21.cell? ⟨b9, 6, none⟩ = some (.int .i64 L.x.seq) := hA21.cell 6; clear x4)
        | (refine wpList_storeCell rfl 3 _ _ rfl rfl b9 6 (.int .i64 (L.x.seq + 1)) _ 82 rfl rfl hA21 (by simp) size3 rfl rfl ?_; intro w22 hA22 hk22 hs22; clear x6))
      clear hw4 hw5
      have A22 : At w22 b9 #[.int .i64 L.x.num, .int .i64 L.x.life, .int .i64 L.x.clock, .int .i64 L.x.seg, .int .i64 (L.x.at_ + (1 + k)), .int .i64 L.x.next, .int .i64 (L.x.seq + 1), .int .i64 L.x.m0, .int .i64 L.x.m1, .int .i64 L.x.m2, .int .i64 L.x.m3, .int .i64 L.x.sb, .int .i64 L.x.sn] 82 := hA22
      have K22 : Keep (· = b9) w20 w22 := hk21.trans hk22 (fun _ _ h => h)
      clear hA21 hA22 hk21 hk22
      have nbh : ¬ (w.heap.size + 1 = b9) := by omega
      have h5 : w22.cell? ⟨w.heap.size + 1, 5, none⟩ = some (.int .i64 f) := K22.keepCell nbh (Ah.cell 5)
      have h6 : w22.cell? ⟨w.heap.size + 1, 6, none⟩ = some (.int .i64 g) := K22.keepCell nbh (Ah.cell 6)
      have h7 : w22.cell? ⟨w.heap.size + 1, 7, none⟩ = some (.int .i64 h) := K22.keepCell nbh (Ah.cell 7)
      clear Ah A9
      (try simp only [Act.put, List.setIfInBounds_toArray, List.set_cons_zero, List.set_cons_succ])
      refine wp_region_noPanic ?_
      refine T_region 11 (fun w' => w'.cell? ⟨w.heap.size + 1, 5, none⟩ = some (.int .i64 f) ∧ w'.cell? ⟨w.heap.size + 1, 6, none⟩ = some (.int .i64 g) ∧ w'.cell? ⟨w.heap.size + 1, 7, none⟩ = some (.int .i64 h)) (by kernel_rfl) (by kernel_rfl) (by kernel_rfl) (by decide) (by kernel_rfl) ⟨h5, h6, h7⟩ (fun hHeld hU => ?_)
      refine T_take (i := 0) hU 127 ?_ rfl rfl (by decide) (by kernel_rfl) (by kernel_rfl) (fun _ _ _ h => h) (Or.inl ⟨by rfl, ?_⟩) hHeld ?_; rotate_left; (intro w hSw; (try dsimp only at hSw); go_simp); (try with_reducible rfl); clear hU; intro hU; (try simp only [Act.put, List.setIfInBounds_toArray, List.set_cons_zero, List.set_cons_succ])
      refine T_take (i := 1) hU 128 ?_ rfl rfl (by decide) (by kernel_rfl) (by kernel_rfl) (fun _ _ _ h => h) (Or.inl ⟨by rfl, ?_⟩) hHeld ?_; rotate_left; (intro w hSw; (try dsimp only at hSw); go_simp); (try with_reducible rfl); clear hU; intro hU; (try simp only [Act.put, List.setIfInBounds_toArray, List.set_cons_zero, List.set_cons_succ])
      refine T_take (i := 2) hU 129 ?_ rfl rfl (by decide) (by kernel_rfl) (by kernel_rfl) (fun _ _ _ h => h) (Or.inl ⟨by rfl, ?_⟩) hHeld ?_; rotate_left; (intro w hSw; (try dsimp only at hSw); go_simp); (try with_reducible rfl); clear hU; intro hU; (try simp only [Act.put, List.setIfInBounds_toArray, List.set_cons_zero, List.set_cons_succ])
      refine T_take (i := 3) hU 130 ?_ rfl rfl (by decide) (by kernel_rfl) (by kernel_rfl) (fun _ _ _ h => h) (Or.inl ⟨by rfl, ?_⟩) hHeld ?_; rotate_left; (intro w hSw; (try dsimp only at hSw); go_simp); (try with_reducible rfl); clear hU; intro hU; (try simp only [Act.put, List.setIfInBounds_toArray, List.set_cons_zero, List.set_cons_succ])
      refine T_take (i := 4) hU 131 ?_ rfl rfl (by decide) (by kernel_rfl) (by kernel_rfl) (fun _ _ _ h => h) (Or.inl ⟨by rfl, ?_⟩) hHeld ?_; rotate_left; (intro w hSw; (try dsimp only at hSw); go_simp); (try with_reducible rfl); clear hU; intro hU; (try simp only [Act.put, List.setIfInBounds_toArray, List.set_cons_zero, List.set_cons_succ])
      refine T_take (i := 5) hU 132 ?_ rfl rfl (by decide) (by kernel_rfl) (by kernel_rfl) (fun _ _ _ h => h) (Or.inl ⟨by rfl, ?_⟩) hHeld ?_; rotate_left; (intro w hSw; (try dsimp only at hSw); go_simp); (try with_reducible rfl); clear hU; intro hU; (try simp only [Act.put, List.setIfInBounds_toArray, List.set_cons_zero, List.set_cons_succ])
      refine T_take (i := 6) hU 133 ?_ rfl rfl (by decide) (by kernel_rfl) (by kernel_rfl) (fun _ _ _ h => h) (Or.inl ⟨by rfl, ?_⟩) hHeld ?_; rotate_left; (intro w hSw; (try dsimp only at hSw); go_simp); (try with_reducible rfl); clear hU; intro hU; (try simp only [Act.put, List.setIfInBounds_toArray, List.set_cons_zero, List.set_cons_succ])
      have hHeld7 := hHeld
      refine T_step (i := 7) hU rfl (by decide) (by kernel_rfl) (fun K hK => ?_); clear hU hHeld
      refine step_storeCell rfl 3 _ _ rfl rfl b9 2 (.int .i64 f) _ _ rfl rfl A22.drew (by simp) size3 rfl rfl (fun w23 hA23 hk23 hs23 => ?_)
      refine hK.out _ _ (⟨hk23.keepCell nbh hHeld7.1, hk23.keepCell nbh hHeld7.2.1, hk23.keepCell nbh hHeld7.2.2⟩) (fun hHeld hU => ?_); clear hK K; (try simp only [Act.put, List.setIfInBounds_toArray, List.set_cons_zero, List.set_cons_succ])
      refine T_take (i := 8) hU 134 ?_ rfl rfl (by decide) (by kernel_rfl) (by kernel_rfl) (fun _ _ _ h => h) (Or.inl ⟨by rfl, ?_⟩) hHeld ?_; rotate_left; (intro w hSw; (try dsimp only at hSw); go_simp); (try with_reducible rfl); clear hU; intro hU; (try simp only [Act.put, List.setIfInBounds_toArray, List.set_cons_zero, List.set_cons_succ])
      have hHeld9 := hHeld
      refine T_step (i := 9) hU rfl (by decide) (by kernel_rfl) (fun K hK => ?_); clear hU hHeld
      refine step_storeCell rfl 3 _ _ rfl rfl b9 11 (.int .i64 g) _ _ rfl rfl hA23 (by simp) size3 rfl rfl (fun w24 hA24 hk24 hs24 => ?_)
      refine hK.out _ _ (⟨hk24.keepCell nbh hHeld9.1, hk24.keepCell nbh hHeld9.2.1, hk24.keepCell nbh hHeld9.2.2⟩) (fun hHeld hU => ?_); clear hK K; (try simp only [Act.put, List.setIfInBounds_toArray, List.set_cons_zero, List.set_cons_succ])
      refine T_take (i := 10) hU 135 ?_ rfl rfl (by decide) (by kernel_rfl) (by kernel_rfl) (fun _ _ _ h => h) (Or.inl ⟨by rfl, ?_⟩) hHeld ?_; rotate_left; (intro w hSw; (try dsimp only at hSw); go_simp); (try with_reducible rfl); clear hU; intro hU; (try simp only [Act.put, List.setIfInBounds_toArray, List.set_cons_zero, List.set_cons_succ])
      refine T_last (N := 11) rfl (by kernel_rfl) (by kernel_rfl) (fun K hK => ?_); clear hU hHeld
      refine step_storeCell rfl 3 _ _ rfl rfl b9 12 (.int .i64 h) _ _ rfl rfl hA24 (by simp) size3 rfl rfl (fun w25 hA25 hk25 hs25 => ?_)
      refine hK.out _ _ (NoPanic.normal ?_); clear hK K
      have A25 : At w25 b9 ({ L.x with at_ := L.x.at_ + (1 + k), seq := L.x.seq + 1, clock := f, sb := g, sn := h } : SlotV).cells 82 := hA25
      have K25 : Keep (· = b9) w20 w25 := K22.trans ((hk23.trans hk24 (fun _ _ h => h)).trans hk25 (fun _ _ h => h)).ofDrew (fun _ _ h => h)
      clear hA23 hA24 hA25 hk23 hk24 hk25 h5 h6 h7 K22 A22
      have hu' := Tryz.underlying82
      have hi' : (Tryz.prog.info? 82).map (·.size) = some ({ L.x with at_ := L.x.at_ + (1 + k), seq := L.x.seq + 1, clock := f, sb := g, sn := h } : SlotV).cells.toList.length := size82 _
      have r9 := A25.range 0 13
      have nbl : ¬ (w.heap.size = b9) := by omega
      have nll : ¬ (l = b9) := by omega
      have n9l : ¬ (b9 = l) := fun e => nll e.symm
      have nwl : ¬ (w.heap.size = l) := by omega
      have c1 := K25.keepCell nbl Hc1.out
      have L25 := K25.at HL3.out nll
      obtain ⟨pf, mf, cf, hfv⟩ := hfv
      have Hfv := Lib.hid hfv
      clear hfv
      go_wp2
      (try simp only [Act.put, List.setIfInBounds_toArray, List.set_cons_zero, List.set_cons_succ])
      refine wp_region_noPanic ?_
      refine T_region 9 (fun w' => w'.cell? ⟨w.heap.size, 0, none⟩ = some (.pointer (some ⟨l, 0, none⟩)) ∧ w'.rangeAt b9 0 ({ L.x with at_ := L.x.at_ + (1 + k), seq := L.x.seq + 1, clock := f, sb := g, sn := h } : SlotV).cells.toList) (by kernel_rfl) (by kernel_rfl) (by kernel_rfl) (by decide) (by kernel_rfl) ⟨c1, r9⟩ (fun hHeld hU => ?_)
      refine T_take (i := 0) hU 136 ?_ rfl rfl (by decide) (by kernel_rfl) (by kernel_rfl) (fun _ _ _ h => h) (Or.inl ⟨by rfl, ?_⟩) hHeld ?_; rotate_left; (intro w hSw; (try dsimp only at hSw); go_simp); (try with_reducible rfl); clear hU; intro hU; (try simp only [Act.put, List.setIfInBounds_toArray, List.set_cons_zero, List.set_cons_succ])
      refine T_take (i := 1) hU 137 ?_ rfl rfl (by decide) (by kernel_rfl) (by kernel_rfl) (fun _ _ _ h => h) (Or.inl ⟨by rfl, ?_⟩) hHeld ?_; rotate_left; (intro w hSw; (try dsimp only at hSw); go_simp); (try with_reducible rfl); clear hU; intro hU; (try simp only [Act.put, List.setIfInBounds_toArray, List.set_cons_zero, List.set_cons_succ])
      refine T_take (i := 2) hU 138 ((.agg ({ L.x with at_ := L.x.at_ + (1 + k), seq := L.x.seq + 1, clock := f, sb := g, sn := h } : SlotV).cells)) rfl rfl (by decide) (by kernel_rfl) (by kernel_rfl) (fun _ _ _ h => h) (yields_load _ _ _ _ rfl _ _ rfl b9 0 rfl _ _ hu' rfl hi' (fun _ h => h.2)) hHeld ?_; clear hU; intro hU; (try simp only [Act.put, List.setIfInBounds_toArray, List.set_cons_zero, List.set_cons_succ])
      refine T_take (i := 3) hU 139 ?_ rfl rfl (by decide) (by kernel_rfl) (by kernel_rfl) (fun _ _ _ h => h) (Or.inl ⟨by rfl, ?_⟩) hHeld ?_; rotate_left; (intro w hSw; (try dsimp only at hSw); go_simp); (try with_reducible rfl); clear hU; intro hU; (try simp only [Act.put, List.setIfInBounds_toArray, List.set_cons_zero, List.set_cons_succ])
      refine T_take (i := 4) hU 140 ?_ rfl rfl (by decide) (by kernel_rfl) (by kernel_rfl) (fun _ _ _ h => h) (Or.inl ⟨by rfl, ?_⟩) hHeld ?_; rotate_left; (intro w hSw; (try dsimp only at hSw); go_simp); (try with_reducible rfl); clear hU; intro hU; (try simp only [Act.put, List.setIfInBounds_toArray, List.set_cons_zero, List.set_cons_succ])
      refine T_take (i := 5) hU 141 ?_ rfl rfl (by decide) (by kernel_rfl) (by kernel_rfl) (fun _ _ _ h => h) (Or.inl ⟨by rfl, ?_⟩) hHeld ?_; rotate_left; (intro w hSw; (try dsimp only at hSw); go_simp); (try with_reducible rfl); clear hU; intro hU; (try simp only [Act.put, List.setIfInBounds_toArray, List.set_cons_zero, List.set_cons_succ])
      have hHeld6 := hHeld
      refine T_step (i := 6) hU rfl (by decide) (by kernel_rfl) (fun K hK => ?_); clear hU hHeld
      refine step_storeRow' rfl 82 _ _ rfl rfl l 5 ({ L.x with at_ := L.x.at_ + (1 + k), seq := L.x.seq + 1, clock := f, sb := g, sn := h } : SlotV).cells L.cells 132 rfl rfl L25.drew (by show 5 + 13 ≤ 19; decide) (size82 _) (one82 _) (fun w26 hA26 hk26 hs26 => ?_)
      refine hK.out _ _ (⟨hk26.keepCell nwl hHeld6.1, hk26.keepRange n9l hHeld6.2⟩) (fun hHeld hU => ?_); clear hK K; (try simp only [Act.put, List.setIfInBounds_toArray, List.set_cons_zero, List.set_cons_succ])
      refine T_take (i := 7) hU 142 ?_ rfl rfl (by decide) (by kernel_rfl) (by kernel_rfl) (fun _ _ _ h => h) (Or.inl ⟨by rfl, ?_⟩) hHeld ?_; rotate_left; (intro w hSw; (try dsimp only at hSw); go_simp); (try with_reducible rfl); clear hU; intro hU; (try simp only [Act.put, List.setIfInBounds_toArray, List.set_cons_zero, List.set_cons_succ])
      refine T_take (i := 8) hU 143 ?_ rfl rfl (by decide) (by kernel_rfl) (by kernel_rfl) (fun _ _ _ h => h) (Or.inl ⟨by rfl, ?_⟩) hHeld ?_; rotate_left; (intro w hSw; (try dsimp only at hSw); go_simp); (try with_reducible rfl); clear hU; intro hU; (try simp only [Act.put, List.setIfInBounds_toArray, List.set_cons_zero, List.set_cons_succ])
      refine T_last (N := 9) rfl (by kernel_rfl) (by kernel_rfl) (fun K hK => ?_); clear hU hHeld
      refine step_storeCell rfl 38 _ _ rfl rfl l 18 L.fv _ _ rfl rfl hA26 (by show 18 < 19; decide) size38 (by rw [Hfv.out]; rfl) (by rw [Hfv.out]; rfl) (fun w27 hA27 hk27 hs27 => ?_)
      refine hK.out _ _ (NoPanic.normal ?_); clear hK K
      go_wp2
      go_ret2
      have K27 : Keep (fun b => b = b9 ∨ b = l) w20 w27 := (K25.mono (fun _ _ h => .inl h)).trans ((hk26.trans hk27 (fun _ _ h => h)).ofDrew) (fun _ _ h => .inr h)
      have A27 : LogAt w27 l (L.on k f g h) := hA27
      refine ⟨_, F3, rfl, Hd3.out.kept K27 (fun b hb h => ?_), fun b hb => ?_, ?_, A27, ?_⟩
      · rcases h with rfl | rfl
        · rcases hF3 _ hb with h1 | h1
          · exact nF _ (by omega) h1
          · omega
        · rcases hF3 _ hb with h1 | h1
          · exact hF h1
          · omega
      · rcases hF3 b hb with h1 | h1
        · exact .inl h1
        · right; omega
      · have K16 : Keep (fun b => F b ∨ b = l) w w16 := Keep.of_below B16 _
        refine (K16.trans hK3 (fun _ _ h => .inl h)).trans K27 (fun b hb h => ?_)
        rcases h with rfl | rfl
        · omega
        · exact .inr rfl
      · refine ownsRow_lower (K27.ownsRow hown3 (fun b hb h => ?_)) (by omega)
        have := (hown3.lt b hb).1
        rcases h with rfl | rfl <;> omega
end Go.Proofs.YtnndkfhpifgaiaaGreat
