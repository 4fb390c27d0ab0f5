/-
  file.blank, right; a variable made in a drawn region.
  file.Sync, Slot.
  caps.New, house.count: of a store with its root alone.
  clean.New.
-/
import Derived.Test.YtnndkfhpifgaiaaGreatM36
set_option linter.unusedVariables false
set_option linter.unusedSimpArgs false
namespace Go.Proofs.YtnndkfhpifgaiaaGreat
open Go.RowKit

theorem fblank_ok (w : World) : Calls Tryz.prog 62 #[] w (Str 256 w) := by
  go_enter Tryz.func62, Tryz.ntmps62
  go_wp2_with (first
    | (go_at_call 57; refine (repeat_any _ 256 _ rfl (by decide)).mono ?_; rintro e w1 ⟨s, hs, rfl, hb⟩))
  go_ret
  exact ⟨s, hs, rfl, hb⟩

/-- A new variable of a long type in a region that draws its order; its number a letter. -/
theorem step_allocN {P : Program} {o : Oper} {ops : Array Oper} {a : Act} {w : World} {Q : Exit → Act → World → Prop} (hgd : o.guard = none) (t : TypeId) (ho : o.op = .alloc t) (d : Tmp) (hd : o.dst = some d) (z : Array Value) (hz : (P.info? t).bind (·.zero) = some (.agg z)) {K : Act → World → Prop}
    (h : ∀ w' n, w.heap.size ≤ n → n < w'.heap.size → At w' n z t → Keep (fun _ => False) w w' → K ⟨a.tmps.setIfInBounds d (.pointer (some ⟨n, 0, none⟩)), a.defers⟩ w') :
    if Region.wanted o (yielded ops a.tmps) = true then Oper.wp P o a w K Q else K (a.put o.dst undef) w := by
  rw [if_pos (by simp [Region.wanted, hgd])]
  have hrun : (Instr.alloc t true (.tuple #[])).run P w = .ok (.pointer (some ⟨w.heap.size, 0, none⟩)) (w.alloc (.cells z t)) := by
    cases hi : P.info? t with
    | none => simp [hi] at hz
    | some i =>
      have hz' : i.zero = some (.agg z) := by simpa [hi] using hz
      simp [Instr.alloc, zeroValue, typeInfo, hi, hz', newVar, newRow, Value.cells]
  unfold Oper.wp execOp
  simp only [ho, Sem.run_bind, hrun, Result.andThen_ok]
  have := h (w.alloc (.cells z t)) w.heap.size (Nat.le_refl _) (by simp) (At.new _ _ _) ((Keep.refl _ w).alloc _)
  show K (a.put o.dst _) _
  rw [hd]; exact this

/-- May a store be on these segments? -/
theorem right_ok (dk dn Bd : Nat) (F : Nat → Prop) (sct : Int) (n N : Nat) (v : Value) (xs : List Int) (w : World) (hd : DiskAt w dk dn Bd F) (hs : sct = 48 + 32 * n) (h0 : 8 ≤ n) (h1 : n ≤ 137) (hI : IntsAt w v xs N) (hN : N ≤ w.heap.size) (hx : ∀ x ∈ xs, 0 ≤ x ∧ x < n) (hl : 8 ≤ xs.length) (hl' : xs.length ≤ 1000) :
    Calls Tryz.prog 35 #[.pointer (some ⟨dk, 0, none⟩), .agg #[.int .i64 sct, .int .i64 32], v] w (Ans (.bool true) w) := by
  obtain ⟨pb, po, pc, hpb, rfl, hpc, hcell⟩ := hI.cells (by intro e; rw [e] at hl; simp at hl)
  have Hcell := Lib.hid hcell
  have Hx := Lib.hid hx
  have Hd := Lib.hid hd
  have Hs := Lib.hid hs
  have hlb : xs.length < 9223372036854775807 := by omega
  have hlen : (8 : Int) ≤ xs.length := by omega
  clear hI hcell hx hd hs
  go_enter Tryz.func35, Tryz.ntmps35
  have hu25 := Tryz.underlying25
  go_wp2_with (first
    | (refine wpList_boxAt rfl 25 _ rfl #[.int .i64 sct, .int .i64 32] rfl ?_; intro w1 hA1 hk1 hs1; have HG1 := Lib.hid hA1; have HB1 := Lib.hid hk1.below; clear hA1 hk1 hs1))
  go_loopg [11] xs.length (fun gk i wr => ∃ k : Nat, k ≤ xs.length ∧ gk = xs.length - k ∧ i = .int .i64 k ∧ Below w1.heap.size w1 wr)
  case atStart => exact ⟨0, by omega, by omega, rfl, Below.refl _ _⟩
  case round =>
    obtain ⟨k, hk, hgk, rfl, hb⟩ := hrel
    have Hgk := Lib.hid hgk
    have HBr := Lib.hid hb
    have HBw := Lib.hid (HB1.out.trans (hb.mono HB1.out.size))
    clear hgk hb
    by_cases hlt : k < xs.length
    · obtain ⟨x, hx⟩ : ∃ x, xs[k]? = some x := ⟨_, List.getElem?_eq_getElem hlt⟩
      have cx : wr.cell? ⟨pb, po + k, none⟩ = some (.int .i64 x) := by exact Below.keepCell HBw.out (Hcell.out k x hx)
      have hw1 : IntKind.i64.wrap ((k : Int) + 1) = k + 1 := by rw [IntKind.wrap_i64]; omega
      have hxx := Hx.out x (List.mem_of_getElem? hx)
      have Hst := Lib.hid (fun W => start_ok sct x n W Hs.out h0 h1 hxx.1 hxx.2)
      have q : (48 + x * 32 == 0) = false := by simp; omega
      clear hx hxx
      go_wp2_with (first
        | (refine wpList_load_row rfl 25 _ rfl w.heap.size rfl 25 #[.int .i64 sct, .int .i64 32] (0, 0) _ (Below.at HBr.out HG1.out HG1.out.lt) hu25 rfl (size25 _ _) ?_)
        | (go_at_call 55; refine (Hst.out _).mono ?_; rintro e w2 ⟨rfl, hb2⟩))
      go_roundg (xs.length - (k + 1))
      case measure => have := Hgk.out; omega
      case rel => exact ⟨k + 1, by omega, rfl, by go_num, HBr.out.trans (hb2.mono HBr.out.size)⟩
    · obtain rfl : k = xs.length := by omega
      go_wp2_with (first
        | (go_at_call 25; refine (down_at dk dn Bd F _ (Hd.out.below HBw.out)).mono ?_; rintro e w3 ⟨rfl, rfl⟩))
      go_ret
      exact ⟨rfl, HBw.out⟩
end Go.Proofs.YtnndkfhpifgaiaaGreat
namespace Go.Proofs.YtnndkfhpifgaiaaGreat
open Go.RowKit

set_option maxRecDepth 100000 in
theorem sync_ok (s : Nat) (S : StoreV) (dn Bd : Nat) (F : Nat → Prop) (w : World) (hA : At w s S.cells 92) (hd : DiskAt w S.d dn Bd F) (hFs : ¬ F s) (hh : 1 ≤ S.h ∧ S.h ≤ 16) (hn : dn ≤ 16384) (hB : Bd ≤ 1000000000) :
    Calls Tryz.prog 19 #[.pointer (some ⟨s, 0, none⟩)] w fun e w' => e = .returned (.bool true) ∧ Step S.d dn F w Bd w' := by
  have c0 : w.cell? ⟨s, 0, none⟩ = some (.pointer (some ⟨S.d, 0, none⟩)) := hA.cell 0
  have c3 : w.cell? ⟨s, 3, none⟩ = some (.int .i64 S.h) := hA.cell 3
  have Hf := Lib.hid (flush_step S.d dn Bd F S.h w.drew hd.drew (by omega) (by omega) hn hB)
  clear hA hd
  go_enter Tryz.func19, Tryz.ntmps19
  go_wp2
  (try simp only [Act.put, List.setIfInBounds_toArray, List.set_cons_zero, List.set_cons_succ])
  refine wp_region_noPanic ?_
  refine T_region 9 (fun w' => w'.cell? ⟨s, 0, none⟩ = some (.pointer (some ⟨S.d, 0, none⟩)) ∧ w'.cell? ⟨s, 3, none⟩ = some (.int .i64 S.h)) (by kernel_rfl) (by kernel_rfl) (by kernel_rfl) (by decide) (by kernel_rfl) ⟨c0, c3⟩ (fun hHeld hU => ?_)
  refine T_take (i := 0) hU 3 ?_ rfl rfl (by decide) (by kernel_rfl) (by kernel_rfl) (fun _ _ _ h => h) (Or.inl ⟨by rfl, ?_⟩) hHeld ?_; rotate_left; (intro w hSw; (try dsimp only at hSw); go_simp); (try with_reducible rfl); clear hU; intro hU; (try simp only [Act.put, List.setIfInBounds_toArray, List.set_cons_zero, List.set_cons_succ])
  refine T_take (i := 1) hU 4 ?_ rfl rfl (by decide) (by kernel_rfl) (by kernel_rfl) (fun _ _ _ h => h) (Or.inl ⟨by rfl, ?_⟩) hHeld ?_; rotate_left; (intro w hSw; (try dsimp only at hSw); go_simp); (try with_reducible rfl); clear hU; intro hU; (try simp only [Act.put, List.setIfInBounds_toArray, List.set_cons_zero, List.set_cons_succ])
  refine T_take (i := 2) hU 5 ?_ rfl rfl (by decide) (by kernel_rfl) (by kernel_rfl) (fun _ _ _ h => h) (Or.inl ⟨by rfl, ?_⟩) hHeld ?_; rotate_left; (intro w hSw; (try dsimp only at hSw); go_simp); (try with_reducible rfl); clear hU; intro hU; (try simp only [Act.put, List.setIfInBounds_toArray, List.set_cons_zero, List.set_cons_succ])
  refine T_take (i := 3) hU 6 ?_ rfl rfl (by decide) (by kernel_rfl) (by kernel_rfl) (fun _ _ _ h => h) (Or.inl ⟨by rfl, ?_⟩) hHeld ?_; rotate_left; (intro w hSw; (try dsimp only at hSw); go_simp); (try with_reducible rfl); clear hU; intro hU; (try simp only [Act.put, List.setIfInBounds_toArray, List.set_cons_zero, List.set_cons_succ])
  refine T_take (i := 4) hU 7 ?_ rfl rfl (by decide) (by kernel_rfl) (by kernel_rfl) (fun _ _ _ h => h) (Or.inl ⟨by rfl, ?_⟩) hHeld ?_; rotate_left; (intro w hSw; (try dsimp only at hSw); go_simp); (try with_reducible rfl); clear hU; intro hU; (try simp only [Act.put, List.setIfInBounds_toArray, List.set_cons_zero, List.set_cons_succ])
  refine T_take (i := 5) hU 8 ?_ rfl rfl (by decide) (by kernel_rfl) (by kernel_rfl) (fun _ _ _ h => h) (Or.inl ⟨by rfl, ?_⟩) hHeld ?_; rotate_left; (intro w hSw; (try dsimp only at hSw); go_simp); (try with_reducible rfl); clear hU; intro hU; (try simp only [Act.put, List.setIfInBounds_toArray, List.set_cons_zero, List.set_cons_succ])
  refine T_take (i := 6) hU 9 ?_ rfl rfl (by decide) (by kernel_rfl) (by kernel_rfl) (fun _ _ _ h => h) (Or.inl ⟨by rfl, ?_⟩) hHeld ?_; rotate_left; (intro w hSw; (try dsimp only at hSw); go_simp); (try with_reducible rfl); clear hU; intro hU; (try simp only [Act.put, List.setIfInBounds_toArray, List.set_cons_zero, List.set_cons_succ])
  refine T_take (i := 7) hU 10 ?_ rfl rfl (by decide) (by kernel_rfl) (by kernel_rfl) (fun _ _ _ h => h) (Or.inl ⟨by rfl, ?_⟩) hHeld ?_; rotate_left; (intro w hSw; (try dsimp only at hSw); go_simp); (try with_reducible rfl); clear hU; intro hU; (try simp only [Act.put, List.setIfInBounds_toArray, List.set_cons_zero, List.set_cons_succ])
  have hHeld8 := hHeld
  refine T_step (i := 8) hU rfl (by decide) (by kernel_rfl) (fun K hK => ?_); clear hU hHeld
  go_simp
  go_at_call 33
  refine Hf.out.mono ?_
  rintro e w1 ⟨rfl, hst⟩
  have hk := hst.keep
  refine hK.out _ _ (⟨hk.keepCell hFs hHeld8.1, hk.keepCell hFs hHeld8.2⟩) (fun hHeld hU => ?_); clear hK K; (try simp only [Act.put, List.setIfInBounds_toArray, List.set_cons_zero, List.set_cons_succ])
  refine T_last (N := 9) rfl (by kernel_rfl) (by kernel_rfl) (fun K hK => ?_); clear hU hHeld
  go_simp
  refine hK.out _ _ (NoPanic.normal ?_); clear hK K
  go_wp2
  go_ret
  exact ⟨rfl, hst.ofDrew⟩

set_option maxRecDepth 100000 in
set_option maxHeartbeats 2000000 in
theorem slot_ok (s : Nat) (S : StoreV) (l : Nat) (L : LogV) (w : World) (hA : At w s S.cells 92) (hL : LogAt w l L) (hlp : S.lp = some ⟨l, 0, none⟩) :
    Calls Tryz.prog 45 #[.pointer (some ⟨s, 0, none⟩)] w (Ans (.agg (L.x.to S.num S.m0 S.m1 S.m2 S.m3).cells) w) := by
  have hu80 := Tryz.underlying80
  have hu82 := Tryz.underlying82
  have c6 : w.cell? ⟨s, 6, none⟩ = some (.pointer (some ⟨l, 0, none⟩)) := by rw [← hlp]; exact hA.cell 6
  have HA := Lib.hid hA
  have HL := Lib.hid hL
  have hlt := hA.lt
  clear hA hL hlp
  go_enter Tryz.func45, Tryz.ntmps45
  go_wp2_with (first
    | (go_at_call 75; refine (lplace_ok l L _ HL1.out).mono ?_; rintro e w2 ⟨rfl, hb⟩; have HZ2 := Lib.hid (Below.at hb HZ1.out HZ1.out.lt); have HB2 := Lib.hid (HB1.out.trans (hb.mono HB1.out.size)); clear hb)
    | (refine wpList_storeRow rfl 82 _ _ rfl rfl w2.heap.size L.x.cells zSlot _ rfl rfl HY3.out rfl (size82 _) (one82 _) ?_; intro w4 hA hk hs; have b24 : Below w2.heap.size w2 w4 := Hk3.out.below.trans (hk.belowOf (by have := Hs3.out; omega) (by intro b hb e; omega)); have HY4 := Lib.hid hA; have HZ4 := Lib.hid (Below.at b24 HZ2.out HZ2.out.lt); have HB4 := Lib.hid (HB2.out.trans (b24.mono HB2.out.size)); have Hwy := Lib.hid HZ2.out.lt; clear hA hk hs b24 c6')
    | (have HZ1' := HZ1; refine wpList_allocAt rfl 82 rfl zSlot zero82 ?_; clear HZ1'; intro w3 hz hk hs; have HY3 := Lib.hid hz; have Hk3 := Lib.hid hk; have Hs3 := Lib.hid hs; clear hz hk hs)
    | (refine wpList_allocAt rfl 82 rfl zSlot zero82 ?_; intro w1 hz hk hs; have HZ1 := Lib.hid hz; have HB1 := Lib.hid hk.below; have c6' : w1.cell? ⟨s, 6, none⟩ = some (.pointer (some ⟨l, 0, none⟩)) := hk.keepCell id c6; have HL1 := Lib.hid (show LogAt w1 l L from hk.at HL.out id); clear hz hk hs c6))
  have HS4 := Lib.hid (Below.at HB4.out HA.out HA.out.lt)
  have n1 : ¬ (s = w2.heap.size) := by have := HB2.out.size; omega
  have d7 : w4.cell? ⟨s, 7, none⟩ = some (.int .i64 S.num) := HS4.out.cell 7
  have rw4 : w4.rangeAt s 8 (whereV S.m0 S.m1 S.m2 S.m3).toList := HS4.out.range 8 4
  have hi80 : (Tryz.prog.info? 80).map (·.size) = some (whereV S.m0 S.m1 S.m2 S.m3).toList.length := size80a _ _ _ _
  (try simp only [Act.put, List.setIfInBounds_toArray, List.set_cons_zero, List.set_cons_succ])
  refine wp_region_noPanic ?_
  refine T_region 11 (fun w' => w'.cell? ⟨s, 7, none⟩ = some (.int .i64 S.num) ∧ w'.rangeAt s 8 (whereV S.m0 S.m1 S.m2 S.m3).toList) (by kernel_rfl) (by kernel_rfl) (by kernel_rfl) (by decide) (by kernel_rfl) ⟨d7, rw4⟩ (fun hHeld hU => ?_)
  refine T_take (i := 0) hU 9 ?_ rfl rfl (by decide) (by kernel_rfl) (by kernel_rfl) (fun _ _ _ h => h) (Or.inl ⟨by rfl, ?_⟩) hHeld ?_; rotate_left; (intro w hSw; (try dsimp only at hSw); go_simp); (try with_reducible rfl); clear hU; intro hU; (try simp only [Act.put, List.setIfInBounds_toArray, List.set_cons_zero, List.set_cons_succ])
  refine T_take (i := 1) hU 10 ?_ rfl rfl (by decide) (by kernel_rfl) (by kernel_rfl) (fun _ _ _ h => h) (Or.inl ⟨by rfl, ?_⟩) hHeld ?_; rotate_left; (intro w hSw; (try dsimp only at hSw); go_simp); (try with_reducible rfl); clear hU; intro hU; (try simp only [Act.put, List.setIfInBounds_toArray, List.set_cons_zero, List.set_cons_succ])
  refine T_take (i := 2) hU 11 ?_ rfl rfl (by decide) (by kernel_rfl) (by kernel_rfl) (fun _ _ _ h => h) (Or.inl ⟨by rfl, ?_⟩) hHeld ?_; rotate_left; (intro w hSw; (try dsimp only at hSw); go_simp); (try with_reducible rfl); clear hU; intro hU; (try simp only [Act.put, List.setIfInBounds_toArray, List.set_cons_zero, List.set_cons_succ])
  refine T_take (i := 3) hU 12 ?_ rfl rfl (by decide) (by kernel_rfl) (by kernel_rfl) (fun _ _ _ h => h) (Or.inl ⟨by rfl, ?_⟩) hHeld ?_; rotate_left; (intro w hSw; (try dsimp only at hSw); go_simp); (try with_reducible rfl); clear hU; intro hU; (try simp only [Act.put, List.setIfInBounds_toArray, List.set_cons_zero, List.set_cons_succ])
  refine T_take (i := 4) hU 13 ?_ rfl rfl (by decide) (by kernel_rfl) (by kernel_rfl) (fun _ _ _ h => h) (Or.inl ⟨by rfl, ?_⟩) hHeld ?_; rotate_left; (intro w hSw; (try dsimp only at hSw); go_simp); (try with_reducible rfl); clear hU; intro hU; (try simp only [Act.put, List.setIfInBounds_toArray, List.set_cons_zero, List.set_cons_succ])
  refine T_take (i := 5) hU 14 ?_ rfl rfl (by decide) (by kernel_rfl) (by kernel_rfl) (fun _ _ _ h => h) (Or.inl ⟨by rfl, ?_⟩) hHeld ?_; rotate_left; (intro w hSw; (try dsimp only at hSw); go_simp); (try with_reducible rfl); clear hU; intro hU; (try simp only [Act.put, List.setIfInBounds_toArray, List.set_cons_zero, List.set_cons_succ])
  refine T_take (i := 6) hU 15 ?_ rfl rfl (by decide) (by kernel_rfl) (by kernel_rfl) (fun _ _ _ h => h) (Or.inl ⟨by rfl, ?_⟩) hHeld ?_; rotate_left; (intro w hSw; (try dsimp only at hSw); go_simp); (try with_reducible rfl); clear hU; intro hU; (try simp only [Act.put, List.setIfInBounds_toArray, List.set_cons_zero, List.set_cons_succ])
  refine T_take (i := 7) hU 16 (.agg (whereV S.m0 S.m1 S.m2 S.m3)) rfl rfl (by decide) (by kernel_rfl) (by kernel_rfl) (fun _ _ _ h => h) (yields_load _ _ _ _ rfl _ _ rfl s 8 rfl _ _ hu80 rfl hi80 (fun _ h => h.2)) hHeld ?_; clear hU; intro hU; (try simp only [Act.put, List.setIfInBounds_toArray, List.set_cons_zero, List.set_cons_succ])
  refine T_take (i := 8) hU 17 ?_ rfl rfl (by decide) (by kernel_rfl) (by kernel_rfl) (fun _ _ _ h => h) (Or.inl ⟨by rfl, ?_⟩) hHeld ?_; rotate_left; (intro w hSw; (try dsimp only at hSw); go_simp); (try with_reducible rfl); clear hU; intro hU; (try simp only [Act.put, List.setIfInBounds_toArray, List.set_cons_zero, List.set_cons_succ])
  have hHeld9 := hHeld
  refine T_step (i := 9) hU rfl (by decide) (by kernel_rfl) (fun K hK => ?_); clear hU hHeld
  refine step_storeCell rfl 3 _ _ rfl rfl w2.heap.size 0 (.int .i64 S.num) L.x.cells 82 (by with_unfolding_all exact rfl) (by with_unfolding_all exact rfl) (show At w4.drew w2.heap.size L.x.cells 82 from HY4.out) (show 0 < 13 by omega) size3 rfl rfl (fun w5 hA5 hk5 hs5 => ?_)
  refine hK.out _ _ (⟨hk5.keepCell n1 hHeld9.1, hk5.keepRange n1 hHeld9.2⟩) (fun hHeld hU => ?_); clear hK K; (try simp only [Act.put, List.setIfInBounds_toArray, List.set_cons_zero, List.set_cons_succ])
  refine T_take (i := 10) hU 18 ?_ rfl rfl (by decide) (by kernel_rfl) (by kernel_rfl) (fun _ _ _ h => h) (Or.inl ⟨by rfl, ?_⟩) hHeld ?_; rotate_left; (intro w hSw; (try dsimp only at hSw); go_simp); (try with_reducible rfl); clear hU; intro hU; (try simp only [Act.put, List.setIfInBounds_toArray, List.set_cons_zero, List.set_cons_succ])
  refine T_last (N := 11) rfl (by kernel_rfl) (by kernel_rfl) (fun K hK => ?_); clear hU hHeld
  refine step_storeRow' rfl 80 _ _ rfl rfl w2.heap.size 7 (whereV S.m0 S.m1 S.m2 S.m3) _ 82 (by with_unfolding_all exact rfl) (by with_unfolding_all exact rfl) hA5 (show 11 ≤ 13 by omega) (size80a _ _ _ _) (one80 _ _ _ _) (fun w6 hA6 hk6 hs6 => ?_)
  refine hK.out _ _ (NoPanic.normal ?_); clear hK K
  have K46 : Keep (· = w2.heap.size) w4 w6 := (Keep.ofDrew hk5).trans hk6 (fun _ _ h => h)
  have HY6 := Lib.hid (show At w6 w2.heap.size (L.x.to S.num S.m0 S.m1 S.m2 S.m3).cells 82 from hA6)
  have n2 : ¬ (w.heap.size = w2.heap.size) := by have := Hwy.out; omega
  have HZ6 := Lib.hid (K46.at HZ4.out n2)
  have hb2 := HB2.out.size
  have HB6 := Lib.hid (HB4.out.trans (K46.belowOf HB4.out.size (by intro b hb e; omega)))
  clear hA6 hA5 K46 d7 rw4 hHeld9
  go_wp2_with (first
    | (refine wpList_load_row rfl 82 _ rfl w2.heap.size rfl 82 (L.x.to S.num S.m0 S.m1 S.m2 S.m3).cells (0, 0) _ HY6.out hu82 rfl (size82 _) ?_)
    | (refine wpList_storeRow rfl 82 _ _ rfl rfl w.heap.size (L.x.to S.num S.m0 S.m1 S.m2 S.m3).cells zSlot _ rfl rfl HZ6.out rfl (size82 _) (one82 _) ?_; intro w7 hA7 hk7 hs7))
  refine bodyPost_ret (v := .agg (L.x.to S.num S.m0 S.m1 S.m2 S.m3).cells) (results_cell1 Tryz.results45 _ _ w.heap.size _ _ _ rfl hA7 hu82 rfl (size82 _)) rfl ⟨rfl, ?_⟩
  exact HB6.out.trans (hk7.belowOf HB6.out.size (by omega))
end Go.Proofs.YtnndkfhpifgaiaaGreat
namespace Go.Proofs.YtnndkfhpifgaiaaGreat
open Go.RowKit

theorem built163 (k : Int) (m : Nat) : Tryz.prog.built 163 [(0, .int .i64 k), (1, .int .i64 0), (2, .map (some m))] = some #[.int .i64 k, .int .i64 0, .map (some m)] := by kernel_rfl

theorem caps_ok (a b c : Int) (w : World) : Calls Tryz.prog 46 #[.int .i64 a, .int .i64 b, .int .i64 c] w fun e w' => (∃ k, e = .returned (.pointer (some ⟨k, 0, none⟩))) ∧ Below w.heap.size w w' := by
  go_enter Tryz.func46, Tryz.ntmps46
  go_wp2_with (first
    | (refine wpList_makeMapAt rfl 161 rfl ?_; intro w1 hm hk hs)
    | (refine wpList_buildL rfl 163 _ rfl _ _ (built163 _ _) rfl ?_)
    | (refine Great.wpList_boxTo rfl 163 _ rfl _ rfl _ rfl _ rfl ?_))
  go_ret
  exact ⟨⟨_, rfl⟩, hk.below.trans (((Below.refl _ w1).alloc (Nat.le_refl _) _).mono hk.size)⟩

set_option maxRecDepth 100000 in
set_option maxHeartbeats 2000000 in
theorem count_ok (hb s : Nat) (S : StoreV) (segs : List Int) (R : Option RootV) (now : Bool) (G : Nat → Prop) (w : World) (c : w.cell? ⟨hb, 0, none⟩ = some (.pointer (some ⟨s, 0, none⟩))) (h : StoreAt w s S segs R now G) (hr : HasRoot R now) :
    Calls Tryz.prog 48 #[.pointer (some ⟨hb, 0, none⟩)] w (Ans (.tuple #[.int .i64 0, .int .i64 1]) w) := by
  have HS := Lib.hid h
  clear h
  go_enter Tryz.func48, Tryz.ntmps48
  go_wp2_with (first
    | (go_at_call 49; refine (nodes_ok s S segs R now G _ HS.out hr).mono ?_; rintro e w1 ⟨b, cc, rfl, hbb, hown, hb1⟩))
  have c0 : w1.cell? ⟨b, 0, none⟩ = some (.int .i64 1) := by
    obtain ⟨b', off, c', _, he, _, hc⟩ := (IntsAt.of_own (xs := [1]) hown rfl).cells (by simp)
    simp only [Value.slice.injEq, Option.some.injEq, Addr.mk.injEq] at he
    obtain ⟨⟨rfl, rfl, _⟩, _⟩ := he
    exact hc 0 1 rfl
  have c' : w1.cell? ⟨hb, 0, none⟩ = some (.pointer (some ⟨s, 0, none⟩)) := Below.keepCell hb1 c
  refine wp_loop_rounds 2 ?_; rw [rounds_succ]
  go_wp2_with (first
    | (go_at_call 84; refine (has_ok s S segs R now G _ (HS.out.below hb1)).mono ?_; rintro e w2 ⟨rfl, hb2⟩))
  rw [rounds_succ]
  go_wp2
  go_ret2
  exact ⟨rfl, hb1.trans (hb2.mono hb1.size)⟩
end Go.Proofs.YtnndkfhpifgaiaaGreat
namespace Go.Proofs.YtnndkfhpifgaiaaGreat
open Go.RowKit

theorem ccut_ok (w : World) : Calls Tryz.prog 83 #[.int .i64 200, .int .i64 1000] w fun e w' => e = .returned (.int .i64 200) ∧ w' = w := by
  go_enter Tryz.func83, Tryz.ntmps83
  go_wp2
  go_ret
  exact ⟨rfl, rfl⟩

theorem built167 (s : Nat) (sct : Int) (p : Option Addr) (m c : Nat) : Tryz.prog.built 167 [(0, .iface 57 (.pointer (some ⟨s, 0, none⟩))), (1, .agg #[.int .i64 sct, .int .i64 32]), (2, .slice p m c), (3, .int .i64 200)] = some #[.iface 57 (.pointer (some ⟨s, 0, none⟩)), .int .i64 sct, .int .i64 32, .slice p m c, .int .i64 200, .int .i64 0] := by kernel_rfl
theorem mkIface (v : Value) (w : World) : (Instr.makeInterface 57 v).run Tryz.prog w = .ok (.iface 57 v) w := by
  simp [Instr.makeInterface, run_underlying Tryz.underlying57]

set_option maxRecDepth 100000 in
set_option maxHeartbeats 1000000 in
theorem cnew_ok (s : Nat) (sct : Int) (v : Value) (xs : List Int) (N : Nat) (w : World) (hI : IntsAt w v xs N) (hN : N ≤ w.heap.size) (hl : xs.length ≤ 1000) :
    Calls Tryz.prog 47 #[.pointer (some ⟨s, 0, none⟩), .agg #[.int .i64 sct, .int .i64 32], v, .int .i64 200] w fun e w' => (∃ k, e = .returned (.pointer (some ⟨k, 0, none⟩))) ∧ Below w.heap.size w w' := by
  have hu25 := Tryz.underlying25
  have hmi := mkIface
  have HI := Lib.hid hI
  clear hI
  go_enter Tryz.func47, Tryz.ntmps47
  go_wp2_with (first
    | (refine wpList_boxAt rfl 25 _ rfl #[.int .i64 sct, .int .i64 32] rfl ?_; intro w1 hA1 hk1 hs1))
  have r1 : w1.rangeAt w.heap.size 0 [.int .i64 sct, .int .i64 32] := hA1.range 0 2
  have HI1 := Lib.hid (show IntsAt w1.drew v xs N from HI.out.below ((hk1.below.trans ((World.drew_below0 w1).mono hk1.size)).mono hN))
  (try simp only [Act.put, List.setIfInBounds_toArray, List.set_cons_zero, List.set_cons_succ])
  refine wp_region_noPanic ?_
  refine T_region 9 (fun w' => w'.rangeAt w.heap.size 0 [.int .i64 sct, .int .i64 32]) (by kernel_rfl) (by kernel_rfl) (by kernel_rfl) (by decide) (by kernel_rfl) r1 (fun hHeld hU => ?_)
  refine T_take (i := 0) hU 9 ?_ rfl rfl (by decide) (by kernel_rfl) (by kernel_rfl) (fun _ _ _ h => h) (Or.inl ⟨by rfl, ?_⟩) hHeld ?_; rotate_left; (intro w hSw; (try dsimp only at hSw); go_simp); (try with_reducible rfl); clear hU; intro hU; (try simp only [Act.put, List.setIfInBounds_toArray, List.set_cons_zero, List.set_cons_succ])
  refine T_take (i := 1) hU 10 ?_ rfl rfl (by decide) (by kernel_rfl) (by kernel_rfl) (fun _ _ _ h => h) (Or.inl ⟨by rfl, ?_⟩) hHeld ?_; rotate_left; (intro w hSw; (try dsimp only at hSw); go_simp); (try with_reducible rfl); clear hU; intro hU; (try simp only [Act.put, List.setIfInBounds_toArray, List.set_cons_zero, List.set_cons_succ])
  refine T_take (i := 2) hU 11 (.agg #[.int .i64 sct, .int .i64 32]) rfl rfl (by decide) (by kernel_rfl) (by kernel_rfl) (fun _ _ _ h => h) (yields_load _ _ _ _ rfl _ _ rfl w.heap.size 0 rfl _ _ hu25 rfl (size25 _ _) (fun _ h => h)) hHeld ?_; clear hU; intro hU; (try simp only [Act.put, List.setIfInBounds_toArray, List.set_cons_zero, List.set_cons_succ])
  refine T_take (i := 3) hU 12 ?_ rfl rfl (by decide) (by kernel_rfl) (by kernel_rfl) (fun _ _ _ h => h) (Or.inl ⟨by rfl, ?_⟩) hHeld ?_; rotate_left; (intro w hSw; (try dsimp only at hSw); go_simp); (try with_reducible rfl); clear hU; intro hU; (try simp only [Act.put, List.setIfInBounds_toArray, List.set_cons_zero, List.set_cons_succ])
  refine T_take (i := 5) hU 14 ?_ rfl rfl (by decide) (by kernel_rfl) (by kernel_rfl) (fun _ _ _ h => h) (Or.inl ⟨by rfl, ?_⟩) hHeld ?_; rotate_left; (intro w hSw; (try dsimp only at hSw); go_simp); (try with_reducible rfl); clear hU; intro hU; (try simp only [Act.put, List.setIfInBounds_toArray, List.set_cons_zero, List.set_cons_succ])
  have hHeld4 := hHeld
  refine T_step (i := 4) hU rfl (by decide) (by kernel_rfl) (fun K hK => ?_); clear hU hHeld
  go_simp
  go_at_call 23
  refine (clone_ok v xs N _ HI1.out hl).mono ?_
  rintro e w2 ⟨fv, rfl, hown, hb2⟩
  obtain ⟨pf, cf, rfl⟩ := ownsRow_slice hown
  refine hK.out _ _ (Below.keepRange hb2 hHeld4) (fun hHeld hU => ?_); clear hK K; (try simp only [Act.put, List.setIfInBounds_toArray, List.set_cons_zero, List.set_cons_succ])
  have hHeld6 := hHeld
  refine T_step (i := 6) hU rfl (by decide) (by kernel_rfl) (fun K hK => ?_); clear hU hHeld
  go_simp
  go_at_call 83
  refine (ccut_ok _).mono ?_
  rintro e w3 ⟨rfl, rfl⟩
  refine hK.out _ _ (hHeld6) (fun hHeld hU => ?_); clear hK K; (try simp only [Act.put, List.setIfInBounds_toArray, List.set_cons_zero, List.set_cons_succ])
  refine T_take (i := 7) hU 16 (.agg #[.iface 57 (.pointer (some ⟨s, 0, none⟩)), .int .i64 sct, .int .i64 32, .slice pf xs.length cf, .int .i64 200, .int .i64 0]) rfl rfl (by decide) (by kernel_rfl) (by kernel_rfl) (fun _ _ _ h => h) (yields_build _ _ _ _ rfl _ _ rfl _ _ (built167 s sct pf xs.length cf) rfl) hHeld ?_; clear hU; intro hU; (try simp only [Act.put, List.setIfInBounds_toArray, List.set_cons_zero, List.set_cons_succ])
  have hHeld8 := hHeld
  refine T_step (i := 8) hU rfl (by decide) (by kernel_rfl) (fun K hK => ?_); clear hU hHeld
  refine step_boxN rfl _ _ rfl 17 rfl #[.iface 57 (.pointer (some ⟨s, 0, none⟩)), .int .i64 sct, .int .i64 32, .slice pf xs.length cf, .int .i64 200, .int .i64 0] rfl (fun w4 q hq0 hq1 hA4 hk4 => ?_)
  refine hK.out _ _ (hk4.keepRange id hHeld8) (fun hHeld hU => ?_); clear hK K; (try simp only [Act.put, List.setIfInBounds_toArray, List.set_cons_zero, List.set_cons_succ])
  refine T_last (N := 9) rfl (by kernel_rfl) (by kernel_rfl) (fun K hK => ?_); clear hU hHeld
  go_simp
  refine hK.out _ _ (NoPanic.normal ?_); clear hK K
  go_wp2
  go_ret
  have b2 := (World.drew_below0 w1).trans hb2
  exact ⟨⟨_, rfl⟩, (hk1.below.trans (b2.mono hk1.size)).trans (hk4.below.mono (Nat.le_trans hk1.size b2.size))⟩
end Go.Proofs.YtnndkfhpifgaiaaGreat
