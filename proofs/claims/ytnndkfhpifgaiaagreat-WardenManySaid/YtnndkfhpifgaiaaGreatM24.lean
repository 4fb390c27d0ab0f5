/-
  image: both copies of a slot wiped; a state saved.
  A store in memory; made, Abort.
-/
import Derived.Test.YtnndkfhpifgaiaaGreatM21
import Derived.Test.YtnndkfhpifgaiaaGreatM18
set_option linter.unusedVariables false
set_option linter.unusedSimpArgs false
namespace Go.Proofs.YtnndkfhpifgaiaaGreat
open Go.RowKit

theorem Step.pre {d n B : Nat} {F : Nat → Prop} {w0 w1 w2 : World} (hb : Below w0.heap.size w0 w1) (h : Step d n F w1 B w2) : Step d n F w0 B w2 := by
  obtain ⟨F', h1, h2, h3⟩ := h
  exact ⟨F', h1, fun k hk => (h2 k hk).imp id (fun h => Nat.le_trans hb.size h), (Keep.of_below hb F).trans h3 (fun _ _ h => h)⟩
theorem Step.comp {d n B : Nat} {F F1 : Nat → Prop} {w0 w1 w2 : World} (hF1 : ∀ k, F1 k → F k ∨ w0.heap.size ≤ k) (hK1 : Keep F w0 w1) (h : Step d n F1 w1 B w2) : Step d n F w0 B w2 := by
  obtain ⟨F', h1, h2, h3⟩ := h
  have hz := hK1.size
  refine ⟨F', h1, fun k hk => ?_, hK1.trans h3 (fun b hb h => (hF1 b h).resolve_right (by omega))⟩
  rcases h2 k hk with h | h
  · exact hF1 k h
  · right; omega
theorem Step.mono {d n B B' : Nat} {F : Nat → Prop} {w0 w1 : World} (h : Step d n F w0 B w1) (hB : B ≤ B') : Step d n F w0 B' w1 := by
  obtain ⟨F', h1, h2, h3⟩ := h
  exact ⟨F', h1.mono hB, h2, h3⟩

def z2 : Array Value := #[.int .i64 0, .int .i64 0]
theorem zero121 : (Tryz.prog.info? 121).bind (·.zero) = some (.agg z2) := by kernel_rfl
theorem size121 (a b : Int) : (Tryz.prog.info? 121).map (·.size) = some (#[Value.int .i64 a, Value.int .i64 b] : Array Value).size := by kernel_rfl
theorem built121 (a b : Int) : Tryz.prog.built 121 [(0, .int .i64 a), (1, .int .i64 b)] = some #[.int .i64 a, .int .i64 b] := by kernel_rfl
theorem one121 (a b : Int) : (#[Value.int .i64 a, Value.int .i64 b] : Array Value).all (·.oneCell') = true := by simp [Value.oneCell']
theorem ix2_0 (a b : Int) (w : World) : (Instr.index 121 (.agg #[.int .i64 a, .int .i64 b]) (.int .i64 0)).run Tryz.prog w = .ok (.int .i64 a) w := by kernel_rfl
theorem ix2_1 (a b : Int) (w : World) : (Instr.index 121 (.agg #[.int .i64 a, .int .i64 b]) (.int .i64 1)).run Tryz.prog w = .ok (.int .i64 b) w := by kernel_rfl

set_option maxHeartbeats 400000 in
set_option maxRecDepth 100000 in
theorem copies_ok (h : Int) (w : World) (h0 : 1 ≤ h) (h1 : h ≤ 16) : Calls Tryz.prog 58 #[.int .i64 h] w (Ans (.agg #[.int .i64 (16 + 2 * (h - 1)), .int .i64 (16 + 2 * (h - 1) + 1)]) w) := by
  have hu := Tryz.underlying121
  go_enter Tryz.func58, Tryz.ntmps58
  go_wp2_with (first
    | (refine wpList_allocAt rfl 121 rfl z2 zero121 ?_; intro w1 hz1 hk1 hs1)
    | (go_at_call 93; refine (slotAt_ok h _ _ h0 h1 (by omega) (by omega)).mono ?_; rintro e w' ⟨rfl, rfl⟩)
    | (refine wpList_build2 rfl 121 0 1 _ _ rfl _ _ rfl rfl _ (built121 _ _) ?_)
    | (refine wpList_storeRow rfl 121 _ _ rfl rfl w.heap.size _ z2 _ rfl rfl hz1 rfl (size121 _ _) (one121 _ _) ?_; intro w2 hA2 hk2 hs2))
  refine bodyPost_ret (results_cell1 Tryz.results58 _ _ w.heap.size _ _ _ rfl hA2 hu rfl (size121 _ _)) rfl ⟨by simp, ?_⟩
  exact (hk1.trans (G := (· = w.heap.size)) hk2 (fun b hb e => by subst e; omega)).below

theorem z1_size : (⟨#[0]⟩ : ByteArray).size = 1 := rfl

set_option maxRecDepth 100000 in
set_option maxHeartbeats 1000000 in
theorem wipe_ok (d n B : Nat) (F : Nat → Prop) (h : Int) (w : World) (hd : DiskAt w d n B F) (h0 : 1 ≤ h) (h1 : h ≤ 16) (hn : 48 ≤ n) (hn' : n ≤ 16384) (hB : B + 10 < 1000000000) :
    Calls Tryz.prog 36 #[.pointer (some ⟨d, 0, none⟩), .int .i64 h, .int .i64 h] w fun e w' => e = .returned (.bool true) ∧ Step d n F w (B + 2) w' := by
  have Hd := Lib.hid hd
  clear hd
  go_enter Tryz.func36, Tryz.ntmps36
  go_wp2_with (first
    | (go_at_call 58; refine (copies_ok h _ h0 h1).mono ?_; rintro e w1 ⟨rfl, hb1⟩))
  have Hd1 := Lib.hid (Hd.out.below hb1)
  have hst0 : Step d n F w B w1 := Step.of_below Hd.out hb1
  have Hst0 := Lib.hid hst0
  clear hst0 hb1
  go_loopg [7, 12] 2 (fun gk ok i wr => ∃ k : Nat, k ≤ 2 ∧ gk = 2 - k ∧ i = .int .i64 k ∧ ok = .bool true ∧ Step d n F w (B + k) wr)
  case atStart => exact ⟨0, by omega, by omega, rfl, rfl, Hst0.out⟩
  case round =>
    obtain ⟨k, hk, hgk, rfl, rfl, hst⟩ := hrel
    have Hgk := Lib.hid hgk
    have Hst := Lib.hid hst
    obtain ⟨F1, hd1, hF1, hK1⟩ := hst
    have Hd2 := Lib.hid hd1
    clear hgk hd1
    match k, hk with
    | 2, _ =>
      go_wp2
      go_ret
      exact ⟨rfl, Hst.out⟩
    | 0, _ =>
      have i0 := ix2_0 (16 + 2 * (h - 1)) (16 + 2 * (h - 1) + 1)
      have e0 : decide (0 < 16 + 2 * (h - 1)) = true := by simp; omega
      go_wp2_with (first
        | (go_at_call 57; refine (repeatI _ _ _ z1_size (by omega) (by omega)).mono ?_; rintro e w6 ⟨s6, hs6, rfl, hb6⟩)
        | (go_at_call 31; refine (write_step d n B F1 _ _ _ _ (Hd2.out.below hb6) (by omega) (by omega) (by omega) (by omega) hs6 (by omega)).mono ?_; rintro e w7 ⟨rfl, hst7⟩))
      go_roundg (2 - 1)
      case measure => have := Hgk.out; omega
      case rel => exact ⟨1, by omega, rfl, rfl, rfl, Step.comp hF1 hK1 (Step.pre hb6 hst7)⟩
    | 1, _ =>
      have i0 := ix2_1 (16 + 2 * (h - 1)) (16 + 2 * (h - 1) + 1)
      have e0 : decide (0 < 16 + 2 * (h - 1) + 1) = true := by simp; omega
      go_wp2_with (first
        | (go_at_call 57; refine (repeatI _ _ _ z1_size (by omega) (by omega)).mono ?_; rintro e w6 ⟨s6, hs6, rfl, hb6⟩)
        | (go_at_call 31; refine (write_step d n (B + 1) F1 _ _ _ _ (Hd2.out.below hb6) (by omega) (by omega) (by omega) (by omega) hs6 (by omega)).mono ?_; rintro e w7 ⟨rfl, hst7⟩))
      go_roundg (2 - 2)
      case measure => have := Hgk.out; omega
      case rel => exact ⟨2, by omega, rfl, rfl, rfl, Step.comp hF1 hK1 (Step.pre hb6 hst7)⟩

set_option maxRecDepth 100000 in
set_option maxHeartbeats 1000000 in
theorem save_ok (d n B : Nat) (F : Nat → Prop) (h g : Int) (x : SlotV) (w : World) (hd : DiskAt w d n B F) (h0 : 1 ≤ h ∧ h ≤ 16) (g0 : 1 ≤ g ∧ g ≤ 65535) (hx : x.Ok) (hnum : x.num = 1) (hn : 48 ≤ n) (hn' : n ≤ 16384) (hB : B + 10 < 1000000000) :
    Calls Tryz.prog 122 #[.pointer (some ⟨d, 0, none⟩), .int .i64 h, .int .i64 g, .agg x.cells] w fun e w' => e = .returned (.bool true) ∧ Step d n F w (B + 1) w' := by
  have Hd := Lib.hid hd
  have hu := Tryz.underlying82
  have hi := size82 x
  have hxc : x.cells[0]? = some (.int .i64 1) := by rw [← hnum]; rfl
  have i1 := ix2_1 (16 + 2 * (h - 1)) (16 + 2 * (h - 1) + 1)
  have hput := fun w => slotPut_ok h g x hx w h0 g0
  have Hput := Lib.hid hput
  clear hd hput hnum
  go_enter Tryz.func122, Tryz.ntmps122
  go_wp2_with (first
    | (refine wpList_boxAt rfl 82 _ rfl x.cells rfl ?_; intro w1 hA1 hk1 hs1; have HA1 := Lib.hid hA1; clear hA1)
    | (refine wpList_load_row rfl 82 _ rfl w.heap.size rfl 82 x.cells (0, 0) _ HA1.out hu rfl hi ?_)
    | (go_at_call 169; refine (Hput.out _).mono ?_; rintro e w2 ⟨s, hs, rfl, hb2⟩))
  have c0 : w2.cell? ⟨w.heap.size, 0, none⟩ = some (.int .i64 1) := Below.keepCell hb2 ((HA1.out.cell 0).trans hxc)
  have B2 : Below w.heap.size w w2 := hk1.below.trans (hb2.mono (by omega))
  have Hd2 := Lib.hid (Hd.out.below B2)
  have nF : ¬ F w.heap.size := fun hf => by have := Hd.out.lt _ hf; omega
  have hlt : w.heap.size < w2.heap.size := by have := hb2.size; omega
  clear hxc hb2 hk1 hi hu
  have hbit : bits BinOp.and IntKind.i64 1 1 = 1 := by kernel_rfl
  (try simp only [Act.put, List.setIfInBounds_toArray, List.set_cons_zero, List.set_cons_succ])
  refine wp_region_noPanic ?_
  refine T_region 23 (fun w' => w'.cell? ⟨w.heap.size, 0, none⟩ = some (.int .i64 1)) (by kernel_rfl) (by kernel_rfl) (by kernel_rfl) (by decide) (by kernel_rfl) c0 (fun hHeld hU => ?_)
  refine T_take (i := 0) hU 18 ?_ rfl rfl (by decide) (by kernel_rfl) (by kernel_rfl) (fun _ _ _ h => h) (Or.inl ⟨by rfl, ?_⟩) hHeld ?_; rotate_left; (intro w hSw; (try dsimp only at hSw); go_simp); (try with_reducible rfl); clear hU; intro hU; (try simp only [Act.put, List.setIfInBounds_toArray, List.set_cons_zero, List.set_cons_succ])
  refine T_take (i := 1) hU 19 ?_ rfl rfl (by decide) (by kernel_rfl) (by kernel_rfl) (fun _ _ _ h => h) (Or.inl ⟨by rfl, ?_⟩) hHeld ?_; rotate_left; (intro w hSw; (try dsimp only at hSw); go_simp); (try with_reducible rfl); clear hU; intro hU; (try simp only [Act.put, List.setIfInBounds_toArray, List.set_cons_zero, List.set_cons_succ])
  refine T_take (i := 2) hU 20 ?_ rfl rfl (by decide) (by kernel_rfl) (by kernel_rfl) (fun _ _ _ h => h) (Or.inl ⟨by rfl, ?_⟩) hHeld ?_; rotate_left; (intro w hSw; (try dsimp only at hSw); go_simp); (try with_reducible rfl); clear hU; intro hU; (try simp only [Act.put, List.setIfInBounds_toArray, List.set_cons_zero, List.set_cons_succ])
  refine T_take (i := 3) hU 21 ?_ rfl rfl (by decide) (by kernel_rfl) (by kernel_rfl) (fun _ _ _ h => h) (Or.inl ⟨by rfl, ?_⟩) hHeld ?_; rotate_left; (intro w hSw; (try dsimp only at hSw); go_simp); (try with_reducible rfl); clear hU; intro hU; (try simp only [Act.put, List.setIfInBounds_toArray, List.set_cons_zero, List.set_cons_succ])
  have hHeld4 := hHeld
  refine T_step (i := 4) hU rfl (by decide) (by kernel_rfl) (fun K hK => ?_); clear hU hHeld
  go_simp
  go_at_call 33
  refine (flush_step d n B F _ _ Hd2.out.drew (by omega) (by omega) hn' (by omega)).mono ?_
  rintro e w3 ⟨rfl, hst3⟩
  obtain ⟨F3, hd3, hF3, hK3⟩ := hst3
  have nF3 : ¬ F3 w.heap.size := fun hf => by
    rcases hF3 _ hf with h | h
    · exact nF h
    · have : w2.heap.size ≤ w.heap.size := h
      omega
  refine hK.out _ _ (hK3.keepCell nF hHeld4) (fun hHeld hU => ?_); clear hK K; (try simp only [Act.put, List.setIfInBounds_toArray, List.set_cons_zero, List.set_cons_succ])
  refine T_take (i := 5) hU 23 ?_ rfl rfl (by decide) (by kernel_rfl) (by kernel_rfl) (fun _ _ _ h => h) (Or.inl ⟨by rfl, ?_⟩) hHeld ?_; rotate_left; (intro w hSw; (try dsimp only at hSw); go_simp); (try with_reducible rfl); clear hU; intro hU; (try simp only [Act.put, List.setIfInBounds_toArray, List.set_cons_zero, List.set_cons_succ])
  refine T_take (i := 6) hU 24 ?_ rfl rfl (by decide) (by kernel_rfl) (by kernel_rfl) (fun _ _ _ h => h) (Or.inl ⟨by rfl, ?_⟩) hHeld ?_; rotate_left; (intro w hSw; (try dsimp only at hSw); go_simp); (try with_reducible rfl); clear hU; intro hU; (try simp only [Act.put, List.setIfInBounds_toArray, List.set_cons_zero, List.set_cons_succ])
  refine T_take (i := 7) hU 25 ?_ rfl rfl (by decide) (by kernel_rfl) (by kernel_rfl) (fun _ _ _ h => h) (Or.inl ⟨by rfl, ?_⟩) hHeld ?_; rotate_left; (intro w hSw; (try dsimp only at hSw); go_simp); (try with_reducible rfl); clear hU; intro hU; (try simp only [Act.put, List.setIfInBounds_toArray, List.set_cons_zero, List.set_cons_succ])
  refine T_take (i := 8) hU 26 ?_ rfl rfl (by decide) (by kernel_rfl) (by kernel_rfl) (fun _ _ _ h => h) (Or.inl ⟨by rfl, ?_⟩) hHeld ?_; rotate_left; (intro w hSw; (try dsimp only at hSw); go_simp); (try with_reducible rfl); clear hU; intro hU; (try simp only [Act.put, List.setIfInBounds_toArray, List.set_cons_zero, List.set_cons_succ])
  refine T_take (i := 9) hU 27 ?_ rfl rfl (by decide) (by kernel_rfl) (by kernel_rfl) (fun _ _ _ h => h) (Or.inl ⟨by rfl, ?_⟩) hHeld ?_; rotate_left; (intro w hSw; (try dsimp only at hSw); go_simp); (try with_reducible rfl); clear hU; intro hU; (try simp only [Act.put, List.setIfInBounds_toArray, List.set_cons_zero, List.set_cons_succ])
  refine T_take (i := 11) hU 29 ?_ rfl rfl (by decide) (by kernel_rfl) (by kernel_rfl) (fun _ _ _ h => h) (Or.inl ⟨by rfl, ?_⟩) hHeld ?_; rotate_left; (intro w hSw; (try dsimp only at hSw); go_simp); (try with_reducible rfl); clear hU; intro hU; (try simp only [Act.put, List.setIfInBounds_toArray, List.set_cons_zero, List.set_cons_succ])
  refine T_take (i := 12) hU 30 ?_ rfl rfl (by decide) (by kernel_rfl) (by kernel_rfl) (fun _ _ _ h => h) (Or.inl ⟨by rfl, ?_⟩) hHeld ?_; rotate_left; (intro w hSw; (try dsimp only at hSw); go_simp); (try with_reducible rfl); clear hU; intro hU; (try simp only [Act.put, List.setIfInBounds_toArray, List.set_cons_zero, List.set_cons_succ])
  refine T_take (i := 13) hU 31 ?_ rfl rfl (by decide) (by kernel_rfl) (by kernel_rfl) (fun _ _ _ h => h) (Or.inl ⟨by rfl, ?_⟩) hHeld ?_; rotate_left; (intro w hSw; (try dsimp only at hSw); go_simp); (try with_reducible rfl); clear hU; intro hU; (try simp only [Act.put, List.setIfInBounds_toArray, List.set_cons_zero, List.set_cons_succ])
  refine T_take (i := 15) hU 33 ?_ rfl rfl (by decide) (by kernel_rfl) (by kernel_rfl) (fun _ _ _ h => h) (Or.inl ⟨by rfl, ?_⟩) hHeld ?_; rotate_left; (intro w hSw; (try dsimp only at hSw); go_simp); (try with_reducible rfl); clear hU; intro hU; (try simp only [Act.put, List.setIfInBounds_toArray, List.set_cons_zero, List.set_cons_succ])
  have hHeld10 := hHeld
  refine T_step (i := 10) hU rfl (by decide) (by kernel_rfl) (fun K hK => ?_); clear hU hHeld
  go_simp
  go_at_call 58
  refine (copies_ok h _ h0.1 h0.2).mono ?_
  rintro e w4 ⟨rfl, hb4⟩
  refine hK.out _ _ (Below.keepCell hb4 hHeld10) (fun hHeld hU => ?_); clear hK K; (try simp only [Act.put, List.setIfInBounds_toArray, List.set_cons_zero, List.set_cons_succ])
  refine T_take (i := 14) hU 32 ?_ rfl rfl (by decide) (by kernel_rfl) (by kernel_rfl) (fun _ _ _ h => h) (Or.inl ⟨by rfl, ?_⟩) hHeld ?_; rotate_left; (intro w hSw; (try dsimp only at hSw); go_simp); (try with_reducible rfl); clear hU; intro hU; (try simp only [Act.put, List.setIfInBounds_toArray, List.set_cons_zero, List.set_cons_succ])
  have hHeld16 := hHeld
  refine T_step (i := 16) hU rfl (by decide) (by kernel_rfl) (fun K hK => ?_); clear hU hHeld
  go_simp
  go_at_call 31
  refine (write_step d n B F3 _ _ _ _ (hd3.below hb4) (by omega) (by omega) (by omega) (by omega) hs (by omega)).mono ?_
  rintro e w5 ⟨rfl, hst5⟩
  obtain ⟨F5, hd5, hF5, hK5⟩ := Step.pre hb4 hst5
  have nF5 : ¬ F5 w.heap.size := fun hf => by
    rcases hF5 _ hf with h | h
    · exact nF3 h
    · have := hK3.size
      have h2 : w2.drew.heap.size = w2.heap.size := rfl
      omega
  refine hK.out _ _ (hst5.keep.keepCell nF3 hHeld16) (fun hHeld hU => ?_); clear hK K; (try simp only [Act.put, List.setIfInBounds_toArray, List.set_cons_zero, List.set_cons_succ])
  refine T_take (i := 17) hU 35 ?_ rfl rfl (by decide) (by kernel_rfl) (by kernel_rfl) (fun _ _ _ h => h) (Or.inl ⟨by rfl, ?_⟩) hHeld ?_; rotate_left; (intro w hSw; (try dsimp only at hSw); go_simp); (try with_reducible rfl); clear hU; intro hU; (try simp only [Act.put, List.setIfInBounds_toArray, List.set_cons_zero, List.set_cons_succ])
  refine T_take (i := 18) hU 36 ?_ rfl rfl (by decide) (by kernel_rfl) (by kernel_rfl) (fun _ _ _ h => h) (Or.inl ⟨by rfl, ?_⟩) hHeld ?_; rotate_left; (intro w hSw; (try dsimp only at hSw); go_simp); (try with_reducible rfl); clear hU; intro hU; (try simp only [Act.put, List.setIfInBounds_toArray, List.set_cons_zero, List.set_cons_succ])
  refine T_take (i := 19) hU 37 ?_ rfl rfl (by decide) (by kernel_rfl) (by kernel_rfl) (fun _ _ _ h => h) (Or.inl ⟨by rfl, ?_⟩) hHeld ?_; rotate_left; (intro w hSw; (try dsimp only at hSw); go_simp); (try with_reducible rfl); clear hU; intro hU; (try simp only [Act.put, List.setIfInBounds_toArray, List.set_cons_zero, List.set_cons_succ])
  refine T_take (i := 20) hU 38 ?_ rfl rfl (by decide) (by kernel_rfl) (by kernel_rfl) (fun _ _ _ h => h) (Or.inl ⟨by rfl, ?_⟩) hHeld ?_; rotate_left; (intro w hSw; (try dsimp only at hSw); go_simp); (try with_reducible rfl); clear hU; intro hU; (try simp only [Act.put, List.setIfInBounds_toArray, List.set_cons_zero, List.set_cons_succ])
  have hHeld21 := hHeld
  refine T_step (i := 21) hU rfl (by decide) (by kernel_rfl) (fun K hK => ?_); clear hU hHeld
  go_simp
  go_at_call 33
  refine (flush_step d n (B + 1) F5 _ _ hd5 (by omega) (by omega) hn' (by omega)).mono ?_
  rintro e w6 ⟨rfl, hst6⟩
  refine hK.out _ _ (hst6.keep.keepCell nF5 hHeld21) (fun hHeld hU => ?_); clear hK K; (try simp only [Act.put, List.setIfInBounds_toArray, List.set_cons_zero, List.set_cons_succ])
  refine T_take (i := 22) hU 40 ?_ rfl rfl (by decide) (by kernel_rfl) (by kernel_rfl) (fun _ _ _ h => h) (Or.inl ⟨by rfl, ?_⟩) hHeld ?_; rotate_left; (intro w hSw; (try dsimp only at hSw); go_simp); (try with_reducible rfl); clear hU; intro hU; (try simp only [Act.put, List.setIfInBounds_toArray, List.set_cons_zero, List.set_cons_succ])
  refine T_last (N := 23) rfl (by kernel_rfl) (by kernel_rfl) (fun K hK => ?_); clear hU hHeld
  go_simp
  refine hK.out _ _ (NoPanic.normal ?_); clear hK K
  go_wp2
  go_ret
  refine ⟨rfl, Step.pre B2 (Step.ofDrew (Step.comp hF3 hK3 (Step.comp hF5 hK5 hst6)))⟩
end Go.Proofs.YtnndkfhpifgaiaaGreat
namespace Go.Proofs.YtnndkfhpifgaiaaGreat
open Go.RowKit

/-- A store's own cells. -/
structure StoreV where
  (d : Nat) (sct h g : Int) (sv : Value) (lp : Option Addr) (num m0 m1 m2 m3 : Int) (base last mset mtouch mnodes mturn mgone : Nat)
def StoreV.cells (S : StoreV) : Array Value := #[.pointer (some ⟨S.d, 0, none⟩), .int .i64 S.sct, .int .i64 32, .int .i64 S.h, .int .i64 S.g, S.sv, .pointer S.lp, .int .i64 S.num, .int .i64 S.m0, .int .i64 S.m1, .int .i64 S.m2, .int .i64 S.m3,
  .map (some S.base), .map (some S.last), .map (some S.mset), .map (some S.mtouch), .map (some S.mnodes), .map (some S.mturn), .map (some S.mgone)]

/-- A node as it stands on the disk: the root, its sector; two maps without entries. -/
structure RootV where
  (st bl ind : Nat) (sector : Int)
def RootV.cells (R : RootV) : Array Value := #[.int .i64 1, .int .i64 2, .int .i64 1, .int .i64 0, .int .i64 0, .int .i64 0, .int .i64 0, .int .i64 0, .int .i64 0, .int .i64 0, .int .i64 0, .int .i64 0, .int .i64 0, .int .i64 0, .int .i64 0, .int .i64 0, .int .i64 0, .int .i64 0, .int .i64 0,
  .int .i64 R.sector, .map (some R.bl), .map (some R.ind)]
def baseL : Option RootV → List (Int × Value)
  | none => []
  | some R => [(1, .pointer (some ⟨R.st, 0, none⟩))]
def nodesL (b : Bool) : List (Int × Value) := if b then [(1, rootV)] else []
def turnL (b : Bool) : List (Int × Value) := if b then [(1, .bool true)] else []

/-- A slice of numbers whose block is one of G. -/
def OwnI (w : World) (v : Value) (xs : List Int) (G : Nat → Prop) : Prop := w.ownsRow 0 3 1 v xs.length (xs.map (Value.int .i64)) ∧ ∀ b, v.ownBlock = some b → G b

/-- Block s is a store of these cells; what it has on the disk (R); is the root set, since (now)? All its blocks are of G. -/
structure StoreAt (w : World) (s : Nat) (S : StoreV) (segs : List Int) (R : Option RootV) (now : Bool) (G : Nat → Prop) : Prop where
  cells : At w s S.cells 92
  segs : OwnI w S.sv segs G
  base : IMap w S.base (baseL R)
  last : ∃ l, IMap w S.last l
  set : IMap w S.mset []
  touch : IMap w S.mtouch []
  nodes : IMap w S.mnodes (nodesL now)
  turn : IMap w S.mturn (turnL now)
  gone : IMap w S.mgone []
  root : ∀ r, R = some r → At w r.st r.cells 141 ∧ IMap w r.bl [] ∧ IMap w r.ind [] ∧ G r.st ∧ G r.bl ∧ G r.ind
  gs : G s
  gb : G S.base ∧ G S.last ∧ G S.mset ∧ G S.mtouch ∧ G S.mnodes ∧ G S.mturn ∧ G S.mgone
  ne : S.mnodes ≠ S.mturn ∧ S.mset ≠ S.mnodes ∧ S.mset ≠ S.mturn ∧ S.mtouch ≠ S.mnodes ∧ S.mtouch ≠ S.mturn ∧ S.mgone ≠ S.mnodes ∧ S.mgone ≠ S.mturn ∧ S.base ≠ S.last ∧ S.base ≠ S.mnodes ∧ S.base ≠ S.mturn ∧ S.last ≠ S.mnodes ∧ S.last ≠ S.mturn ∧ S.base ≠ S.mset ∧ S.base ≠ S.mtouch ∧ S.base ≠ S.mgone ∧ S.last ≠ S.mset ∧ S.last ≠ S.mtouch ∧ S.last ≠ S.mgone
  neR : ∀ r, R = some r → S.base ≠ r.bl ∧ S.base ≠ r.ind ∧ S.last ≠ r.bl ∧ S.last ≠ r.ind
  lt : ∀ k, G k → k < w.heap.size

section
variable {w w' : World} {s : Nat} {S : StoreV} {segs : List Int} {R : Option RootV} {now : Bool} {G : Nat → Prop}
theorem OwnI.keep {v : Value} {xs : List Int} {K : Nat → Prop} (h : OwnI w v xs G) (hk : Keep K w w') (hG : ∀ k, G k → ¬ K k) : OwnI w' v xs G :=
  ⟨hk.ownsRow h.1 (fun b hb => hG b (h.2 b hb)), h.2⟩
theorem StoreAt.keep {K : Nat → Prop} (h : StoreAt w s S segs R now G) (hk : Keep K w w') (hG : ∀ k, G k → ¬ K k) : StoreAt w' s S segs R now G where
  cells := hk.at h.cells (hG _ h.gs)
  segs := h.segs.keep hk hG
  base := h.base.keep hk (hG _ h.gb.1)
  last := h.last.imp fun l hl => hl.keep hk (hG _ h.gb.2.1)
  set := h.set.keep hk (hG _ h.gb.2.2.1)
  touch := h.touch.keep hk (hG _ h.gb.2.2.2.1)
  nodes := h.nodes.keep hk (hG _ h.gb.2.2.2.2.1)
  turn := h.turn.keep hk (hG _ h.gb.2.2.2.2.2.1)
  gone := h.gone.keep hk (hG _ h.gb.2.2.2.2.2.2)
  root := fun r hr => by
    obtain ⟨h1, h2, h3, h4, h5, h6⟩ := h.root r hr
    exact ⟨hk.at h1 (hG _ h4), h2.keep hk (hG _ h5), h3.keep hk (hG _ h6), h4, h5, h6⟩
  gs := h.gs
  gb := h.gb
  ne := h.ne
  neR := h.neR
  lt := fun k hk' => Nat.lt_of_lt_of_le (h.lt k hk') hk.size
theorem StoreAt.below (h : StoreAt w s S segs R now G) (hb : Below w.heap.size w w') : StoreAt w' s S segs R now G :=
  h.keep (Keep.of_below hb (fun _ => False)) (fun _ _ => id)
theorem StoreAt.drew (h : StoreAt w s S segs R now G) : StoreAt w.drew s S segs R now G := h.below (World.drew_below0 w)
end

/-- Five new maps. -/
def w5maps (w : World) : World := ((((w.alloc (.map #[] 0)).alloc (.map #[] 0)).alloc (.map #[] 0)).alloc (.map #[] 0)).alloc (.map #[] 0)
theorem maps5 (w : World) : IMap (w5maps w) w.heap.size [] ∧ IMap (w5maps w) (w.heap.size + 1) [] ∧ IMap (w5maps w) (w.heap.size + 2) [] ∧ IMap (w5maps w) (w.heap.size + 3) [] ∧ IMap (w5maps w) (w.heap.size + 4) [] ∧ Keep (fun _ => False) w (w5maps w) ∧ (w5maps w).heap.size = w.heap.size + 5 := by
  unfold w5maps
  have a0 := IMap.new w
  have a1 := IMap.new (w.alloc (.map #[] 0))
  have a2 := IMap.new ((w.alloc (.map #[] 0)).alloc (.map #[] 0))
  have a3 := IMap.new (((w.alloc (.map #[] 0)).alloc (.map #[] 0)).alloc (.map #[] 0))
  have a4 := IMap.new ((((w.alloc (.map #[] 0)).alloc (.map #[] 0)).alloc (.map #[] 0)).alloc (.map #[] 0))
  simp only [World.size_alloc, Nat.add_assoc] at a1 a2 a3 a4
  refine ⟨(((a0.alloc _).alloc _).alloc _).alloc _, ((a1.alloc _).alloc _).alloc _, (a2.alloc _).alloc _, a3.alloc _, a4, (((((Keep.refl _ w).alloc _).alloc _).alloc _).alloc _).alloc _, by simp⟩

theorem built90 (a b c d e : Nat) : Tryz.prog.built 90 [(0, .map (some a)), (1, .map (some b)), (2, .map (some c)), (3, .map (some d)), (4, .map (some e))] = some #[.map (some a), .map (some b), .map (some c), .map (some d), .map (some e)] := by kernel_rfl
theorem size90 (a b c d e : Nat) : (Tryz.prog.info? 90).map (·.size) = some (#[Value.map (some a), .map (some b), .map (some c), .map (some d), .map (some e)] : Array Value).size := by kernel_rfl
theorem one90 (a b c d e : Nat) : (#[Value.map (some a), .map (some b), .map (some c), .map (some d), .map (some e)] : Array Value).all (·.oneCell') = true := by simp [Value.oneCell']

/-- A struct literal, by a closed fact. -/
theorem wpList_buildL {P : Program} {o : Oper} {ops : Array Oper} {Q : Exit → Act → World → Prop} {rest : List Oper} {a : Act} {w : World} (hg : o.guard = none) (t : TypeId) (parts : List (Nat × Operand)) (ho : o.op = .build t parts.toArray) (cells : Array Value)
    (ps : List (Nat × Value)) (hf : P.built t ps = some cells) (hp : parts.map (fun p => (p.1, a.eval p.2)) = ps) (h : wpList P ops Q rest (a.put o.dst (.agg cells)) w) : wpList P ops Q (o :: rest) a w := by
  refine wpList_buildTo hg t _ ho _ rfl cells ?_ h
  rw [← hf, ← hp]; simp

set_option maxRecDepth 100000 in
set_option maxHeartbeats 1000000 in
/-- What was done since is forgotten: five new maps. -/
theorem abort_ok (s : Nat) (cs : Array Value) (w : World) (hA : At w s cs 92) (hc : cs.size = 19) : Calls Tryz.prog 59 #[.pointer (some ⟨s, 0, none⟩)] w fun e w' => e = .returned (.tuple #[]) ∧
    At w' s (cs.toList.take 14 ++ [Value.map (some w.heap.size), .map (some (w.heap.size + 1)), .map (some (w.heap.size + 2)), .map (some (w.heap.size + 3)), .map (some (w.heap.size + 4))]).toArray 92 ∧
    IMap w' w.heap.size [] ∧ IMap w' (w.heap.size + 1) [] ∧ IMap w' (w.heap.size + 2) [] ∧ IMap w' (w.heap.size + 3) [] ∧ IMap w' (w.heap.size + 4) [] ∧ Keep (· = s) w w' ∧ w'.heap.size = w.heap.size + 5 := by
  have hmm := @run_makeMap Tryz.prog
  obtain ⟨i0, i1, i2, i3, i4, hk, hz⟩ := maps5 w
  have HA := Lib.hid (hk.at hA id)
  have Hc := Lib.hid hc
  have hlt := hA.lt
  clear hc hA
  have hfit : 14 + (#[Value.map (some w.heap.size), .map (some (w.heap.size + 1)), .map (some (w.heap.size + 2)), .map (some (w.heap.size + 3)), .map (some (w.heap.size + 4))] : Array Value).size ≤ cs.size := by rw [Hc.out]; simp
  have Hfit := Lib.hid hfit
  clear hfit
  have I0 := Lib.hid i0
  have I1 := Lib.hid i1
  have I2 := Lib.hid i2
  have I3 := Lib.hid i3
  have I4 := Lib.hid i4
  have Hz := Lib.hid hz
  clear i0 i1 i2 i3 i4 hz
  go_enter Tryz.func59, Tryz.ntmps59
  go_wp2_with (first
    | (refine wpList_buildL rfl 90 _ rfl _ _ (built90 w.heap.size (w.heap.size + 1) (w.heap.size + 2) (w.heap.size + 3) (w.heap.size + 4)) rfl ?_)
    | (refine wpList_storeAt rfl 90 _ _ rfl rfl s 14 _ cs 92 rfl rfl (show At (w5maps w) s cs _ from HA.out) Hfit.out (size90 _ _ _ _ _) (one90 _ _ _ _ _) ?_; intro w2 hA2 hk2 hs2))
  go_end0
  refine ⟨rfl, ?_, I0.out.keep hk2 (by omega), I1.out.keep hk2 (by omega), I2.out.keep hk2 (by omega), I3.out.keep hk2 (by omega), I4.out.keep hk2 (by omega), (hk.mono (fun _ _ h => h.elim)).trans hk2 (fun _ _ h => h), hs2.trans Hz.out⟩
  have e : (cs.toList.drop (14 + (#[Value.map (some w.heap.size), .map (some (w.heap.size + 1)), .map (some (w.heap.size + 2)), .map (some (w.heap.size + 3)), .map (some (w.heap.size + 4))] : Array Value).size)) = [] := by
    apply List.drop_eq_nil_of_le; rw [Array.length_toList, Hc.out]; simp
  rw [e, List.append_nil] at hA2
  exact hA2
end Go.Proofs.YtnndkfhpifgaiaaGreat
