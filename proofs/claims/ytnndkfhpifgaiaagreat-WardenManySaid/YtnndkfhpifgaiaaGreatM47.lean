/-
  The warden in memory; save's closure.
  warden.save.
  warden.Format.
-/
import Derived.Test.YtnndkfhpifgaiaaGreatM41
import Derived.Test.YtnndkfhpifgaiaaGreatM46
set_option linter.unusedVariables false
set_option linter.unusedSimpArgs false
namespace Go.Proofs.YtnndkfhpifgaiaaGreat
open Go.RowKit

structure WarV where
  (d : Nat) (sct num : Int) (lb : Nat) (hs : List Value)
def WarV.pre (W : WarV) : List Value := [.pointer (some ⟨W.d, 0, none⟩), .int .i64 W.sct, .int .i64 32, .int .i64 W.num, .slice (some ⟨W.lb, 0, none⟩) 16 16]
def WarV.cells (W : WarV) : Array Value := (W.pre ++ W.hs).toArray

theorem wblank_ok (w : World) : Calls Tryz.prog 32 #[] w (Str 256 w) := by
  go_enter Tryz.func32, Tryz.ntmps32
  go_wp2_with (first
    | (go_at_call 57; refine (repeat_any _ 256 _ rfl (by decide)).mono ?_; rintro e w1 ⟨s, hs, rfl, hb⟩))
  go_ret
  exact ⟨s, hs, rfl, hb⟩

theorem and_one (x : Int) : bits .and .i64 x 1 = 0 ∨ bits .and .i64 x 1 = 1 := by
  have h1 : (BitVec.ofInt IntKind.i64.bits x &&& BitVec.ofInt IntKind.i64.bits 1).toNat = (BitVec.ofInt IntKind.i64.bits x).toNat % 2 := by
    rw [BitVec.toNat_and]
    have : (BitVec.ofInt IntKind.i64.bits 1).toNat = 1 := by decide
    rw [this, Nat.and_one_is_mod]
  show IntKind.i64.wrap ((BitVec.ofInt IntKind.i64.bits x &&& BitVec.ofInt IntKind.i64.bits 1).toNat : Int) = 0 ∨ IntKind.i64.wrap ((BitVec.ofInt IntKind.i64.bits x &&& BitVec.ofInt IntKind.i64.bits 1).toNat : Int) = 1
  rw [h1]
  rcases Nat.mod_two_eq_zero_or_one (BitVec.ofInt IntKind.i64.bits x).toNat with e | e <;> rw [e]
  · left; decide
  · right; decide

set_option maxRecDepth 100000 in
set_option maxHeartbeats 1000000 in
theorem sput_ok (wp bw bs d dn Bd : Nat) (F : Nat → Prop) (num i : Int) (s : ByteArray) (w : World) (hd : DiskAt w d dn Bd F) (hbw : w.cell? ⟨bw, 0, none⟩ = some (.pointer (some ⟨wp, 0, none⟩))) (hbs : w.cell? ⟨bs, 0, none⟩ = some (.string s)) (c0 : w.cell? ⟨wp, 0, none⟩ = some (.pointer (some ⟨d, 0, none⟩))) (c3 : w.cell? ⟨wp, 3, none⟩ = some (.int .i64 num))
    (hs : s.size = 2048) (hi : 0 ≤ i ∧ i < 8) (hdn : 48 ≤ dn) (hB : Bd < 1000000000) (hF : ¬ F wp ∧ ¬ F bw ∧ ¬ F bs) :
    Calls Tryz.prog 44 #[.int .i64 i, .pointer (some ⟨bw, 0, none⟩), .pointer (some ⟨bs, 0, none⟩)] w fun e w' => e = .returned (.bool true) ∧ Step d dn F w (Bd + 1) w' := by
  have Hd := Lib.hid hd
  obtain ⟨r, hr⟩ : ∃ r, bits .and .i64 num 1 = r := ⟨_, rfl⟩
  have hr1 : r = 0 ∨ r = 1 := hr ▸ and_one num
  have hw1 : IntKind.i64.wrap (i + 1) = i + 1 := by rw [IntKind.wrap_i64]; omega
  have hw2 : IntKind.i64.wrap ((i + 1) * 256) = (i + 1) * 256 := by rw [IntKind.wrap_i64]; omega
  have hw3 : IntKind.i64.wrap (i * 256) = i * 256 := by rw [IntKind.wrap_i64]; omega
  have hw4 : IntKind.i64.wrap (r * 8) = r * 8 := by rw [IntKind.wrap_i64]; omega
  have hw5 : IntKind.i64.wrap (r * 8 + i) = r * 8 + i := by rw [IntKind.wrap_i64]; omega
  have i0 : 0 ≤ (i + 1) * 256 := by omega
  have i1 : (i + 1) * 256 ≤ 2048 := by omega
  have i2 : 0 ≤ i * 256 := by omega
  have i3 : i * 256 ≤ (i + 1) * 256 := by omega
  have i4 : i ≤ i + 1 := by omega
  have Hr := Lib.hid hr1
  have hex : (s.extract (i * 256).toNat ((i + 1) * 256).toNat).size = 256 := by rw [ByteArray.size_extract, hs]; omega
  have Hex := Lib.hid hex
  clear hd hr1 hex
  go_enter Tryz.func44, Tryz.ntmps44
  go_wp2
  (try simp only [Act.put, List.setIfInBounds_toArray, List.set_cons_zero, List.set_cons_succ])
  refine wp_region_noPanic ?_
  refine T_region 20 (fun w' => w'.cell? ⟨bw, 0, none⟩ = some (.pointer (some ⟨wp, 0, none⟩)) ∧ w'.cell? ⟨bs, 0, none⟩ = some (.string s) ∧ w'.cell? ⟨wp, 0, none⟩ = some (.pointer (some ⟨d, 0, none⟩)) ∧ w'.cell? ⟨wp, 3, none⟩ = some (.int .i64 num)) (by kernel_rfl) (by kernel_rfl) (by kernel_rfl) (by decide) (by kernel_rfl) ⟨hbw, hbs, c0, c3⟩ (fun hHeld hU => ?_)
  refine T_take (i := 0) hU 5 ?_ rfl rfl (by decide) (by kernel_rfl) (by kernel_rfl) (fun _ _ _ h => h) (Or.inl ⟨by rfl, ?_⟩) hHeld ?_; rotate_left; (intro w hSw; (try dsimp only at hSw); go_simp); (try with_reducible rfl); clear hU; intro hU; (try simp only [Act.put, List.setIfInBounds_toArray, List.set_cons_zero, List.set_cons_succ])
  refine T_take (i := 1) hU 6 ?_ rfl rfl (by decide) (by kernel_rfl) (by kernel_rfl) (fun _ _ _ h => h) (Or.inl ⟨by rfl, ?_⟩) hHeld ?_; rotate_left; (intro w hSw; (try dsimp only at hSw); go_simp); (try with_reducible rfl); clear hU; intro hU; (try simp only [Act.put, List.setIfInBounds_toArray, List.set_cons_zero, List.set_cons_succ])
  refine T_take (i := 2) hU 7 ?_ rfl rfl (by decide) (by kernel_rfl) (by kernel_rfl) (fun _ _ _ h => h) (Or.inl ⟨by rfl, ?_⟩) hHeld ?_; rotate_left; (intro w hSw; (try dsimp only at hSw); go_simp); (try with_reducible rfl); clear hU; intro hU; (try simp only [Act.put, List.setIfInBounds_toArray, List.set_cons_zero, List.set_cons_succ])
  refine T_take (i := 3) hU 8 ?_ rfl rfl (by decide) (by kernel_rfl) (by kernel_rfl) (fun _ _ _ h => h) (Or.inl ⟨by rfl, ?_⟩) hHeld ?_; rotate_left; (intro w hSw; (try dsimp only at hSw); go_simp); (try with_reducible rfl); clear hU; intro hU; (try simp only [Act.put, List.setIfInBounds_toArray, List.set_cons_zero, List.set_cons_succ])
  refine T_take (i := 4) hU 9 ?_ rfl rfl (by decide) (by kernel_rfl) (by kernel_rfl) (fun _ _ _ h => h) (Or.inl ⟨by rfl, ?_⟩) hHeld ?_; rotate_left; (intro w hSw; (try dsimp only at hSw); go_simp); (try with_reducible rfl); clear hU; intro hU; (try simp only [Act.put, List.setIfInBounds_toArray, List.set_cons_zero, List.set_cons_succ])
  refine T_take (i := 5) hU 10 ?_ rfl rfl (by decide) (by kernel_rfl) (by kernel_rfl) (fun _ _ _ h => h) (Or.inl ⟨by rfl, ?_⟩) hHeld ?_; rotate_left; (intro w hSw; (try dsimp only at hSw); go_simp); (try with_reducible rfl); clear hU; intro hU; (try simp only [Act.put, List.setIfInBounds_toArray, List.set_cons_zero, List.set_cons_succ])
  refine T_take (i := 6) hU 11 ?_ rfl rfl (by decide) (by kernel_rfl) (by kernel_rfl) (fun _ _ _ h => h) (Or.inl ⟨by rfl, ?_⟩) hHeld ?_; rotate_left; (intro w hSw; (try dsimp only at hSw); go_simp); (try with_reducible rfl); clear hU; intro hU; (try simp only [Act.put, List.setIfInBounds_toArray, List.set_cons_zero, List.set_cons_succ])
  refine T_take (i := 7) hU 12 ?_ rfl rfl (by decide) (by kernel_rfl) (by kernel_rfl) (fun _ _ _ h => h) (Or.inl ⟨by rfl, ?_⟩) hHeld ?_; rotate_left; (intro w hSw; (try dsimp only at hSw); go_simp); (try with_reducible rfl); clear hU; intro hU; (try simp only [Act.put, List.setIfInBounds_toArray, List.set_cons_zero, List.set_cons_succ])
  refine T_take (i := 8) hU 13 ?_ rfl rfl (by decide) (by kernel_rfl) (by kernel_rfl) (fun _ _ _ h => h) (Or.inl ⟨by rfl, ?_⟩) hHeld ?_; rotate_left; (intro w hSw; (try dsimp only at hSw); go_simp); (try with_reducible rfl); clear hU; intro hU; (try simp only [Act.put, List.setIfInBounds_toArray, List.set_cons_zero, List.set_cons_succ])
  refine T_take (i := 9) hU 14 ?_ rfl rfl (by decide) (by kernel_rfl) (by kernel_rfl) (fun _ _ _ h => h) (Or.inl ⟨by rfl, ?_⟩) hHeld ?_; rotate_left; (intro w hSw; (try dsimp only at hSw); go_simp); (try with_reducible rfl); clear hU; intro hU; (try simp only [Act.put, List.setIfInBounds_toArray, List.set_cons_zero, List.set_cons_succ])
  refine T_take (i := 10) hU 15 ?_ rfl rfl (by decide) (by kernel_rfl) (by kernel_rfl) (fun _ _ _ h => h) (Or.inl ⟨by rfl, ?_⟩) hHeld ?_; rotate_left; (intro w hSw; (try dsimp only at hSw); go_simp); (try with_reducible rfl); clear hU; intro hU; (try simp only [Act.put, List.setIfInBounds_toArray, List.set_cons_zero, List.set_cons_succ])
  refine T_take (i := 11) hU 16 ?_ rfl rfl (by decide) (by kernel_rfl) (by kernel_rfl) (fun _ _ _ h => h) (Or.inl ⟨by rfl, ?_⟩) hHeld ?_; rotate_left; (intro w hSw; (try dsimp only at hSw); go_simp); (try with_reducible rfl); clear hU; intro hU; (try simp only [Act.put, List.setIfInBounds_toArray, List.set_cons_zero, List.set_cons_succ])
  refine T_take (i := 12) hU 17 ?_ rfl rfl (by decide) (by kernel_rfl) (by kernel_rfl) (fun _ _ _ h => h) (Or.inl ⟨by rfl, ?_⟩) hHeld ?_; rotate_left; (intro w hSw; (try dsimp only at hSw); go_simp); (try with_reducible rfl); clear hU; intro hU; (try simp only [Act.put, List.setIfInBounds_toArray, List.set_cons_zero, List.set_cons_succ])
  refine T_take (i := 13) hU 18 ?_ rfl rfl (by decide) (by kernel_rfl) (by kernel_rfl) (fun _ _ _ h => h) (Or.inl ⟨by rfl, ?_⟩) hHeld ?_; rotate_left; (intro w hSw; (try dsimp only at hSw); go_simp); (try with_reducible rfl); clear hU; intro hU; (try simp only [Act.put, List.setIfInBounds_toArray, List.set_cons_zero, List.set_cons_succ])
  refine T_take (i := 14) hU 19 ?_ rfl rfl (by decide) (by kernel_rfl) (by kernel_rfl) (fun _ _ _ h => h) (Or.inl ⟨by rfl, ?_⟩) hHeld ?_; rotate_left; (intro w hSw; (try dsimp only at hSw); go_simp); (try with_reducible rfl); clear hU; intro hU; (try simp only [Act.put, List.setIfInBounds_toArray, List.set_cons_zero, List.set_cons_succ])
  refine T_take (i := 15) hU 20 ?_ rfl rfl (by decide) (by kernel_rfl) (by kernel_rfl) (fun _ _ _ h => h) (Or.inl ⟨by rfl, ?_⟩) hHeld ?_; rotate_left; (intro w hSw; (try dsimp only at hSw); go_simp); (try with_reducible rfl); clear hU; intro hU; (try simp only [Act.put, List.setIfInBounds_toArray, List.set_cons_zero, List.set_cons_succ])
  refine T_take (i := 16) hU 21 ?_ rfl rfl (by decide) (by kernel_rfl) (by kernel_rfl) (fun _ _ _ h => h) (Or.inl ⟨by rfl, ?_⟩) hHeld ?_; rotate_left; (intro w hSw; (try dsimp only at hSw); go_simp); (try with_reducible rfl); clear hU; intro hU; (try simp only [Act.put, List.setIfInBounds_toArray, List.set_cons_zero, List.set_cons_succ])
  refine T_take (i := 17) hU 22 ?_ rfl rfl (by decide) (by kernel_rfl) (by kernel_rfl) (fun _ _ _ h => h) (Or.inl ⟨by rfl, ?_⟩) hHeld ?_; rotate_left; (intro w hSw; (try dsimp only at hSw); go_simp); (try with_reducible rfl); clear hU; intro hU; (try simp only [Act.put, List.setIfInBounds_toArray, List.set_cons_zero, List.set_cons_succ])
  refine T_take (i := 18) hU 23 ?_ rfl rfl (by decide) (by kernel_rfl) (by kernel_rfl) (fun _ _ _ h => h) (Or.inl ⟨by rfl, ?_⟩) hHeld ?_; rotate_left; (intro w hSw; (try dsimp only at hSw); go_simp); (try with_reducible rfl); clear hU; intro hU; (try simp only [Act.put, List.setIfInBounds_toArray, List.set_cons_zero, List.set_cons_succ])
  have hHeld19 := hHeld
  refine T_step (i := 19) hU rfl (by decide) (by kernel_rfl) (fun K hK => ?_); clear hU hHeld
  go_simp
  go_at_call 31
  refine (write_step d dn Bd F 0 (r * 8 + i) _ w.drew Hd.out.drew (by decide) (by decide) (by have := Hr.out; omega) (by have := Hr.out; omega) Hex.out hB).mono ?_
  rintro e w1 ⟨rfl, hst⟩
  have hk := hst.keep
  refine hK.out _ _ (⟨hk.keepCell hF.2.1 hHeld19.1, hk.keepCell hF.2.2 hHeld19.2.1, hk.keepCell hF.1 hHeld19.2.2.1, hk.keepCell hF.1 hHeld19.2.2.2⟩) (fun hHeld hU => ?_); clear hK K; (try simp only [Act.put, List.setIfInBounds_toArray, List.set_cons_zero, List.set_cons_succ])
  refine T_last (N := 20) rfl (by kernel_rfl) (by kernel_rfl) (fun K hK => ?_); clear hU hHeld
  go_simp
  refine hK.out _ _ (NoPanic.normal ?_); clear hK K
  go_wp2
  go_ret
  exact ⟨rfl, hst.ofDrew⟩

/-- The same behind some steps of the disk. -/
theorem sput_on (wp bw bs d dn B : Nat) (F : Nat → Prop) (num i : Int) (s : ByteArray) (w4 w : World) (hst : Step d dn F w4 B w) (hbw : w4.cell? ⟨bw, 0, none⟩ = some (.pointer (some ⟨wp, 0, none⟩))) (hbs : w4.cell? ⟨bs, 0, none⟩ = some (.string s)) (c0 : w4.cell? ⟨wp, 0, none⟩ = some (.pointer (some ⟨d, 0, none⟩))) (c3 : w4.cell? ⟨wp, 3, none⟩ = some (.int .i64 num))
    (hs : s.size = 2048) (hi : 0 ≤ i ∧ i < 8) (hdn : 48 ≤ dn) (hB : B < 1000000000) (hF : ¬ F wp ∧ ¬ F bw ∧ ¬ F bs) :
    Calls Tryz.prog 44 #[.int .i64 i, .pointer (some ⟨bw, 0, none⟩), .pointer (some ⟨bs, 0, none⟩)] w fun e w' => e = .returned (.bool true) ∧ Step d dn F w4 (B + 1) w' := by
  obtain ⟨F1, hd1, hF1, hk1⟩ := hst
  have nF : ∀ b o v, w4.cell? ⟨b, o, none⟩ = some v → ¬ F b → ¬ F1 b := fun b o v hc hn e => by
    rcases hF1 b e with e | e
    · exact hn e
    · have := cell_lt hc; omega
  refine (sput_ok wp bw bs d dn B F1 num i s w hd1 (hk1.keepCell hF.2.1 hbw) (hk1.keepCell hF.2.2 hbs) (hk1.keepCell hF.1 c0) (hk1.keepCell hF.1 c3) hs hi hdn hB ⟨nF _ _ _ c0 hF.1, nF _ _ _ hbw hF.2.1, nF _ _ _ hbs hF.2.2⟩).mono ?_
  rintro e w' ⟨rfl, hst'⟩
  exact ⟨rfl, Step.comp hF1 hk1 hst'⟩
theorem flush_on (d dn B : Nat) (F : Nat → Prop) (o : Int) (w4 w : World) (hst : Step d dn F w4 B w) (h0 : 0 ≤ o) (h0' : o ≤ 16) (hn : dn ≤ 16384) (hB : B ≤ 1000000000) :
    Calls Tryz.prog 33 #[.pointer (some ⟨d, 0, none⟩), .int .i64 o] w fun e w' => e = .returned (.bool true) ∧ Step d dn F w4 B w' := by
  obtain ⟨F1, hd1, hF1, hk1⟩ := hst
  refine (flush_step d dn B F1 o w hd1 h0 h0' hn hB).mono ?_
  rintro e w' ⟨rfl, hst'⟩
  exact ⟨rfl, Step.comp hF1 hk1 hst'⟩

/-- A warden of a table T. -/
structure WarAt (w : World) (wp : Nat) (W : WarV) (T : List HV) (n dn Bd : Nat) (F : Nat → Prop) : Prop where
  cells : At w wp W.cells 53
  hl : W.hs.length = 17
  tab : TableAt w W.lb T w.heap.size
  ok : TOk T n
  dk : DiskAt w W.d dn Bd F
  sct : W.sct = 48 + 32 * n
  dn : (dn : Int) = W.sct
  n0 : 8 ≤ n
  n1 : n ≤ 137
  num : 0 ≤ W.num ∧ W.num ≤ 100000
  Fw : ¬ F wp
  Fl : ¬ F W.lb
  seg : ∀ h ∈ T, ∀ b, h.sv.ownBlock = some b → ¬ F b ∧ b ≠ wp ∧ b ≠ W.lb ∧ b < w.heap.size

theorem WarAt.go {w w' : World} {wp : Nat} {W W' : WarV} {T : List HV} {n dn Bd B' : Nat} {F F' K : Nat → Prop} (h : WarAt w wp W T n dn Bd F) (hd : W'.d = W.d) (hs : W'.sct = W.sct) (hb : W'.lb = W.lb) (hl : W'.hs.length = 17) (hnum : 0 ≤ W'.num ∧ W'.num ≤ 100000)
    (hk : Keep K w w') (hc : At w' wp W'.cells 53) (hdk : DiskAt w' W.d dn B' F') (hKl : ¬ K W.lb) (hKs : ∀ x ∈ T, ∀ b, x.sv.ownBlock = some b → ¬ K b) (hF : ∀ k, F' k → F k ∨ w.heap.size ≤ k) : WarAt w' wp W' T n dn B' F' where
  cells := hc
  hl := hl
  tab := ⟨by rw [hb]; exact hk.at h.tab.cells hKl, fun x hx => ((h.tab.ints x hx).keepV hk (hKs x hx)).mono hk.size, h.tab.one⟩
  ok := h.ok
  dk := by rw [hd]; exact hdk
  sct := hs.trans h.sct
  dn := by rw [hs]; exact h.dn
  n0 := h.n0
  n1 := h.n1
  num := hnum
  Fw := fun e => (hF _ e).elim h.Fw (fun e => by have := h.cells.lt; omega)
  Fl := fun e => by
    rw [hb] at e
    exact (hF _ e).elim h.Fl (fun e => by have := h.tab.cells.lt; omega)
  seg := fun x hx b hxb => by
    obtain ⟨a1, a2, a3, a4⟩ := h.seg x hx b hxb
    exact ⟨fun e => (hF _ e).elim a1 (fun e => by omega), a2, by rw [hb]; exact a3, Nat.lt_of_lt_of_le a4 hk.size⟩
theorem WarAt.below {w w' : World} {wp : Nat} {W : WarV} {T : List HV} {n dn Bd : Nat} {F : Nat → Prop} (h : WarAt w wp W T n dn Bd F) (hb : Below w.heap.size w w') : WarAt w' wp W T n dn Bd F :=
  h.go rfl rfl rfl h.hl h.num (Keep.of_below hb (fun _ => False)) (Below.at hb h.cells h.cells.lt) (h.dk.below hb) id (fun _ _ _ _ => id) (fun _ e => .inl e)
theorem WarAt.lbne {w : World} {wp : Nat} {W : WarV} {T : List HV} {n dn Bd : Nat} {F : Nat → Prop} (h : WarAt w wp W T n dn Bd F) : W.lb ≠ wp := fun e => by
  have := h.cells.uniq (e ▸ h.tab.cells)
  exact absurd this.2 (by decide)
theorem WarAt.c0 {w : World} {wp : Nat} {W : WarV} {T : List HV} {n dn Bd : Nat} {F : Nat → Prop} (h : WarAt w wp W T n dn Bd F) : w.cell? ⟨wp, 0, none⟩ = some (.pointer (some ⟨W.d, 0, none⟩)) := (h.cells.cell 0).trans (by simp [WarV.cells, WarV.pre])
theorem WarAt.c3 {w : World} {wp : Nat} {W : WarV} {T : List HV} {n dn Bd : Nat} {F : Nat → Prop} (h : WarAt w wp W T n dn Bd F) : w.cell? ⟨wp, 3, none⟩ = some (.int .i64 W.num) := (h.cells.cell 3).trans (by simp [WarV.cells, WarV.pre])
theorem WarAt.c4 {w : World} {wp : Nat} {W : WarV} {T : List HV} {n dn Bd : Nat} {F : Nat → Prop} (h : WarAt w wp W T n dn Bd F) : w.cell? ⟨wp, 4, none⟩ = some (.slice (some ⟨W.lb, 0, none⟩) 16 16) := (h.cells.cell 4).trans (by simp [WarV.cells, WarV.pre])
theorem WarV.cells_num (W : WarV) (x : Int) : W.cells.setIfInBounds 3 (.int .i64 x) = ({ W with num := x } : WarV).cells := by simp [WarV.cells, WarV.pre]
theorem WarV.cells_hs (W : WarV) (k : Nat) (v : Value) : W.cells.setIfInBounds (5 + k) v = ({ W with hs := W.hs.set k v } : WarV).cells := by
  simp [WarV.cells, WarV.pre, Nat.add_comm 5 k]
theorem WarV.size (W : WarV) (h : W.hs.length = 17) : W.cells.size = 22 := by simp [WarV.cells, WarV.pre, h]

/-- A new variable of one cell in a region that draws its order. -/
theorem step_allocOneN {P : Program} {o : Oper} {ops : Array Oper} {a : Act} {w : World} {Q : Exit → Act → World → Prop} (hgd : o.guard = none) (t : TypeId) (ho : o.op = .alloc t) (d : Tmp) (hd : o.dst = some d) (z : Value) (hz : (P.info? t).bind (·.zero) = some z) (hc : z.cells = #[z]) {K : Act → World → Prop}
    (h : ∀ w' n, w.heap.size ≤ n → n < w'.heap.size → At w' n #[z] t → Keep (fun _ => False) w w' → K ⟨a.tmps.setIfInBounds d (.pointer (some ⟨n, 0, none⟩)), a.defers⟩ w') :
    if Region.wanted o (yielded ops a.tmps) = true then Oper.wp P o a w K Q else K (a.put o.dst undef) w := by
  rw [if_pos (by simp [Region.wanted, hgd])]
  have hrun : (Instr.alloc t true (.tuple #[])).run P w = .ok (.pointer (some ⟨w.heap.size, 0, none⟩)) (w.alloc (.cells #[z] t)) := by
    cases hi : P.info? t with
    | none => simp [hi] at hz
    | some i =>
      have hz' : i.zero = some z := by simpa [hi] using hz
      simp [Instr.alloc, zeroValue, typeInfo, hi, hz', newVar, newRow, hc]
  unfold Oper.wp execOp
  simp only [ho, Sem.run_bind, hrun, Result.andThen_ok]
  have := h (w.alloc (.cells #[z] t)) w.heap.size (Nat.le_refl _) (by simp) (At.new _ _ _) ((Keep.refl _ w).alloc _)
  show K (a.put o.dst _) _
  rw [hd]; exact this
end Go.Proofs.YtnndkfhpifgaiaaGreat
namespace Go.Proofs.YtnndkfhpifgaiaaGreat
open Go.RowKit

theorem zero9' : (Tryz.prog.info? 9).bind (·.zero) = some (.string ⟨#[]⟩) := by kernel_rfl

/-- What save leaves: the table's number is one more. -/
def WSaveEnd (w : World) (wp : Nat) (W : WarV) (T : List HV) (n dn Bd : Nat) (F : Nat → Prop) (e : Ending) (w' : World) : Prop := e = .returned (.bool true) ∧ ∃ F', WarAt w' wp { W with num := W.num + 1 } T n dn (Bd + 8) F' ∧ (∀ k, F' k → F k ∨ w.heap.size ≤ k) ∧ Keep (fun k => F k ∨ k = wp) w w'

set_option maxRecDepth 100000 in
set_option maxHeartbeats 4000000 in
theorem wsave_ok (wp : Nat) (W : WarV) (T : List HV) (n dn Bd : Nat) (F : Nat → Prop) (w : World) (h : WarAt w wp W T n dn Bd F) (hB : Bd + 100 < 1000000000) (hN : W.num < 100000) :
    Calls Tryz.prog 20 #[.pointer (some ⟨wp, 0, none⟩)] w (WSaveEnd w wp W T n dn Bd F) := by
  have hmf : ∀ (fn : Fn) (first cap : Array Value) (w : World), (Instr.makeFunc fn first cap).run Tryz.prog w = .ok (.func fn first cap) w := fun _ _ _ _ => rfl
  have H := Lib.hid h
  have hnum := h.num
  have Hbd := Lib.hid hB
  clear h hB
  go_enter Tryz.func20, Tryz.ntmps20
  go_wp2_with (first
    | (refine wpList_boxAt rfl 26 _ rfl #[.pointer (some ⟨wp, 0, none⟩)] rfl ?_; intro w1 hA hk hs; have HA1 := Lib.hid hA; have HB1 := Lib.hid hk.below; clear hA hk hs))
  have hH1 := H.out.below HB1.out
  have b0 : w1.cell? ⟨w.heap.size, 0, none⟩ = some (.pointer (some ⟨wp, 0, none⟩)) := HA1.out.cell 0
  have c3 := hH1.c3
  have c4 := hH1.c4
  have hw1 : IntKind.i64.wrap (W.num + 1) = W.num + 1 := by rw [IntKind.wrap_i64]; omega
  have H1 := Lib.hid hH1
  clear hH1
  go_cut [3, 4] (fun u3 u4 w' => ∃ bs s, u3 = .pointer (some ⟨bs, 0, none⟩) ∧ u4 = .bool true ∧ s.size = 2048 ∧ At w' bs #[.string s] 9 ∧ w1.heap.size ≤ bs ∧ Below w1.heap.size w1 w')
  case first =>
    have BB : Below w1.heap.size w1 w1.drew := World.drew_below0 w1
    (try simp only [Act.put, List.setIfInBounds_toArray, List.set_cons_zero, List.set_cons_succ])
    refine wp_region_noPanic ?_
    refine T_region 15 (fun w' => w'.cell? ⟨w.heap.size, 0, none⟩ = some (.pointer (some ⟨wp, 0, none⟩)) ∧ w'.cell? ⟨wp, 3, none⟩ = some (.int .i64 W.num) ∧ w'.cell? ⟨wp, 4, none⟩ = some (.slice (some ⟨W.lb, 0, none⟩) 16 16)) (by kernel_rfl) (by kernel_rfl) (by kernel_rfl) (by decide) (by kernel_rfl) ⟨b0, c3, c4⟩ (fun hHeld hU => ?_)
    refine T_take (i := 0) hU 8 ?_ rfl rfl (by decide) (by kernel_rfl) (by kernel_rfl) (fun _ _ _ h => h) (Or.inl ⟨by rfl, ?_⟩) hHeld ?_; rotate_left; (intro w hSw; (try dsimp only at hSw); go_simp); (try with_reducible rfl); clear hU; intro hU; (try simp only [Act.put, List.setIfInBounds_toArray, List.set_cons_zero, List.set_cons_succ])
    refine T_take (i := 1) hU 9 ?_ rfl rfl (by decide) (by kernel_rfl) (by kernel_rfl) (fun _ _ _ h => h) (Or.inl ⟨by rfl, ?_⟩) hHeld ?_; rotate_left; (intro w hSw; (try dsimp only at hSw); go_simp); (try with_reducible rfl); clear hU; intro hU; (try simp only [Act.put, List.setIfInBounds_toArray, List.set_cons_zero, List.set_cons_succ])
    refine T_take (i := 2) hU 10 ?_ rfl rfl (by decide) (by kernel_rfl) (by kernel_rfl) (fun _ _ _ h => h) (Or.inl ⟨by rfl, ?_⟩) hHeld ?_; rotate_left; (intro w hSw; (try dsimp only at hSw); go_simp); (try with_reducible rfl); clear hU; intro hU; (try simp only [Act.put, List.setIfInBounds_toArray, List.set_cons_zero, List.set_cons_succ])
    refine T_take (i := 3) hU 11 ?_ rfl rfl (by decide) (by kernel_rfl) (by kernel_rfl) (fun _ _ _ h => h) (Or.inl ⟨by rfl, ?_⟩) hHeld ?_; rotate_left; (intro w hSw; (try dsimp only at hSw); go_simp); (try with_reducible rfl); clear hU; intro hU; (try simp only [Act.put, List.setIfInBounds_toArray, List.set_cons_zero, List.set_cons_succ])
    refine T_take (i := 4) hU 12 ?_ rfl rfl (by decide) (by kernel_rfl) (by kernel_rfl) (fun _ _ _ h => h) (Or.inl ⟨by rfl, ?_⟩) hHeld ?_; rotate_left; (intro w hSw; (try dsimp only at hSw); go_simp); (try with_reducible rfl); clear hU; intro hU; (try simp only [Act.put, List.setIfInBounds_toArray, List.set_cons_zero, List.set_cons_succ])
    refine T_take (i := 5) hU 13 ?_ rfl rfl (by decide) (by kernel_rfl) (by kernel_rfl) (fun _ _ _ h => h) (Or.inl ⟨by rfl, ?_⟩) hHeld ?_; rotate_left; (intro w hSw; (try dsimp only at hSw); go_simp); (try with_reducible rfl); clear hU; intro hU; (try simp only [Act.put, List.setIfInBounds_toArray, List.set_cons_zero, List.set_cons_succ])
    refine T_take (i := 6) hU 14 ?_ rfl rfl (by decide) (by kernel_rfl) (by kernel_rfl) (fun _ _ _ h => h) (Or.inl ⟨by rfl, ?_⟩) hHeld ?_; rotate_left; (intro w hSw; (try dsimp only at hSw); go_simp); (try with_reducible rfl); clear hU; intro hU; (try simp only [Act.put, List.setIfInBounds_toArray, List.set_cons_zero, List.set_cons_succ])
    refine T_take (i := 7) hU 15 ?_ rfl rfl (by decide) (by kernel_rfl) (by kernel_rfl) (fun _ _ _ h => h) (Or.inl ⟨by rfl, ?_⟩) hHeld ?_; rotate_left; (intro w hSw; (try dsimp only at hSw); go_simp); (try with_reducible rfl); clear hU; intro hU; (try simp only [Act.put, List.setIfInBounds_toArray, List.set_cons_zero, List.set_cons_succ])
    refine T_take (i := 8) hU 16 ?_ rfl rfl (by decide) (by kernel_rfl) (by kernel_rfl) (fun _ _ _ h => h) (Or.inl ⟨by rfl, ?_⟩) hHeld ?_; rotate_left; (intro w hSw; (try dsimp only at hSw); go_simp); (try with_reducible rfl); clear hU; intro hU; (try simp only [Act.put, List.setIfInBounds_toArray, List.set_cons_zero, List.set_cons_succ])
    refine T_ways2 (i := 9) (j := 13) (by kernel_rfl) (T_way (i := 9) hU rfl (by decide) (by kernel_rfl) (fun K hK => ?_)) (T_way (i := 13) hU rfl (by decide) (by kernel_rfl) (fun K hK => ?_))
    · have hHeld9 := hHeld
      clear hU hHeld
      go_simp
      go_at_call 43
      refine (tput_ok (W.num + 1) W.lb n T w1.heap.size _ ((H1.out.tab).below (Nat.le_refl _) BB) BB.size H1.out.ok ⟨by omega, by omega⟩).mono ?_
      rintro e x ⟨s, hss, rfl, hbx⟩
      (try replace AZ := Below.at hbx AZ AZ.lt)
      replace BB := BB.trans (hbx.mono BB.size)
      refine hK.out _ _ (⟨Below.keepCell hbx hHeld9.1, Below.keepCell hbx hHeld9.2.1, Below.keepCell hbx hHeld9.2.2⟩) (fun hHeld hU => ?_); clear hK K; (try simp only [Act.put, List.setIfInBounds_toArray, List.set_cons_zero, List.set_cons_succ])
      refine T_take (i := 10) hU 7 ?_ rfl rfl (by decide) (by kernel_rfl) (by kernel_rfl) (fun _ _ _ h => h) (Or.inl ⟨by rfl, ?_⟩) hHeld ?_; rotate_left; (intro w hSw; (try dsimp only at hSw); go_simp); (try with_reducible rfl); clear hU; intro hU; (try simp only [Act.put, List.setIfInBounds_toArray, List.set_cons_zero, List.set_cons_succ])
      refine T_take (i := 11) hU 18 ?_ rfl rfl (by decide) (by kernel_rfl) (by kernel_rfl) (fun _ _ _ h => h) (Or.inl ⟨by rfl, ?_⟩) hHeld ?_; rotate_left; (intro w hSw; (try dsimp only at hSw); go_simp); (try with_reducible rfl); clear hU; intro hU; (try simp only [Act.put, List.setIfInBounds_toArray, List.set_cons_zero, List.set_cons_succ])
      refine T_take (i := 12) hU 19 ?_ rfl rfl (by decide) (by kernel_rfl) (by kernel_rfl) (fun _ _ _ h => h) (Or.inl ⟨by rfl, ?_⟩) hHeld ?_; rotate_left; (intro w hSw; (try dsimp only at hSw); go_simp); (try with_reducible rfl); clear hU; intro hU; (try simp only [Act.put, List.setIfInBounds_toArray, List.set_cons_zero, List.set_cons_succ])
      have hHeld13 := hHeld
      refine T_step (i := 13) hU rfl (by decide) (by kernel_rfl) (fun K hK => ?_); clear hU hHeld
      refine step_allocOneN rfl _ rfl 3 rfl _ zero9' rfl (fun x bs hb0 hb1 AZ hk => ?_)
      have hbB : w1.heap.size ≤ bs := Nat.le_trans BB.size hb0
      replace BB := BB.trans (hk.below.mono BB.size)
      refine hK.out _ _ (⟨hk.keepCell id hHeld13.1, hk.keepCell id hHeld13.2.1, hk.keepCell id hHeld13.2.2⟩) (fun hHeld hU => ?_); clear hK K; (try simp only [Act.put, List.setIfInBounds_toArray, List.set_cons_zero, List.set_cons_succ])
      have hHeld14 := hHeld
      refine T_step (i := 14) hU rfl (by decide) (by kernel_rfl) (fun K hK => ?_); clear hU hHeld
      refine step_storeCell rfl 9 _ _ rfl rfl bs 0 (.string s) _ 9 (by with_unfolding_all exact rfl) (by with_unfolding_all exact rfl) AZ (show 0 < 1 by omega) size9 rfl rfl (fun y AY hky hsy => ?_)
      have n1 : ¬ (w.heap.size = bs) := by have := HA1.out.lt; omega
      have n2 : ¬ (wp = bs) := by have := H1.out.cells.lt; omega
      refine hK.out _ _ (⟨hky.keepCell n1 hHeld14.1, hky.keepCell n2 hHeld14.2.1, hky.keepCell n2 hHeld14.2.2⟩) (fun hHeld hU => ?_); clear hK K; (try simp only [Act.put, List.setIfInBounds_toArray, List.set_cons_zero, List.set_cons_succ])
      refine T_last (N := 15) rfl (by kernel_rfl) (by kernel_rfl) (fun K hK => ?_); clear hU hHeld
      go_simp
      refine hK.out _ _ (NoPanic.normal ?_); clear hK K
      go_wp2_with fail
      go_meet
      exact ⟨bs, s, rfl, rfl, hss, AY, hbB, BB.trans (hky.belowOf BB.size (by omega))⟩
    · have hHeld13 := hHeld
      clear hU hHeld
      refine step_allocOneN rfl _ rfl 3 rfl _ zero9' rfl (fun x bs hb0 hb1 AZ hk => ?_)
      have hbB : w1.heap.size ≤ bs := Nat.le_trans BB.size hb0
      replace BB := BB.trans (hk.below.mono BB.size)
      refine hK.out _ _ (⟨hk.keepCell id hHeld13.1, hk.keepCell id hHeld13.2.1, hk.keepCell id hHeld13.2.2⟩) (fun hHeld hU => ?_); clear hK K; (try simp only [Act.put, List.setIfInBounds_toArray, List.set_cons_zero, List.set_cons_succ])
      have hHeld9 := hHeld
      refine T_step (i := 9) hU rfl (by decide) (by kernel_rfl) (fun K hK => ?_); clear hU hHeld
      go_simp
      go_at_call 43
      refine (tput_ok (W.num + 1) W.lb n T w1.heap.size _ ((H1.out.tab).below (Nat.le_refl _) BB) BB.size H1.out.ok ⟨by omega, by omega⟩).mono ?_
      rintro e x ⟨s, hss, rfl, hbx⟩
      (try replace AZ := Below.at hbx AZ AZ.lt)
      replace BB := BB.trans (hbx.mono BB.size)
      refine hK.out _ _ (⟨Below.keepCell hbx hHeld9.1, Below.keepCell hbx hHeld9.2.1, Below.keepCell hbx hHeld9.2.2⟩) (fun hHeld hU => ?_); clear hK K; (try simp only [Act.put, List.setIfInBounds_toArray, List.set_cons_zero, List.set_cons_succ])
      refine T_take (i := 10) hU 7 ?_ rfl rfl (by decide) (by kernel_rfl) (by kernel_rfl) (fun _ _ _ h => h) (Or.inl ⟨by rfl, ?_⟩) hHeld ?_; rotate_left; (intro w hSw; (try dsimp only at hSw); go_simp); (try with_reducible rfl); clear hU; intro hU; (try simp only [Act.put, List.setIfInBounds_toArray, List.set_cons_zero, List.set_cons_succ])
      refine T_take (i := 11) hU 18 ?_ rfl rfl (by decide) (by kernel_rfl) (by kernel_rfl) (fun _ _ _ h => h) (Or.inl ⟨by rfl, ?_⟩) hHeld ?_; rotate_left; (intro w hSw; (try dsimp only at hSw); go_simp); (try with_reducible rfl); clear hU; intro hU; (try simp only [Act.put, List.setIfInBounds_toArray, List.set_cons_zero, List.set_cons_succ])
      refine T_take (i := 12) hU 19 ?_ rfl rfl (by decide) (by kernel_rfl) (by kernel_rfl) (fun _ _ _ h => h) (Or.inl ⟨by rfl, ?_⟩) hHeld ?_; rotate_left; (intro w hSw; (try dsimp only at hSw); go_simp); (try with_reducible rfl); clear hU; intro hU; (try simp only [Act.put, List.setIfInBounds_toArray, List.set_cons_zero, List.set_cons_succ])
      have hHeld14 := hHeld
      refine T_step (i := 14) hU rfl (by decide) (by kernel_rfl) (fun K hK => ?_); clear hU hHeld
      refine step_storeCell rfl 9 _ _ rfl rfl bs 0 (.string s) _ 9 (by with_unfolding_all exact rfl) (by with_unfolding_all exact rfl) AZ (show 0 < 1 by omega) size9 rfl rfl (fun y AY hky hsy => ?_)
      have n1 : ¬ (w.heap.size = bs) := by have := HA1.out.lt; omega
      have n2 : ¬ (wp = bs) := by have := H1.out.cells.lt; omega
      refine hK.out _ _ (⟨hky.keepCell n1 hHeld14.1, hky.keepCell n2 hHeld14.2.1, hky.keepCell n2 hHeld14.2.2⟩) (fun hHeld hU => ?_); clear hK K; (try simp only [Act.put, List.setIfInBounds_toArray, List.set_cons_zero, List.set_cons_succ])
      refine T_last (N := 15) rfl (by kernel_rfl) (by kernel_rfl) (fun K hK => ?_); clear hU hHeld
      go_simp
      refine hK.out _ _ (NoPanic.normal ?_); clear hK K
      go_wp2_with fail
      go_meet
      exact ⟨bs, s, rfl, rfl, hss, AY, hbB, BB.trans (hky.belowOf BB.size (by omega))⟩
  case rest =>
    obtain ⟨bs, s, rfl, rfl, hss, hAs, hbs, hbc⟩ := hcut
    have H2 := Lib.hid (H1.out.below hbc)
    have HBc := Lib.hid (HB1.out.trans (hbc.mono HB1.out.size))
    have b0' : wc.cell? ⟨w.heap.size, 0, none⟩ = some (.pointer (some ⟨wp, 0, none⟩)) := Below.keepCell hbc b0
    have c3' := H2.out.c3
    have hlt1 := HA1.out.lt
    have hbwp : ¬ (w.heap.size = wp) := by have := H.out.cells.lt; omega
    have hbsp : ¬ (bs = wp) := by have := H1.out.cells.lt; omega
    have Hg := Lib.hid (And.intro hbs (And.intro hbwp (And.intro hbsp hlt1)))
    have HAs := Lib.hid hAs
    have Hss := Lib.hid hss
    have b1c := b0'
    clear hbc b0 c3 c4 hbs hbwp hbsp hlt1 hAs hss
    go_wp2_with (first
      | (refine wpList_storeCell rfl 3 _ _ rfl rfl wp 3 (.int .i64 (W.num + 1)) W.cells 53 rfl rfl H2.out.cells (by rw [W.size H2.out.hl]; decide) size3 rfl rfl ?_; intro w4 hA4 hk4 hs4; rw [WarV.cells_num] at hA4; have HA4 := Lib.hid hA4; have Hk4 := Lib.hid hk4; clear hA4 hk4 hs4 b0' c3'))
    have hFlt : ∀ k, F k → k < w.heap.size := H.out.dk.lt
    have nFb : ¬ F w.heap.size := fun e => by have := hFlt _ e; omega
    have nFs : ¬ F bs := fun e => by have := hFlt _ e; have := Hg.out; omega
    have nF : ¬ F wp ∧ ¬ F w.heap.size ∧ ¬ F bs := ⟨H.out.Fw, nFb, nFs⟩
    have HnF := Lib.hid nF
    have B4 : w4.cell? ⟨w.heap.size, 0, none⟩ = some (.pointer (some ⟨wp, 0, none⟩)) := Hk4.out.keepCell Hg.out.2.1 b1c
    have S4 : w4.cell? ⟨bs, 0, none⟩ = some (.string s) := Hk4.out.keepCell Hg.out.2.2.1 (HAs.out.cell 0)
    have C0 : w4.cell? ⟨wp, 0, none⟩ = some (.pointer (some ⟨W.d, 0, none⟩)) := (HA4.out.cell 0).trans (by simp [WarV.cells, WarV.pre])
    have C3 : w4.cell? ⟨wp, 3, none⟩ = some (.int .i64 (W.num + 1)) := (HA4.out.cell 3).trans (by simp [WarV.cells, WarV.pre])
    have D4 := Lib.hid (H2.out.dk.kept Hk4.out (fun k hf e => H.out.Fw (e ▸ hf)))
    have Hc := Lib.hid (And.intro B4 (And.intro S4 (And.intro C0 C3)))
    have Hdn : Hid (48 ≤ dn ∧ dn ≤ 16384) := Lib.hid (by have := H.out.sct; have := H.out.dn; have := H.out.n0; have := H.out.n1; omega)
    clear nFb nFs nF B4 S4 C0 C3 hFlt
    go_loopg [6] 7 (fun gk i wr => ∃ k : Nat, 1 ≤ k ∧ k ≤ 8 ∧ gk = 8 - k ∧ i = .int .i64 k ∧ Step W.d dn F w4 (Bd + (k - 1)) wr)
    case atStart => exact ⟨1, by omega, by omega, by omega, rfl, Step.refl D4.out⟩
    case round =>
      obtain ⟨k, hk1, hk, hgk, rfl, hst⟩ := hrel
      have Hgk := Lib.hid hgk
      have HSt := Lib.hid hst
      clear hgk hst
      by_cases hlt : k < 8
      · go_wp2_with (first
          | (go_at_call 44; refine (sput_on wp w.heap.size bs W.d dn _ F (W.num + 1) k s w4 _ HSt.out Hc.out.1 Hc.out.2.1 Hc.out.2.2.1 Hc.out.2.2.2 Hss.out ⟨by omega, by omega⟩ Hdn.out.1 (by have := Hbd.out; omega) HnF.out).mono ?_; rintro e w5 ⟨rfl, hst5⟩; have HSt5 := Lib.hid hst5; clear hst5))
        go_roundg (8 - (k + 1))
        case measure => have := Hgk.out; omega
        case rel => exact ⟨k + 1, by omega, by omega, rfl, by go_num, by rw [show Bd + (k + 1 - 1) = Bd + (k - 1) + 1 from by omega]; exact HSt5.out⟩
      · obtain rfl : k = 8 := by omega
        have e0 : wr.cell? ⟨w.heap.size, 0, none⟩ = some (.pointer (some ⟨wp, 0, none⟩)) := HSt.out.keep.keepCell HnF.out.2.1 Hc.out.1
        have e1 : wr.cell? ⟨wp, 0, none⟩ = some (.pointer (some ⟨W.d, 0, none⟩)) := HSt.out.keep.keepCell HnF.out.1 Hc.out.2.2.1
        go_wp2_with (first
          | (go_at_call 44; refine (sput_on wp w.heap.size bs W.d dn _ F (W.num + 1) 0 s w4 _ HSt5.out Hc.out.1 Hc.out.2.1 Hc.out.2.2.1 Hc.out.2.2.2 Hss.out ⟨by omega, by omega⟩ Hdn.out.1 (by have := Hbd.out; omega) HnF.out).mono ?_; rintro e w6 ⟨rfl, hst6⟩; have HSt6 := Lib.hid hst6; have e0 : w6.cell? ⟨w.heap.size, 0, none⟩ = some (.pointer (some ⟨wp, 0, none⟩)) := HSt6.out.keep.keepCell HnF.out.2.1 Hc.out.1; have e1 : w6.cell? ⟨wp, 0, none⟩ = some (.pointer (some ⟨W.d, 0, none⟩)) := HSt6.out.keep.keepCell HnF.out.1 Hc.out.2.2.1; clear hst6)
          | (go_at_call 33; refine (flush_on W.d dn _ F 0 w4 _ HSt6.out (by omega) (by omega) Hdn.out.2 (by have := Hbd.out; omega)).mono ?_; rintro e w7 ⟨rfl, hst7⟩; have HSt7 := Lib.hid hst7; clear hst7)
          | (go_at_call 33; refine (flush_on W.d dn _ F 0 w4 _ HSt.out (by omega) (by omega) Hdn.out.2 (by have := Hbd.out; omega)).mono ?_; rintro e w5 ⟨rfl, hst5⟩; have HSt5 := Lib.hid hst5; clear hst5 e0 e1))
        go_ret
        obtain ⟨F', hd7, hF7, hk7⟩ := HSt7.out
        have k4 : Keep (fun k => F k ∨ k = wp) w w4 := (Keep.of_below HBc.out (fun k => F k ∨ k = wp)).trans Hk4.out (fun _ _ e => .inr e)
        have k7 := k4.trans hk7 (fun _ _ e => .inl e)
        have hF' : ∀ k, F' k → F k ∨ w.heap.size ≤ k := fun k hf => (hF7 k hf).imp id (fun e => by have := k4.size; omega)
        refine ⟨rfl, F', H.out.go rfl rfl rfl H.out.hl ⟨by show 0 ≤ W.num + 1; omega, by show W.num + 1 ≤ 100000; omega⟩ k7 (hk7.at HA4.out HnF.out.1) (hd7.mono (by omega)) ?_ ?_ hF', hF', k7⟩
        · rintro (e | e)
          · exact H.out.Fl e
          · exact H.out.lbne e
        · rintro x hx b hb (e | e)
          · exact (H.out.seg x hx b hb).1 e
          · exact (H.out.seg x hx b hb).2.1 e
end Go.Proofs.YtnndkfhpifgaiaaGreat
namespace Go.Proofs.YtnndkfhpifgaiaaGreat
open Go.RowKit

def HV0 : HV := ⟨0, 0, 0, 0, 0, 0, 0, 0, 0, .slice none 0 0, []⟩
def T0 : List HV := List.replicate 16 HV0
def hs0 : List Value := List.replicate 17 (.pointer none)
theorem HV0_none : HV0.None := ⟨rfl, by decide, rfl, rfl, rfl, rfl, rfl, rfl, rfl, rfl, rfl⟩
theorem T0_ok (n : Nat) (hn : n ≤ 137) : TOk T0 n := ⟨rfl, fun h hh => by obtain rfl := List.eq_of_mem_replicate hh; exact .inl HV0_none, by decide, hn⟩
theorem info40 : (Tryz.prog.info? 40).map (fun i => (i.zero, i.size, i.bytes)) = some (some (.agg zHouse), 10, 96) := by kernel_rfl
theorem made40 : madeCells zHouse (16 * 10) = (tcells T0).toArray := by kernel_rfl
theorem built53 (d lb : Nat) (s : Int) : Tryz.prog.built 53 [(0, .pointer (some ⟨d, 0, none⟩)), (1, .agg #[.int .i64 s, .int .i64 32]), (3, .slice (some ⟨lb, 0, none⟩) 16 16)] = some (WarV.cells ⟨d, s, 0, lb, hs0⟩) := by kernel_rfl

theorem write_on (d dn B : Nat) (F : Nat → Prop) (o i : Int) (s : ByteArray) (w4 w : World) (hst : Step d dn F w4 B w) (h0 : 0 ≤ o) (h0' : o ≤ 16) (h1 : 0 ≤ i) (h1' : i < dn) (hs : s.size = 256) (hB : B < 1000000000) :
    Calls Tryz.prog 31 #[.pointer (some ⟨d, 0, none⟩), .int .i64 o, .int .i64 i, .string s] w fun e w' => e = .returned (.bool true) ∧ Step d dn F w4 (B + 1) w' := by
  obtain ⟨F1, hd1, hF1, hk1⟩ := hst
  refine (write_step d dn B F1 o i s w hd1 h0 h0' h1 h1' hs hB).mono ?_
  rintro e w' ⟨rfl, hst'⟩
  exact ⟨rfl, Step.comp hF1 hk1 hst'⟩
theorem Step.then_below {d n B : Nat} {F : Nat → Prop} {w w1 w2 : World} (h : Step d n F w B w1) (hb : Below w1.heap.size w1 w2) : Step d n F w B w2 := by
  obtain ⟨F1, hd1, hF1, hk1⟩ := h
  exact ⟨F1, hd1.below hb, hF1, hk1.trans (Keep.of_below hb (fun _ => False)) (fun _ _ h => h.elim)⟩

theorem WarAt.step {w w' : World} {wp : Nat} {W : WarV} {T : List HV} {n dn Bd B' : Nat} {F : Nat → Prop} (h : WarAt w wp W T n dn Bd F) (hst : Step W.d dn F w B' w') : ∃ F', WarAt w' wp W T n dn B' F' ∧ (∀ k, F' k → F k ∨ w.heap.size ≤ k) ∧ Keep F w w' := by
  obtain ⟨F', h1, h2, h3⟩ := hst
  exact ⟨F', h.go rfl rfl rfl h.hl h.num h3 (h3.at h.cells h.Fw) h1 h.Fl (fun x hx b hb => (h.seg x hx b hb).1) h2, h2, h3⟩

/-- 16 new entries, in a region that draws its order. -/
theorem step_makeHouses {o : Oper} {ops : Array Oper} {a : Act} {w : World} {Q : Exit → Act → World → Prop} (hgd : o.guard = none) (ho : o.op = .makeSlice 35 (.const (.int .i64 16)) (.const (.int .i64 16))) (d : Tmp) (hd : o.dst = some d) {K : Act → World → Prop}
    (h : ∀ w' n, w.heap.size ≤ n → n < w'.heap.size → At w' n (tcells T0).toArray 40 → Keep (fun _ => False) w w' → K ⟨a.tmps.setIfInBounds d (.slice (some ⟨n, 0, none⟩) 16 16), a.defers⟩ w') :
    if Region.wanted o (yielded ops a.tmps) = true then Oper.wp Tryz.prog o a w K Q else K (a.put o.dst undef) w := by
  rw [if_pos (by simp [Region.wanted, hgd])]
  obtain ⟨i0, hi, hz, hs1, hb1⟩ := info_parts info40
  have hmk := run_make (P := Tryz.prog) w 35 40 i0 (.agg zHouse) Tryz.underlying35 hi hz .i64 .i64 16 16 (by decide) (by decide) (by rw [hb1]; decide) (by decide)
  have hc : (Value.agg zHouse).cells = zHouse := rfl
  have e16 : (16 : Int).toNat = 16 := rfl
  rw [hs1, hc, e16, made40] at hmk
  unfold Oper.wp execOp
  simp only [ho, Act.eval, Sem.run_bind, hmk, Result.andThen_ok]
  have := h (w.alloc (.cells (tcells T0).toArray 40)) w.heap.size (Nat.le_refl _) (by simp) (At.new _ _ _) ((Keep.refl _ w).alloc _)
  show K (a.put o.dst _) _
  rw [hd]; exact this

/-- What Format leaves. -/
def FmtEnd (w : World) (d n dn Bd : Nat) (F : Nat → Prop) (e : Ending) (w' : World) : Prop := ∃ wp W F', e = .returned (.tuple #[.pointer (some ⟨wp, 0, none⟩), .bool true]) ∧ WarAt w' wp W T0 n dn (Bd + 20) F' ∧ W.num = 1 ∧ W.hs = hs0 ∧ (∀ k, F' k → F k ∨ w.heap.size ≤ k) ∧ w.heap.size ≤ wp ∧ w.heap.size ≤ W.lb ∧ Keep F w w'

set_option maxRecDepth 100000 in
set_option maxHeartbeats 4000000 in
theorem format_ok (d n dn Bd : Nat) (F : Nat → Prop) (w : World) (hd : DiskAt w d dn Bd F) (hdn : dn = 48 + 32 * n) (hn0 : 8 ≤ n) (hn1 : n ≤ 137) (hB : Bd + 200 < 1000000000) :
    Calls Tryz.prog 14 #[.pointer (some ⟨d, 0, none⟩), .agg #[.int .i64 dn, .int .i64 32]] w (FmtEnd w d n dn Bd F) := by
  have hu25 := Tryz.underlying25
  have Hd := Lib.hid hd
  have Hdn := Lib.hid hdn
  have Hbd := Lib.hid hB
  clear hd hdn hB
  go_enter Tryz.func14, Tryz.ntmps14
  go_wp2_with (first
    | (refine wpList_boxAt rfl 25 _ rfl #[.int .i64 dn, .int .i64 32] rfl ?_; intro w1 hA hk hs; have HG1 := Lib.hid hA; have HB1 := Lib.hid hk.below; clear hA hk hs))
  have rg : w1.rangeAt w.heap.size 0 [.int .i64 dn, .int .i64 32] := HG1.out.range 0 2
  have g0 : w1.cell? ⟨w.heap.size, 0, none⟩ = some (.int .i64 dn) := HG1.out.cell 0
  have hD1 := (Hd.out.below HB1.out).drew
  (try simp only [Act.put, List.setIfInBounds_toArray, List.set_cons_zero, List.set_cons_succ])
  refine wp_region_noPanic ?_
  refine T_region 13 (fun w' => w'.rangeAt w.heap.size 0 [.int .i64 dn, .int .i64 32] ∧ w'.cell? ⟨w.heap.size, 0, none⟩ = some (.int .i64 dn)) (by kernel_rfl) (by kernel_rfl) (by kernel_rfl) (by decide) (by kernel_rfl) ⟨rg, g0⟩ (fun hHeld hU => ?_)
  refine T_take (i := 0) hU 8 (.agg #[.int .i64 dn, .int .i64 32]) rfl rfl (by decide) (by kernel_rfl) (by kernel_rfl) (fun _ _ _ h => h) (yields_load _ _ _ _ rfl _ _ rfl w.heap.size 0 rfl _ _ hu25 rfl (size25 _ _) (fun _ h => h.1)) hHeld ?_; clear hU; intro hU; (try simp only [Act.put, List.setIfInBounds_toArray, List.set_cons_zero, List.set_cons_succ])
  have hHeld1 := hHeld
  refine T_step (i := 1) hU rfl (by decide) (by kernel_rfl) (fun K hK => ?_); clear hU hHeld
  go_simp
  go_at_call 29
  refine (check_ok dn _ (by have := Hdn.out; omega) (by have := Hdn.out; omega)).mono ?_
  rintro e w2 ⟨rfl, hb2⟩
  refine hK.out _ _ (⟨Below.keepRange hb2 hHeld1.1, Below.keepCell hb2 hHeld1.2⟩) (fun hHeld hU => ?_); clear hK K; (try simp only [Act.put, List.setIfInBounds_toArray, List.set_cons_zero, List.set_cons_succ])
  refine T_take (i := 2) hU 10 ?_ rfl rfl (by decide) (by kernel_rfl) (by kernel_rfl) (fun _ _ _ h => h) (Or.inl ⟨by rfl, ?_⟩) hHeld ?_; rotate_left; (intro w hSw; (try dsimp only at hSw); go_simp); (try with_reducible rfl); clear hU; intro hU; (try simp only [Act.put, List.setIfInBounds_toArray, List.set_cons_zero, List.set_cons_succ])
  refine T_take (i := 3) hU 11 ?_ rfl rfl (by decide) (by kernel_rfl) (by kernel_rfl) (fun _ _ _ h => h) (Or.inl ⟨by rfl, ?_⟩) hHeld ?_; rotate_left; (intro w hSw; (try dsimp only at hSw); go_simp); (try with_reducible rfl); clear hU; intro hU; (try simp only [Act.put, List.setIfInBounds_toArray, List.set_cons_zero, List.set_cons_succ])
  refine T_take (i := 4) hU 12 ?_ rfl rfl (by decide) (by kernel_rfl) (by kernel_rfl) (fun _ _ _ h => h) (Or.inl ⟨by rfl, ?_⟩) hHeld ?_; rotate_left; (intro w hSw; (try dsimp only at hSw); go_simp); (try with_reducible rfl); clear hU; intro hU; (try simp only [Act.put, List.setIfInBounds_toArray, List.set_cons_zero, List.set_cons_succ])
  refine T_take (i := 6) hU 14 ?_ rfl rfl (by decide) (by kernel_rfl) (by kernel_rfl) (fun _ _ _ h => h) (Or.inl ⟨by rfl, ?_⟩) hHeld ?_; rotate_left; (intro w hSw; (try dsimp only at hSw); go_simp); (try with_reducible rfl); clear hU; intro hU; (try simp only [Act.put, List.setIfInBounds_toArray, List.set_cons_zero, List.set_cons_succ])
  refine T_take (i := 7) hU 15 ?_ rfl rfl (by decide) (by kernel_rfl) (by kernel_rfl) (fun _ _ _ h => h) (Or.inl ⟨by rfl, ?_⟩) hHeld ?_; rotate_left; (intro w hSw; (try dsimp only at hSw); go_simp); (try with_reducible rfl); clear hU; intro hU; (try simp only [Act.put, List.setIfInBounds_toArray, List.set_cons_zero, List.set_cons_succ])
  have hHeld5 := hHeld
  refine T_step (i := 5) hU rfl (by decide) (by kernel_rfl) (fun K hK => ?_); clear hU hHeld
  go_simp
  go_at_call 30
  refine (sectors_at d dn Bd F w2 (hD1.below hb2)).mono ?_
  rintro e w3 ⟨rfl, rfl⟩
  refine hK.out _ _ (hHeld5) (fun hHeld hU => ?_); clear hK K; (try simp only [Act.put, List.setIfInBounds_toArray, List.set_cons_zero, List.set_cons_succ])
  refine T_take (i := 8) hU 16 ?_ rfl rfl (by decide) (by kernel_rfl) (by kernel_rfl) (fun _ _ _ h => h) (Or.inl ⟨by rfl, ?_⟩) hHeld ?_; rotate_left; (intro w hSw; (try dsimp only at hSw); go_simp); (try with_reducible rfl); clear hU; intro hU; (try simp only [Act.put, List.setIfInBounds_toArray, List.set_cons_zero, List.set_cons_succ])
  refine T_take (i := 9) hU 17 ?_ rfl rfl (by decide) (by kernel_rfl) (by kernel_rfl) (fun _ _ _ h => h) (Or.inl ⟨by rfl, ?_⟩) hHeld ?_; rotate_left; (intro w hSw; (try dsimp only at hSw); go_simp); (try with_reducible rfl); clear hU; intro hU; (try simp only [Act.put, List.setIfInBounds_toArray, List.set_cons_zero, List.set_cons_succ])
  refine T_take (i := 10) hU 18 ?_ rfl rfl (by decide) (by kernel_rfl) (by kernel_rfl) (fun _ _ _ h => h) (Or.inl ⟨by rfl, ?_⟩) hHeld ?_; rotate_left; (intro w hSw; (try dsimp only at hSw); go_simp); (try with_reducible rfl); clear hU; intro hU; (try simp only [Act.put, List.setIfInBounds_toArray, List.set_cons_zero, List.set_cons_succ])
  refine T_take (i := 11) hU 19 ?_ rfl rfl (by decide) (by kernel_rfl) (by kernel_rfl) (fun _ _ _ h => h) (Or.inl ⟨by rfl, ?_⟩) hHeld ?_; rotate_left; (intro w hSw; (try dsimp only at hSw); go_simp); (try with_reducible rfl); clear hU; intro hU; (try simp only [Act.put, List.setIfInBounds_toArray, List.set_cons_zero, List.set_cons_succ])
  have hHeld12 := hHeld
  refine T_step (i := 12) hU rfl (by decide) (by kernel_rfl) (fun K hK => ?_); clear hU hHeld
  go_simp
  go_at_call 25
  refine (down_at d dn Bd F w2 (hD1.below hb2)).mono ?_
  rintro e w3 ⟨rfl, rfl⟩
  refine hK.out _ _ (hHeld12) (fun hHeld hU => ?_); clear hK K; (try simp only [Act.put, List.setIfInBounds_toArray, List.set_cons_zero, List.set_cons_succ])
  refine T_last (N := 13) rfl (by kernel_rfl) (by kernel_rfl) (fun K hK => ?_); clear hU hHeld
  go_simp
  refine hK.out _ _ (NoPanic.normal ?_); clear hK K
  have b12 : Below w1.heap.size w1 w2 := (World.drew_below0 w1).trans hb2
  have HB2 := Lib.hid (HB1.out.trans (b12.mono HB1.out.size))
  have HG2 := Lib.hid (Below.at b12 HG1.out HG1.out.lt)
  have HFlt := Lib.hid (Hd.out.lt)
  have Hz := Lib.hid (And.intro HG2.out.lt HB2.out.size)
  clear b12 hb2 rg g0 hD1 hHeld1 hHeld5 hHeld12
  go_wp2
  go_loopg [22] 8 (fun gk i wr => ∃ k : Nat, k ≤ 8 ∧ gk = 8 - k ∧ i = .int .i64 k ∧ Step d dn F w2 (Bd + k) wr)
  case atStart => exact ⟨0, by omega, by omega, rfl, Step.refl (Hd.out.below HB2.out)⟩
  case round =>
    obtain ⟨k, hk, hgk, rfl, hst⟩ := hrel
    have Hgk := Lib.hid hgk
    have HSt := Lib.hid hst
    clear hgk hst
    by_cases hlt : k < 8
    · go_wp2_with (first
        | (go_at_call 32; refine (wblank_ok _).mono ?_; rintro e w3 ⟨s3, hs3, rfl, hb3⟩; have HSt3 := Lib.hid (HSt.out.then_below hb3); have Hs3 := Lib.hid hs3; clear hb3 hs3)
        | (go_at_call 31; refine (write_on d dn _ F 0 k s3 w2 _ HSt3.out (by omega) (by omega) (by omega) (by have := Hdn.out; omega) Hs3.out (by have := Hbd.out; omega)).mono ?_; rintro e w4 ⟨rfl, hst4⟩; have HSt4 := Lib.hid hst4; clear hst4))
      go_roundg (8 - (k + 1))
      case measure => have := Hgk.out; omega
      case rel => exact ⟨k + 1, by omega, rfl, by go_num, HSt4.out⟩
    · obtain rfl : k = 8 := by omega
      have nFg : ¬ F w.heap.size := fun e => by have := HFlt.out _ e; omega
      have rg : wr.rangeAt w.heap.size 0 [.int .i64 dn, .int .i64 32] := HSt.out.keep.keepRange nFg (HG2.out.range 0 2)
      go_wp2_with fail
      (try simp only [Act.put, List.setIfInBounds_toArray, List.set_cons_zero, List.set_cons_succ])
      refine wp_region_noPanic ?_
      refine T_region 5 (fun w' => w'.rangeAt w.heap.size 0 [.int .i64 dn, .int .i64 32]) (by kernel_rfl) (by kernel_rfl) (by kernel_rfl) (by decide) (by kernel_rfl) rg (fun hHeld hU => ?_)
      refine T_take (i := 0) hU 31 ?_ rfl rfl (by decide) (by kernel_rfl) (by kernel_rfl) (fun _ _ _ h => h) (Or.inl ⟨by rfl, ?_⟩) hHeld ?_; rotate_left; (intro w hSw; (try dsimp only at hSw); go_simp); (try with_reducible rfl); clear hU; intro hU; (try simp only [Act.put, List.setIfInBounds_toArray, List.set_cons_zero, List.set_cons_succ])
      refine T_take (i := 1) hU 32 (.agg #[.int .i64 dn, .int .i64 32]) rfl rfl (by decide) (by kernel_rfl) (by kernel_rfl) (fun _ _ _ h => h) (yields_load _ _ _ _ rfl _ _ rfl w.heap.size 0 rfl _ _ hu25 rfl (size25 _ _) (fun _ h => h)) hHeld ?_; clear hU; intro hU; (try simp only [Act.put, List.setIfInBounds_toArray, List.set_cons_zero, List.set_cons_succ])
      have hHeld2 := hHeld
      refine T_step (i := 2) hU rfl (by decide) (by kernel_rfl) (fun K hK => ?_); clear hU hHeld
      refine step_makeHouses rfl rfl 33 rfl (fun w5 lb hl0 hl1 hA5 hk5 => ?_)
      refine hK.out _ _ (hk5.keepRange id hHeld2) (fun hHeld hU => ?_); clear hK K; (try simp only [Act.put, List.setIfInBounds_toArray, List.set_cons_zero, List.set_cons_succ])
      refine T_take (i := 3) hU 34 (.agg (WarV.cells ⟨d, dn, 0, lb, hs0⟩)) rfl rfl (by decide) (by kernel_rfl) (by kernel_rfl) (fun _ _ _ h => h) (yields_build _ _ _ _ rfl _ _ rfl _ _ (built53 d lb dn) rfl) hHeld ?_; clear hU; intro hU; (try simp only [Act.put, List.setIfInBounds_toArray, List.set_cons_zero, List.set_cons_succ])
      have hHeld4 := hHeld
      refine T_step (i := 4) hU rfl (by decide) (by kernel_rfl) (fun K hK => ?_); clear hU hHeld
      refine step_boxN rfl _ _ rfl 35 rfl (WarV.cells ⟨d, dn, 0, lb, hs0⟩) rfl (fun w6 wp hw0 hw1 hA6 hk6 => ?_)
      refine hK.out _ _ (hk6.keepRange id hHeld4) (fun hHeld hU => ?_); clear hK K; (try simp only [Act.put, List.setIfInBounds_toArray, List.set_cons_zero, List.set_cons_succ])
      refine T_last (N := 5) rfl (by kernel_rfl) (by kernel_rfl) (fun K hK => ?_); clear hU hHeld
      go_simp
      refine hK.out _ _ (NoPanic.normal ?_); clear hK K
      have b6 : Below wr.heap.size wr w6 := ((World.drew_below0 wr).trans hk5.below).trans (hk6.below.mono (Nat.le_trans (World.drew_below0 wr).size hk5.size))
      have hzr : wr.drew.heap.size = wr.heap.size := rfl
      obtain ⟨F1, hd1, hF1, hk1⟩ := HSt.out
      have hF1lt := hd1.lt
      have hz5 := hk5.size
      have hzk := hk1.size
      have HW : WarAt w6 wp ⟨d, dn, 0, lb, hs0⟩ T0 n dn (Bd + 8) F1 := {
        cells := hA6
        hl := rfl
        tab := ⟨hk6.at hA5 id, fun h hh => by obtain rfl := List.eq_of_mem_replicate hh; exact IntsAt.nil _ _, fun h hh => by obtain rfl := List.eq_of_mem_replicate hh; exact ⟨rfl, by decide⟩⟩
        ok := T0_ok n hn1
        dk := hd1.below b6
        sct := by have := Hdn.out; simp only; omega
        dn := rfl
        n0 := hn0
        n1 := hn1
        num := by simp
        Fw := fun e => by have := hF1lt _ e; omega
        Fl := fun e => by have : lb < wr.heap.size := hF1lt _ e; omega
        seg := fun h hh b hb => by obtain rfl := List.eq_of_mem_replicate hh; simp [HV0, Value.ownBlock] at hb }
      have HW6 := Lib.hid HW
      have Hsz := Lib.hid (And.intro hw0 (And.intro hl0 (And.intro hzk (And.intro hz5 b6.size))))
      have HK6 := Lib.hid (hk1.trans (Keep.of_below b6 (fun _ => False)) (fun _ _ h => h.elim))
      have HF1 := Lib.hid hF1
      clear HW hd1 hF1 hk1 hF1lt hz5 hzk hA5 hk5 hA6 hk6 hw0 hw1 hl0 hl1 b6 rg hHeld2 hHeld4
      go_wp2_with (first
        | (go_at_call 33; refine (flush_step d dn (Bd + 8) F1 0 w6 HW6.out.dk (by omega) (by omega) (by have := Hdn.out; omega) (by have := Hbd.out; omega)).mono ?_; rintro e w7 ⟨rfl, hst⟩; obtain ⟨F2, hW7, hF2, hk7⟩ := HW6.out.step hst; have HW7 := Lib.hid hW7; have HF2 := Lib.hid hF2; have HK7 := Lib.hid hk7; clear hst hW7 hF2 hk7)
        | (go_at_call 20; refine (wsave_ok wp ⟨d, dn, 0, lb, hs0⟩ T0 n dn _ F2 w7 HW7.out (by have := Hbd.out; omega) (by show (0 : Int) < 100000; decide)).mono ?_; rintro e w8 ⟨rfl, F3, hW8, hF3, hk8⟩))
      go_ret2
      have z := Hsz.out
      have z2 := Hz.out
      have z7 := HK7.out.size
      have lF1 : ∀ k, F1 k → F k ∨ w.heap.size ≤ k := fun k hf => (HF1.out k hf).imp id (fun e => by omega)
      have lF2 : ∀ k, F2 k → F k ∨ w.heap.size ≤ k := fun k hf => (HF2.out k hf).elim (lF1 k) (fun e => .inr (by omega))
      refine ⟨wp, _, F3, rfl, ⟨hW8.cells, hW8.hl, hW8.tab, hW8.ok, hW8.dk.mono (by omega), hW8.sct, hW8.dn, hW8.n0, hW8.n1, hW8.num, hW8.Fw, hW8.Fl, hW8.seg⟩, rfl, rfl, fun k hf => (hF3 k hf).elim (lF2 k) (fun e => .inr (by omega)), by omega, by show w.heap.size ≤ lb; omega, ?_⟩
      have k2 : Keep F w w2 := Keep.of_below HB2.out F
      have k6 : Keep F w w6 := k2.trans HK6.out (fun _ _ h => h)
      have k7 : Keep F w w7 := k6.trans HK7.out (fun k hk hf => (lF1 k hf).elim id (fun e => by omega))
      exact k7.trans hk8 (fun k hk e => by
        rcases e with e | e
        · exact (lF2 k e).elim id (fun e => by omega)
        · omega)
end Go.Proofs.YtnndkfhpifgaiaaGreat
