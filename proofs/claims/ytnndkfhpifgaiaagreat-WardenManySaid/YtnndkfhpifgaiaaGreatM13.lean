/-
  slot: a house's state as a block.
-/
import Derived.Test.YtnndkfhpifgaiaaGreatM10
import Derived.Test.YtnndkfhpifgaiaaGreatM11
import Derived.Deep.LoopGhost
set_option linter.unusedVariables false
set_option linter.unusedSimpArgs false
namespace Go.Proofs.YtnndkfhpifgaiaaGreat
open Go.RowKit

theorem slin_ok (v l m : Int) (w : World) (h0 : l ≤ v) (h1 : v ≤ m) : Calls Tryz.prog 201 #[.int .i64 v, .int .i64 l, .int .i64 m] w fun e w' => e = .returned (.bool true) ∧ w = w' := by
  have e1 : decide (l ≤ v) = true := by simpa using h0
  have e2 : decide (v ≤ m) = true := by simpa using h1
  go_enter Tryz.func201, Tryz.ntmps201
  go_wp2
  go_ret
  exact ⟨rfl, rfl⟩

theorem ix4_0 (a b c d : Int) (w : World) : (Instr.index 80 (.agg #[.int .i64 a, .int .i64 b, .int .i64 c, .int .i64 d]) (.int .i64 0)).run Tryz.prog w = .ok (.int .i64 a) w := by kernel_rfl
theorem ix4_1 (a b c d : Int) (w : World) : (Instr.index 80 (.agg #[.int .i64 a, .int .i64 b, .int .i64 c, .int .i64 d]) (.int .i64 1)).run Tryz.prog w = .ok (.int .i64 b) w := by kernel_rfl
theorem ix4_2 (a b c d : Int) (w : World) : (Instr.index 80 (.agg #[.int .i64 a, .int .i64 b, .int .i64 c, .int .i64 d]) (.int .i64 2)).run Tryz.prog w = .ok (.int .i64 c) w := by kernel_rfl
theorem ix4_3 (a b c d : Int) (w : World) : (Instr.index 80 (.agg #[.int .i64 a, .int .i64 b, .int .i64 c, .int .i64 d]) (.int .i64 3)).run Tryz.prog w = .ok (.int .i64 d) w := by kernel_rfl

/-- A state as a value. -/
structure SlotV where
  (num life clock seg at_ next seq m0 m1 m2 m3 sb sn : Int)
def SlotV.cells (x : SlotV) : Array Value := #[.int .i64 x.num, .int .i64 x.life, .int .i64 x.clock, .int .i64 x.seg, .int .i64 x.at_, .int .i64 x.next, .int .i64 x.seq, .int .i64 x.m0, .int .i64 x.m1, .int .i64 x.m2, .int .i64 x.m3, .int .i64 x.sb, .int .i64 x.sn]
def SlotV.v (x : SlotV) : Value := .agg x.cells

/-- A state that may be. -/
structure SlotV.Ok (x : SlotV) : Prop where
  num : 1 ≤ x.num ∧ x.num ≤ 1099511627776
  life : 1 ≤ x.life ∧ x.life ≤ 1048575
  clock : 0 ≤ x.clock ∧ x.clock ≤ 1099511627776
  seg : 0 ≤ x.seg ∧ x.seg ≤ 65535
  at_ : 0 ≤ x.at_ ∧ x.at_ ≤ 64
  next : 0 ≤ x.next ∧ x.next ≤ 65535
  seq : 1 ≤ x.seq ∧ x.seq ≤ 1099511627776
  m0 : 0 ≤ x.m0 ∧ x.m0 ≤ 16383
  m1 : 0 ≤ x.m1 ∧ x.m1 ≤ 16383
  m2 : 0 ≤ x.m2 ∧ x.m2 ≤ 16383
  m3 : 0 ≤ x.m3 ∧ x.m3 ≤ 16383
  sb : 0 ≤ x.sb ∧ x.sb ≤ 1099511627777
  sn : 0 ≤ x.sn ∧ x.sn ≤ 1099511627777

set_option maxRecDepth 100000 in
set_option maxHeartbeats 2000000 in
theorem slcheck_ok (x : SlotV) (h : x.Ok) (w : World) : Calls Tryz.prog 202 #[x.v] w (Ans (.bool true) w) := by
  obtain ⟨n, li, cl, sg, a, nx, sq, m0, m1, m2, m3, sb, sn⟩ := x
  obtain ⟨h1, h2, h3, h4, h5, h6, h7, h8, h9, h10, h11, h12, h13⟩ := h
  dsimp only at h1 h2 h3 h4 h5 h6 h7 h8 h9 h10 h11 h12 h13
  unfold SlotV.v SlotV.cells
  go_enter Tryz.func202, Tryz.ntmps202
  go_wp2_with (first | (go_at_call 201; refine (slin_ok _ _ _ _ (by omega) (by omega)).mono ?_; rintro e w' ⟨rfl, rfl⟩))
  go_loopg [3, 51] 4 (fun gk ok i wr => ∃ k : Nat, k ≤ 4 ∧ gk = 4 - k ∧ i = .int .i64 k ∧ ok = .bool true ∧ wr = w.alloc (.cells #[.int .i64 n, .int .i64 li, .int .i64 cl, .int .i64 sg, .int .i64 a, .int .i64 nx, .int .i64 sq, .int .i64 m0, .int .i64 m1, .int .i64 m2, .int .i64 m3, .int .i64 sb, .int .i64 sn] 82))
  case atStart => exact ⟨0, by omega, by omega, rfl, rfl, rfl⟩
  case round =>
    obtain ⟨k, hk, hgk, rfl, rfl, rfl⟩ := hrel
    have Hgk := Lib.hid hgk
    clear hgk
    match k, hk with
    | 4, _ =>
      go_wp2
      go_ret
      exact ⟨rfl, (Below.refl _ _).alloc (Nat.le_refl _) _⟩
    | 0, _ =>
      have i0 := ix4_0 m0 m1 m2 m3
      go_wp2_with (first | (go_at_call 201; refine (slin_ok _ _ _ _ (by omega) (by omega)).mono ?_; rintro e w' ⟨rfl, rfl⟩))
      go_roundg (gk - 1)
      case measure => have := Hgk.out; omega
      case rel => exact ⟨1, by omega, by have := Hgk.out; omega, rfl, rfl, rfl⟩
    | 1, _ =>
      have i1 := ix4_1 m0 m1 m2 m3
      go_wp2_with (first | (go_at_call 201; refine (slin_ok _ _ _ _ (by omega) (by omega)).mono ?_; rintro e w' ⟨rfl, rfl⟩))
      go_roundg (gk - 1)
      case measure => have := Hgk.out; omega
      case rel => exact ⟨2, by omega, by have := Hgk.out; omega, rfl, rfl, rfl⟩
    | 2, _ =>
      have i2 := ix4_2 m0 m1 m2 m3
      go_wp2_with (first | (go_at_call 201; refine (slin_ok _ _ _ _ (by omega) (by omega)).mono ?_; rintro e w' ⟨rfl, rfl⟩))
      go_roundg (gk - 1)
      case measure => have := Hgk.out; omega
      case rel => exact ⟨3, by omega, by have := Hgk.out; omega, rfl, rfl, rfl⟩
    | 3, _ =>
      have i3 := ix4_3 m0 m1 m2 m3
      go_wp2_with (first | (go_at_call 201; refine (slin_ok _ _ _ _ (by omega) (by omega)).mono ?_; rintro e w' ⟨rfl, rfl⟩))
      go_roundg (gk - 1)
      case measure => have := Hgk.out; omega
      case rel => exact ⟨4, by omega, by have := Hgk.out; omega, rfl, rfl, rfl⟩

/-- A text under way in a cell of its own: so many bytes more. -/
theorem slput_any (b : Nat) (s : ByteArray) (v m : Int) (w : World) (hA : At w b #[.string s] 9) (hs : s.size ≤ 100000) :
    Calls Tryz.prog 203 #[.int .i64 v, .int .i64 m, .pointer (some ⟨b, 0, none⟩)] w fun e w' => e = .returned (.tuple #[]) ∧ ∃ s' : ByteArray, s'.size = s.size + (max 0 (min m 7)).toNat ∧ At w' b #[.string s'] 9 ∧ Keep (fun k => k = b) w w' := by
  have hc := hA.cell 0
  simp only [List.getElem?_toArray, List.getElem?_cons_zero] at hc
  have hlt := hA.lt
  go_enter Tryz.func203, Tryz.ntmps203
  refine wp_region_noPanic ?_
  refine T_region 5 (fun w' => w'.cell? ⟨b, 0, none⟩ = some (.string s)) (by kernel_rfl) (by kernel_rfl) (by kernel_rfl) (by decide) (by kernel_rfl) (by simpa using hc) (fun hHeld hU => ?_)
  refine T_take (i := 0) hU 5 ?_ rfl rfl (by decide) (by kernel_rfl) (by kernel_rfl) (fun _ _ _ h => h) (Or.inl ⟨by rfl, ?_⟩) hHeld ?_; rotate_left; (intro w hSw; (try dsimp only at hSw); go_simp); (try with_reducible rfl); clear hU; intro hU; (try simp only [Act.put, List.setIfInBounds_toArray, List.set_cons_zero, List.set_cons_succ])
  refine T_take (i := 1) hU 6 ?_ rfl rfl (by decide) (by kernel_rfl) (by kernel_rfl) (fun _ _ _ h => h) (Or.inl ⟨by rfl, ?_⟩) hHeld ?_; rotate_left; (intro w hSw; (try dsimp only at hSw); go_simp); (try with_reducible rfl); clear hU; intro hU; (try simp only [Act.put, List.setIfInBounds_toArray, List.set_cons_zero, List.set_cons_succ])
  refine T_take (i := 2) hU 7 ?_ rfl rfl (by decide) (by kernel_rfl) (by kernel_rfl) (fun _ _ _ h => h) (Or.inl ⟨by rfl, ?_⟩) hHeld ?_; rotate_left; (intro w hSw; (try dsimp only at hSw); go_simp); (try with_reducible rfl); clear hU; intro hU; (try simp only [Act.put, List.setIfInBounds_toArray, List.set_cons_zero, List.set_cons_succ])
  have hHeld0 := hHeld
  refine T_step (i := 3) hU rfl (by decide) (by kernel_rfl) (fun K hK => ?_); clear hU hHeld
  go_simp
  go_at_call 80
  refine (put_any _ _ (max 0 (min m 7)).toNat _ (by omega)).mono ?_
  rintro e w1 ⟨s1, hs1, rfl, hb1⟩
  obtain ⟨hc1, hf1, hz1⟩ := bcell hb1
  have hA1 : At w1 b #[.string s] 9 := Below.at hb1 hA.drew (by simpa using hlt)
  have hf := hA1.free
  have hcw : w1.cell? ⟨b, 0, none⟩ = some (.string s) := (hc1 b 0 (by simpa using hlt)).trans hHeld0
  have hk1 : Keep (fun k => k = b) w w1 := (Keep.of_below hb1 _).ofDrew
  refine hK.out _ _ ((hc1 b 0 (by simpa using hlt)).trans hHeld0) (fun hHeld hU => ?_); clear hK K; (try simp only [Act.put, List.setIfInBounds_toArray, List.set_cons_zero, List.set_cons_succ])
  refine T_take (i := 4) hU 9 ?_ rfl rfl (by decide) (by kernel_rfl) (by kernel_rfl) (fun _ _ _ h => h) (Or.inl ⟨by rfl, ?_⟩) hHeld ?_; rotate_left; (intro w hSw; (try dsimp only at hSw); go_simp); rw [if_neg (by omega)]; (try with_reducible rfl); clear hU; intro hU; (try simp only [Act.put, List.setIfInBounds_toArray, List.set_cons_zero, List.set_cons_succ])
  refine T_last (N := 5) rfl (by kernel_rfl) (by kernel_rfl) (fun K hK => ?_); clear hU hHeld
  go_simp
  refine hK.out _ _ (NoPanic.normal ?_); clear hK K
  go_end0
  refine ⟨rfl, s ++ s1, by simp [hs1], by simpa using hA1.set 0 (.string (s ++ s1)), hk1.setCell (Or.inl rfl) _⟩

theorem World.drew_below0 (w : World) : Below w.heap.size w w.drew := ⟨rfl, rfl, rfl, Nat.le_refl _, fun _ _ => rfl⟩

set_option maxRecDepth 100000 in
set_option maxHeartbeats 4000000 in
theorem slotPut_ok (h g : Int) (x : SlotV) (hx : x.Ok) (w : World) (h0 : 1 ≤ h ∧ h ≤ 16) (g0 : 1 ≤ g ∧ g ≤ 65535) : Calls Tryz.prog 169 #[.int .i64 h, .int .i64 g, x.v] w
      fun e w' => ∃ s : ByteArray, s.size = 256 ∧ e = .returned (.tuple #[.string s, .bool true]) ∧ Below w.heap.size w w' := by
  have hck := fun w => slcheck_ok x hx w
  obtain ⟨n, li, cl, sg, a, nx, sq, m0, m1, m2, m3, sb, sn⟩ := x
  clear hx
  unfold SlotV.v SlotV.cells at hck ⊢
  dsimp only at hck ⊢
  have hb0 := (Below.refl w.heap.size w).alloc (Nat.le_refl _) (.cells #[.int .i64 n, .int .i64 li, .int .i64 cl, .int .i64 sg, .int .i64 a, .int .i64 nx, .int .i64 sq, .int .i64 m0, .int .i64 m1, .int .i64 m2, .int .i64 m3, .int .i64 sb, .int .i64 sn] 82)
  have hH := At.new w #[.int .i64 n, .int .i64 li, .int .i64 cl, .int .i64 sg, .int .i64 a, .int .i64 nx, .int .i64 sq, .int .i64 m0, .int .i64 m1, .int .i64 m2, .int .i64 m3, .int .i64 sb, .int .i64 sn] 82
  have hHc := hH.cell
  go_enter Tryz.func169, Tryz.ntmps169
  go_wp2_with (first
    | (go_at_call 201; refine (slin_ok _ _ _ _ (by omega) (by omega)).mono ?_; rintro e w' ⟨rfl, rfl⟩)
    | (go_at_call 202
       refine (hck _).mono ?_
       rintro e wq ⟨rfl, hbq⟩
       clear hHc
       have hzq := hbq.size
       simp only [World.size_alloc] at hzq
       replace hH := (Below.at hbq hH (by simp)).alloc (.cells #[.string ⟨#[66, 71, 83, 76]⟩] 9)
       replace hb0 := (hb0.trans (hbq.mono (by simp))).alloc (by omega) (.cells #[.string ⟨#[66, 71, 83, 76]⟩] 9)
       have hA := At.new wq #[.string ⟨#[66, 71, 83, 76]⟩] 9
       have hs : (⟨#[66, 71, 83, 76]⟩ : ByteArray).size = 4 := rfl
       have hHc := hH.cell)
    | (go_at_call 203
       refine (slput_any _ _ _ _ _ hA (by omega)).mono ?_
       clear hHc
       rintro e w1 ⟨rfl, s1, hs1, hA1, hk⟩
       replace hs := hs1.trans (congrArg (· + _) hs)
       replace hb0 := hb0.trans (hk.belowOf hb0.size (by intro b hb e; omega))
       replace hH := hk.at hH (by omega)
       have hHc := hH.cell
       replace hA := hA1
       clear hs1 hA1 hk))
  have hs49 : s1.size = 34 := hs.trans (by decide)
  clear hs
  go_loopg [62] 4 (fun gk i wr => ∃ k : Nat, k ≤ 4 ∧ gk = 4 - k ∧ i = .int .i64 k ∧ (∃ s : ByteArray, s.size = 34 + 4 * k ∧ At wr wq.heap.size #[.string s] 9) ∧ Below w.heap.size w wr ∧ At wr w.heap.size #[.int .i64 n, .int .i64 li, .int .i64 cl, .int .i64 sg, .int .i64 a, .int .i64 nx, .int .i64 sq, .int .i64 m0, .int .i64 m1, .int .i64 m2, .int .i64 m3, .int .i64 sb, .int .i64 sn] 82)
  case atStart => exact ⟨0, by omega, by omega, rfl, ⟨_, hs49, hA⟩, hb0, hH⟩
  case round =>
    clear hA hb0 hH hHc
    obtain ⟨k, hk, hgk, rfl, ⟨s2, hs2, hA⟩, hb0, hH⟩ := hrel
    have Hgk := Lib.hid hgk
    clear hgk
    have hHc := hH.cell
    match k, hk with
    | 0, _ =>
      have i0 := ix4_0 m0 m1 m2 m3
      go_wp2_with (first
        | (go_at_call 203
           refine (slput_any _ _ _ _ _ hA (by omega)).mono ?_
           clear hHc
           rintro e w1 ⟨rfl, s1, hs1, hA1, hk⟩
           replace hb0 := hb0.trans (hk.belowOf hb0.size (by intro b hb e; omega))
           replace hH := hk.at hH (by omega)))
      go_roundg (gk - 1)
      case measure => have := Hgk.out; omega
      case rel => exact ⟨1, by omega, by have := Hgk.out; omega, rfl, ⟨_, by omega, hA1⟩, hb0, hH⟩
    | 1, _ =>
      have i1 := ix4_1 m0 m1 m2 m3
      go_wp2_with (first
        | (go_at_call 203
           refine (slput_any _ _ _ _ _ hA (by omega)).mono ?_
           clear hHc
           rintro e w1 ⟨rfl, s1, hs1, hA1, hk⟩
           replace hb0 := hb0.trans (hk.belowOf hb0.size (by intro b hb e; omega))
           replace hH := hk.at hH (by omega)))
      go_roundg (gk - 1)
      case measure => have := Hgk.out; omega
      case rel => exact ⟨2, by omega, by have := Hgk.out; omega, rfl, ⟨_, by omega, hA1⟩, hb0, hH⟩
    | 2, _ =>
      have i2 := ix4_2 m0 m1 m2 m3
      go_wp2_with (first
        | (go_at_call 203
           refine (slput_any _ _ _ _ _ hA (by omega)).mono ?_
           clear hHc
           rintro e w1 ⟨rfl, s1, hs1, hA1, hk⟩
           replace hb0 := hb0.trans (hk.belowOf hb0.size (by intro b hb e; omega))
           replace hH := hk.at hH (by omega)))
      go_roundg (gk - 1)
      case measure => have := Hgk.out; omega
      case rel => exact ⟨3, by omega, by have := Hgk.out; omega, rfl, ⟨_, by omega, hA1⟩, hb0, hH⟩
    | 3, _ =>
      have i3 := ix4_3 m0 m1 m2 m3
      go_wp2_with (first
        | (go_at_call 203
           refine (slput_any _ _ _ _ _ hA (by omega)).mono ?_
           clear hHc
           rintro e w1 ⟨rfl, s1, hs1, hA1, hk⟩
           replace hb0 := hb0.trans (hk.belowOf hb0.size (by intro b hb e; omega))
           replace hH := hk.at hH (by omega)))
      go_roundg (gk - 1)
      case measure => have := Hgk.out; omega
      case rel => exact ⟨4, by omega, by have := Hgk.out; omega, rfl, ⟨_, by omega, hA1⟩, hb0, hH⟩
    | 4, _ =>
      have hs : s2.size = 50 := hs2
      go_wp2_with (first
        | (go_at_call 203
           refine (slput_any _ _ _ _ _ hA (by omega)).mono ?_
           clear hHc
           rintro e w1 ⟨rfl, s1, hs1, hA1, hk⟩
           replace hs := hs1.trans (congrArg (· + _) hs)
           replace hb0 := hb0.trans (hk.belowOf hb0.size (by intro b hb e; omega))
           replace hH := hk.at hH (by omega)
           have hHc := hH.cell
           replace hA := hA1
           clear hs1 hA1 hk))
      have hs60 : s1.size = 62 := hs.trans (by decide)
      clear hs hHc hH
      go_loopg [77] (252 - s1.size) (fun gk i wr => ∃ s : ByteArray, s.size ≤ 252 ∧ gk = 252 - s.size ∧ At wr wq.heap.size #[.string s] 9 ∧ Below w.heap.size w wr)
      case atStart => exact ⟨_, by omega, rfl, hA, hb0⟩
      case round =>
        clear hA hb0
        obtain ⟨s3, hs3, hgj, hA3, hbw⟩ := hrel
        have Hgj := Lib.hid hgj
        have hc3 : wr.cell? ⟨wq.heap.size, 0, none⟩ = some (.string s3) := hA3.cell 0
        clear hgj
        by_cases hq : s3.size < 252
        · have hq2 : decide ((s3.size : Int) < 252) = true := by simp; omega
          go_wp2_with (first | (go_at_call 203; refine (slput_any _ _ _ _ _ hA3 (by omega)).mono ?_; rintro e w1 ⟨rfl, s1, hs1, hA1, hk⟩; replace hbw := hbw.trans (hk.belowOf hbw.size (by intro b hb e; omega))))
          go_roundg (252 - s1.size)
          case measure => have := Hgj.out; omega
          case rel => exact ⟨s1, by omega, rfl, hA1, hbw⟩
        · have hlt := hA3.lt
          have hlt' : wq.heap.size < wr.drew.heap.size := hlt
          go_wp2
          (try simp only [Act.put, List.setIfInBounds_toArray, List.set_cons_zero, List.set_cons_succ])
          refine wp_region_noPanic ?_
          refine T_region 7 (fun w' => w'.cell? ⟨wq.heap.size, 0, none⟩ = some (.string s3)) (by kernel_rfl) (by kernel_rfl) (by kernel_rfl) (by decide) (by kernel_rfl) hc3 (fun hHeld hU => ?_)
          refine T_take (i := 0) hU 82 ?_ rfl rfl (by decide) (by kernel_rfl) (by kernel_rfl) (fun _ _ _ h => h) (Or.inl ⟨by rfl, ?_⟩) hHeld ?_; rotate_left; (intro w hSw; (try dsimp only at hSw); go_simp); (try with_reducible rfl); clear hU; intro hU; (try simp only [Act.put, List.setIfInBounds_toArray, List.set_cons_zero, List.set_cons_succ])
          refine T_take (i := 1) hU 83 ?_ rfl rfl (by decide) (by kernel_rfl) (by kernel_rfl) (fun _ _ _ h => h) (Or.inl ⟨by rfl, ?_⟩) hHeld ?_; rotate_left; (intro w hSw; (try dsimp only at hSw); go_simp); (try with_reducible rfl); clear hU; intro hU; (try simp only [Act.put, List.setIfInBounds_toArray, List.set_cons_zero, List.set_cons_succ])
          have hHeld2 := hHeld
          refine T_step (i := 2) hU rfl (by decide) (by kernel_rfl) (fun K hK => ?_); clear hU hHeld
          go_simp
          go_at_call 82
          refine (of_any _ _ (by omega)).mono ?_
          rintro e w5 ⟨x, rfl, hb5⟩
          refine hK.out _ _ (Below.keepCell hb5 hHeld2) (fun hHeld hU => ?_); clear hK K; (try simp only [Act.put, List.setIfInBounds_toArray, List.set_cons_zero, List.set_cons_succ])
          refine T_take (i := 3) hU 85 ?_ rfl rfl (by decide) (by kernel_rfl) (by kernel_rfl) (fun _ _ _ h => h) (Or.inl ⟨by rfl, ?_⟩) hHeld ?_; rotate_left; (intro w hSw; (try dsimp only at hSw); go_simp); (try with_reducible rfl); clear hU; intro hU; (try simp only [Act.put, List.setIfInBounds_toArray, List.set_cons_zero, List.set_cons_succ])
          have hHeld4 := hHeld
          refine T_step (i := 4) hU rfl (by decide) (by kernel_rfl) (fun K hK => ?_); clear hU hHeld
          go_simp
          go_at_call 80
          refine (put_any _ _ 4 _ (by decide)).mono ?_
          rintro e w6 ⟨s6, hs6, rfl, hb6⟩
          have hcc : ¬ 9223372036854775807 < s3.size + s6.size := by omega
          have hcc2 : ¬ 9223372036854775807 < s3.size + 4 := by omega
          refine hK.out _ _ (Below.keepCell hb6 hHeld4) (fun hHeld hU => ?_); clear hK K; (try simp only [Act.put, List.setIfInBounds_toArray, List.set_cons_zero, List.set_cons_succ])
          refine T_take (i := 5) hU 87 ?_ rfl rfl (by decide) (by kernel_rfl) (by kernel_rfl) (fun _ _ _ h => h) (Or.inl ⟨by rfl, ?_⟩) hHeld ?_; rotate_left; (intro w hSw; (try dsimp only at hSw); go_simp); (try with_reducible rfl); clear hU; intro hU; (try simp only [Act.put, List.setIfInBounds_toArray, List.set_cons_zero, List.set_cons_succ])
          refine T_take (i := 6) hU 6 ?_ rfl rfl (by decide) (by kernel_rfl) (by kernel_rfl) (fun _ _ _ h => h) (Or.inl ⟨by rfl, ?_⟩) hHeld ?_; rotate_left; (intro w hSw; (try dsimp only at hSw); go_simp); (try with_reducible rfl); clear hU; intro hU; (try simp only [Act.put, List.setIfInBounds_toArray, List.set_cons_zero, List.set_cons_succ])
          refine T_last (N := 7) rfl (by kernel_rfl) (by kernel_rfl) (fun K hK => ?_); clear hU hHeld
          go_simp
          refine hK.out _ _ (NoPanic.normal ?_); clear hK K
          have hb8 : Below w.heap.size w w6 := hbw.trans ((World.drew_below0 wr).mono hbw.size |>.trans ((hb5.mono hbw.size).trans (hb6.mono (Nat.le_trans hbw.size hb5.size))))
          go_wp2
          go_ret2
          exact ⟨s3 ++ s6, by simp [hs6]; omega, rfl, hb8⟩
end Go.Proofs.YtnndkfhpifgaiaaGreat
