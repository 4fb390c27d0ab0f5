/-
  disk.Read: a sector's bytes, whatever they are.
-/
import Derived.Test.YtnndkfhpifgaiaaGreatM08
import Derived.Deep.LoopGhost
set_option linter.unusedVariables false
set_option linter.unusedSimpArgs false
namespace Go.Proofs.YtnndkfhpifgaiaaGreat
open Go.RowKit

/-- What Read answers: 256 bytes, and true. -/
def ReadEnd (w : World) (e : Ending) (w' : World) : Prop := ∃ s : ByteArray, s.size = 256 ∧ e = .returned (.tuple #[.string s, .bool true]) ∧ Below w.heap.size w w'

theorem DiskIs.sector {w : World} {d n B : Nat} {D : Dk} (h : DiskIs w d n B D) {i : Nat} (hi : i < n) : ∃ bs : List UInt8, bs.length = 256 ∧ w.rangeAt D.bd (i * 256) (bcells bs) := by
  obtain ⟨bs, hb⟩ := isB_list (l := (D.dur.toList.drop (i * 256)).take 256) (fun v hv => h.bytes v (List.mem_of_mem_drop (List.mem_of_mem_take hv)))
  refine ⟨bs, ?_, ?_⟩
  · have := congrArg List.length hb
    rw [bcells_length] at this
    rw [← this]
    simp [h.dsize]; omega
  · rw [← hb]; exact h.dur.range _ _

theorem zero116' : (Tryz.prog.info? 116).bind (·.zero) = some (.agg z256) := by kernel_rfl
theorem size69 : (Tryz.prog.info? 69).map (·.size) = some 17 := by kernel_rfl

theorem read_k2 {w wr w2 : World} {o : Obj} (hb : Below w.heap.size w wr) (hk : Keep (· = wr.heap.size) (wr.alloc o) w2) : Below w.heap.size w w2 ∧ Keep (fun _ => False) wr w2 := by
  have K : Keep (fun _ => False) wr w2 := ((Keep.refl (fun _ => False) wr).alloc o).trans hk (fun b hb e => by subst e; omega)
  exact ⟨hb.trans (K.belowOf hb.size (fun _ _ h => h)), K⟩
theorem read_k6 {w w2 w6 : World} (hb : Below w.heap.size w w2) (hk : Keep (· = w.heap.size) w2 w6) : Below w.heap.size w w6 :=
  hb.trans (hk.belowOf hb.size (fun b hb e => by omega))
theorem size68 : (Tryz.prog.info? 68).map (·.size) = some 1 := by kernel_rfl
theorem index69 (w : World) (ws : Array Value) (h : ws.size = 17) (k : Nat) (hk : k < 17) (v : Value) (hv : ws[k]? = some v) :
    (Instr.index 69 (.agg ws) (.int .i64 k)).run Tryz.prog w = .ok v w := by
  obtain ⟨hk', hv'⟩ := Array.getElem?_eq_some_iff.1 hv
  cases hq : Tryz.prog.info? 68 with
  | none => have := size68; simp [hq] at this
  | some i =>
    have hi : i.size = 1 := by have := size68; simpa [hq] using this
    simp [Instr.index, asIntOf, run_underlying Tryz.underlying69, run_underlying Tryz.underlying68, part, isAgg, Go.sizeOf, typeInfo, hq, hi, hk', hv']
    intro h2; omega

set_option maxRecDepth 10000 in
set_option maxHeartbeats 1000000 in
theorem read_ok (d n B : Nat) (D : Dk) (i : Nat) (w : World) (hd : DiskIs w d n B D) (h1 : i < n) (hn : n ≤ 16384) (hB : B ≤ 1000000000) :
    Calls Tryz.prog 60 #[.pointer (some ⟨d, 0, none⟩), .int .i64 i] w (ReadEnd w) := by
  have c0 := hd.c0
  have hc20 := hd.c20
  obtain ⟨bs, hbs, hr0⟩ := hd.sector h1
  have hu116 := Tryz.underlying116
  have hi116 : (Tryz.prog.info? 116).map (·.size) = some (bcells bs).length := by rw [bcells_length, hbs]; exact size116
  have hin : (i : Int) < n := by omega
  have hi116' : (Tryz.prog.info? 116).map (·.size) = some (bcells bs).toArray.size := by simpa using hi116
  have hzs : z256.size = (bcells bs).toArray.size := by simp [z256_size, bcells_length, hbs]
  have hdlt := hd.cells.lt
  go_enter Tryz.func60, Tryz.ntmps60
  go_wp2_with (first | (go_at_call 56; refine (none_no d n B D _ _ hd (by omega) (by omega)).mono ?_; rintro e w' ⟨rfl, rfl⟩))
  refine wp_region_noPanic ?_
  refine T_region 9 (fun w' => w'.cell? ⟨d, 0, none⟩ = some (.slice (some ⟨D.bd, 0, none⟩) n n) ∧ w'.rangeAt D.bd (i * 256) (bcells bs)) (by kernel_rfl) (by kernel_rfl) (by kernel_rfl) (by decide) (by kernel_rfl) ⟨c0, hr0⟩ (fun hHeld hU => ?_)
  refine T_take (i := 0) hU 21 ?_ rfl rfl (by decide) (by kernel_rfl) (by kernel_rfl) (fun _ _ _ h => h) (Or.inl ⟨by rfl, ?_⟩) hHeld ?_; rotate_left; (intro w hSw; (try dsimp only at hSw); go_simp); (try with_reducible rfl); clear hU; intro hU; (try simp only [Act.put, List.setIfInBounds_toArray, List.set_cons_zero, List.set_cons_succ])
  refine T_take (i := 1) hU 22 ?_ rfl rfl (by decide) (by kernel_rfl) (by kernel_rfl) (fun _ _ _ h => h) (Or.inl ⟨by rfl, ?_⟩) hHeld ?_; rotate_left; (intro w hSw; (try dsimp only at hSw); go_simp); (try with_reducible rfl); clear hU; intro hU; (try simp only [Act.put, List.setIfInBounds_toArray, List.set_cons_zero, List.set_cons_succ])
  refine T_take (i := 2) hU 23 ?_ rfl rfl (by decide) (by kernel_rfl) (by kernel_rfl) (fun _ _ _ h => h) (Or.inl ⟨by rfl, ?_⟩) hHeld ?_; rotate_left; (intro w hSw; (try dsimp only at hSw); go_simp); (try with_reducible rfl); clear hU; intro hU; (try simp only [Act.put, List.setIfInBounds_toArray, List.set_cons_zero, List.set_cons_succ])
  refine T_take (i := 3) hU 24 ?_ rfl rfl (by decide) (by kernel_rfl) (by kernel_rfl) (fun _ _ _ h => h) (Or.inl ⟨by rfl, ?_⟩) hHeld ?_; rotate_left; (intro w hSw; (try dsimp only at hSw); go_simp); (try with_reducible rfl); clear hU; intro hU; (try simp only [Act.put, List.setIfInBounds_toArray, List.set_cons_zero, List.set_cons_succ])
  refine T_take (i := 4) hU 25 ?_ rfl rfl (by decide) (by kernel_rfl) (by kernel_rfl) (fun _ _ _ h => h) (Or.inl ⟨by rfl, ?_⟩) hHeld ?_; rotate_left; (intro w hSw; (try dsimp only at hSw); go_simp); (try with_reducible rfl); clear hU; intro hU; (try simp only [Act.put, List.setIfInBounds_toArray, List.set_cons_zero, List.set_cons_succ])
  refine T_take (i := 5) hU 26 ?_ rfl rfl (by decide) (by kernel_rfl) (by kernel_rfl) (fun _ _ _ h => h) (Or.inl ⟨by rfl, ?_⟩) hHeld ?_; rotate_left; (intro w hSw; (try dsimp only at hSw); go_simp); (try with_reducible rfl); clear hU; intro hU; (try simp only [Act.put, List.setIfInBounds_toArray, List.set_cons_zero, List.set_cons_succ])
  refine T_take (i := 6) hU 27 (.agg (bcells bs).toArray) rfl rfl (by decide) (by kernel_rfl) (by kernel_rfl) (fun _ _ _ h => h) (yields_load _ _ _ _ rfl _ _ rfl D.bd (i * 256) rfl _ _ hu116 rfl hi116 (fun _ h => h.2)) hHeld ?_; clear hU; intro hU; (try simp only [Act.put, List.setIfInBounds_toArray, List.set_cons_zero, List.set_cons_succ])
  have hHeld0 := hHeld
  refine T_step (i := 7) hU rfl (by decide) (by kernel_rfl) (fun K hK => ?_); clear hU hHeld
  refine step_allocRow rfl _ rfl _ zero116' ?_
  refine hK.out _ _ (⟨by rw [World.cell?_alloc_lt _ _ _ hdlt]; exact hHeld0.1, World.rangeAt_alloc hHeld0.2 _⟩) (fun hHeld hU => ?_); clear hK K; (try simp only [Act.put, List.setIfInBounds_toArray, List.set_cons_zero, List.set_cons_succ])
  clear hHeld0
  refine T_take (i := 8) hU 6 ?_ rfl rfl (by decide) (by kernel_rfl) (by kernel_rfl) (fun _ _ _ h => h) (Or.inl ⟨by rfl, ?_⟩) hHeld ?_; rotate_left; (intro w hSw; (try dsimp only at hSw); go_simp); (try with_reducible rfl); clear hU; intro hU; (try simp only [Act.put, List.setIfInBounds_toArray, List.set_cons_zero, List.set_cons_succ])
  have A0 : At (w.drew.alloc (.cells z256 116)) w.heap.size z256 116 := At.new w.drew _ _
  refine T_last (N := 9) rfl (by kernel_rfl) (by kernel_rfl) (fun K hK => ?_); clear hU hHeld
  refine step_storeRow rfl _ _ _ rfl w.heap.size (bcells bs).toArray z256 _ ?px ?py A0 hzs hi116' (all_oneCell_toArray (bcells_one bs)) ?pr
  case px => rfl
  case py => rfl
  intro w4 hA4 hk4 hz4
  refine hK.out _ _ (NoPanic.normal ?_); clear hK K
  have K4 : Below w.heap.size w w4 := (((Keep.refl (fun _ => False) w).drew.alloc _).trans (hk4.mono (G := (· = w.heap.size)) (fun _ _ h => h)) (fun b hb e => by subst e; omega)).below
  have hA4' : ∃ b1 : List UInt8, b1.length = 256 ∧ At w4 w.heap.size (bcells b1).toArray 116 := ⟨bs, hbs, hA4⟩
  have hd4 : DiskIs w4 d n B D := hd.kept (Keep.of_below K4 (fun _ => False)) (fun _ _ h => h)
  have hrw : w4.rangeAt d 1 D.ws.toList := by
    intro j u hj
    have hj' : j < 17 := by have := (List.getElem?_eq_some_iff.1 hj).1; simpa [hd.wsize] using this
    rw [hd4.cw hj']; simpa using hj
  have hu69 := Tryz.underlying69
  have hi69 : (Tryz.prog.info? 69).map (·.size) = some D.ws.toList.length := by rw [Array.length_toList, hd.wsize]; exact size69
  clear hA4 hr0 c0
  go_wp2_with (first | (refine wpList_load_mid rfl 69 _ rfl d 1 rfl D.ws.toList _ hrw hu69 rfl hi69 ?_))
  go_loopw [32, 6] (fun i l wr => ∃ k : Nat, k ≤ 17 ∧ i = .int .i64 k ∧ (∃ x : Int, l = .int .i64 x) ∧ Below w.heap.size w wr ∧ ∃ b1 : List UInt8, b1.length = 256 ∧ At wr w.heap.size (bcells b1).toArray 116) (fun i _ _ => 17 - (intOf i).toNat)
  case atStart => exact ⟨0, by omega, rfl, ⟨_, rfl⟩, K4, hA4'⟩
  case round =>
    obtain ⟨k, hk, rfl, ⟨x, rfl⟩, hb, b1, hb1, hA⟩ := hrel
    by_cases hlt : k < 17
    · obtain ⟨v, m, xs, hv, hown, hmB, hxs⟩ := hd.waits k hlt
      obtain ⟨ad, cap, rfl⟩ : ∃ ad cap, v = .slice ad m cap := by
        rcases hown.2 with ⟨rfl, rfl⟩ | ⟨g, cap, cur, rfl, _⟩
        · exact ⟨none, 0, rfl⟩
        · exact ⟨_, cap, rfl⟩
      have hix : ∀ wx, (Instr.index 69 (.agg D.ws) (.int .i64 k)).run Tryz.prog wx = .ok (.slice ad m cap) wx := fun wx => index69 wx D.ws hd.wsize k hlt _ hv
      have hm' : (m : Int) ≤ 1000000000 := by omega
      have hd17 : decide ((k : Int) < 17) = true := by simp; omega
      have Hb := Lib.hid hb
      have Hv := Lib.hid hv
      clear hv
      go_wp2
      go_loopg [37, 6] m (fun gk i l wi => ∃ k2 : Nat, k2 ≤ m ∧ gk = m - k2 ∧ i = .int .i64 k2 ∧ (∃ x : Int, l = .int .i64 x) ∧ Below w.heap.size w wi ∧ ∃ b2 : List UInt8, b2.length = 256 ∧ At wi w.heap.size (bcells b2).toArray 116)
      case atStart => exact ⟨0, by omega, by omega, rfl, ⟨_, rfl⟩, Hb.out, b1, hb1, hA⟩
      case round =>
        obtain ⟨k2, hk2, hgk, rfl, ⟨y, rfl⟩, hb2', b2, hb2, hA2⟩ := hrel
        by_cases hlt2 : k2 < m
        · have hdi : DiskIs wr d n B D := hd.kept (Keep.of_below hb2' (fun _ => False)) (fun _ _ h => h)
          obtain ⟨g, rfl⟩ : ∃ g, ad = some ⟨g, 0, none⟩ := by
            rcases hown.2 with ⟨h, h'⟩ | ⟨g, cap', cur, h, _⟩
            · omega
            · simp only [Value.slice.injEq] at h; exact ⟨g, h.1⟩
          obtain ⟨cs, hcs, hok, hglt⟩ := hdi.write_at hlt Hv.out hlt2
          obtain ⟨tt, i2, b3, hi2, hb3, hcse⟩ := hok.parts
          have Hcs := Lib.hid hcse
          have Hgk := Lib.hid hgk
          clear hcse hgk
          have hi118 : (Tryz.prog.info? 118).map (·.size) = some cs.length := by rw [hok.1]; exact size118
          have hu118 := Tryz.underlying118
          have hsz : (#[Value.int .i64 0, Value.int .i64 0] ++ z256).size = cs.toArray.size := by simp [z256_size, hok.1]
          have hi118' : (Tryz.prog.info? 118).map (·.size) = some cs.toArray.size := by simpa using hi118
          have hone : cs.toArray.all (·.oneCell') = true := all_oneCell_toArray hok.one
          clear hc20 hrw hi69 hi116' hzs hA4' K4 hd4 hb hA hown
          by_cases q1 : i2 = i
          · subst q1
            by_cases q2 : y < tt
            · go_wp2_with (first | (refine wpList_load_mid rfl 118 _ rfl g (k2 * 258) rfl cs _ hcs hu118 rfl hi118 ?_) | (refine wpList_allocRow rfl 118 rfl _ zero118' ?_; refine wpList_storeRow rfl 118 _ _ rfl rfl _ cs.toArray _ _ rfl rfl (At.new _ _ _) hsz hi118' hone ?_; intro w2 hL hk2' hz2; have g1 : w2.cell? ⟨wr.heap.size, 1, none⟩ = some (.int .i64 i2) := (by rw [hL.cell, Hcs.out]; simp); have g0 : w2.cell? ⟨wr.heap.size, 0, none⟩ = some (.int .i64 tt) := (by rw [hL.cell, Hcs.out]; simp)))
              have K2 := read_k2 hb2' hk2'
              have A5 : At w2.drew w.heap.size (bcells b2).toArray 116 := K2.2.at hA2 (fun h => h)
              have r2 : w2.rangeAt wr.heap.size 2 (bcells b3) := by
                intro j u hj
                rw [hL.cell, Hcs.out]
                rw [show 2 + j = j + 1 + 1 from by omega]
                simpa using hj
              have g2 := g0
              have hi3 : (Tryz.prog.info? 116).map (·.size) = some (bcells b3).length := by rw [bcells_length, hb3]; exact size116
              have hi3' : (Tryz.prog.info? 116).map (·.size) = some (bcells b3).toArray.size := by simpa using hi3
              clear hi118 hi118' hone hsz g1
              try simp only [Act.put, List.setIfInBounds_toArray, List.set_cons_zero, List.set_cons_succ]
              refine wp_region_noPanic ?_
              refine T_region 5 (fun w' => w'.cell? ⟨wr.heap.size, 0, none⟩ = some (.int .i64 tt) ∧ w'.rangeAt wr.heap.size 2 (bcells b3)) (by kernel_rfl) (by kernel_rfl) (by kernel_rfl) (by decide) (by kernel_rfl) ⟨g2, r2⟩ (fun hHeld hU => ?_)
              refine T_take (i := 0) hU 51 ?_ rfl rfl (by decide) (by kernel_rfl) (by kernel_rfl) (fun _ _ _ h => h) (Or.inl ⟨by rfl, ?_⟩) hHeld ?_; rotate_left; (intro w hSw; (try dsimp only at hSw); go_simp); (try with_reducible rfl); clear hU; intro hU; (try simp only [Act.put, List.setIfInBounds_toArray, List.set_cons_zero, List.set_cons_succ])
              refine T_take (i := 1) hU 52 ?_ rfl rfl (by decide) (by kernel_rfl) (by kernel_rfl) (fun _ _ _ h => h) (Or.inl ⟨by rfl, ?_⟩) hHeld ?_; rotate_left; (intro w hSw; (try dsimp only at hSw); go_simp); (try with_reducible rfl); clear hU; intro hU; (try simp only [Act.put, List.setIfInBounds_toArray, List.set_cons_zero, List.set_cons_succ])
              refine T_take (i := 2) hU 53 ?_ rfl rfl (by decide) (by kernel_rfl) (by kernel_rfl) (fun _ _ _ h => h) (Or.inl ⟨by rfl, ?_⟩) hHeld ?_; rotate_left; (intro w hSw; (try dsimp only at hSw); go_simp); (try with_reducible rfl); clear hU; intro hU; (try simp only [Act.put, List.setIfInBounds_toArray, List.set_cons_zero, List.set_cons_succ])
              refine T_take (i := 3) hU 54 (.agg (bcells b3).toArray) rfl rfl (by decide) (by kernel_rfl) (by kernel_rfl) (fun _ _ _ h => h) (yields_load _ _ _ _ rfl _ _ rfl wr.heap.size 2 rfl _ _ hu116 rfl hi3 (fun _ h => h.2)) hHeld ?_; clear hU; intro hU; (try simp only [Act.put, List.setIfInBounds_toArray, List.set_cons_zero, List.set_cons_succ])
              refine T_take (i := 4) hU 6 ?_ rfl rfl (by decide) (by kernel_rfl) (by kernel_rfl) (fun _ _ _ h => h) (Or.inl ⟨by rfl, ?_⟩) hHeld ?_; rotate_left; (intro w hSw; (try dsimp only at hSw); go_simp); (try with_reducible rfl); clear hU; intro hU; (try simp only [Act.put, List.setIfInBounds_toArray, List.set_cons_zero, List.set_cons_succ])
              refine T_last (N := 5) rfl (by kernel_rfl) (by kernel_rfl) (fun K hK => ?_); clear hU hHeld
              refine step_storeRow rfl _ _ _ rfl w.heap.size (bcells b3).toArray (bcells b2).toArray _ ?px2 ?py2 A5 (by simp [bcells_length, hb2, hb3]) hi3' (all_oneCell_toArray (bcells_one b3)) ?pr2
              case px2 => rfl
              case py2 => rfl
              intro w6 hA6 hk6 hz6
              refine hK.out _ _ (NoPanic.normal ?_); clear hK K
              have K6 := read_k6 K2.1 hk6.ofDrew
              go_wp2
              go_roundg (m - (k2 + 1))
              case measure => have := Hgk.out; omega
              case rel => exact ⟨k2 + 1, by omega, rfl, by go_num, ⟨tt, rfl⟩, K6, b3, hb3, hA6⟩
            · go_wp2_with (first | (refine wpList_load_mid rfl 118 _ rfl g (k2 * 258) rfl cs _ hcs hu118 rfl hi118 ?_) | (refine wpList_allocRow rfl 118 rfl _ zero118' ?_; refine wpList_storeRow rfl 118 _ _ rfl rfl _ cs.toArray _ _ rfl rfl (At.new _ _ _) hsz hi118' hone ?_; intro w2 hL hk2' hz2; have g1 : w2.cell? ⟨wr.heap.size, 1, none⟩ = some (.int .i64 i2) := (by rw [hL.cell, Hcs.out]; simp); have g0 : w2.cell? ⟨wr.heap.size, 0, none⟩ = some (.int .i64 tt) := (by rw [hL.cell, Hcs.out]; simp)))
              have K2 := read_k2 hb2' hk2'
              have A2 : At w2 w.heap.size (bcells b2).toArray 116 := K2.2.at hA2 (fun h => h)
              go_roundg (m - (k2 + 1))
              case measure => have := Hgk.out; omega
              case rel => exact ⟨k2 + 1, by omega, rfl, by go_num, ⟨y, rfl⟩, K2.1, b2, hb2, A2⟩
          · have q1' : ((i2 : Int) == (i : Int)) = false := by simp; omega
            go_wp2_with (first | (refine wpList_load_mid rfl 118 _ rfl g (k2 * 258) rfl cs _ hcs hu118 rfl hi118 ?_) | (refine wpList_allocRow rfl 118 rfl _ zero118' ?_; refine wpList_storeRow rfl 118 _ _ rfl rfl _ cs.toArray _ _ rfl rfl (At.new _ _ _) hsz hi118' hone ?_; intro w2 hL hk2' hz2; have g1 : w2.cell? ⟨wr.heap.size, 1, none⟩ = some (.int .i64 i2) := (by rw [hL.cell, Hcs.out]; simp); have g0 : w2.cell? ⟨wr.heap.size, 0, none⟩ = some (.int .i64 tt) := (by rw [hL.cell, Hcs.out]; simp)))
            have K2 := read_k2 hb2' hk2'
            have A2 : At w2 w.heap.size (bcells b2).toArray 116 := K2.2.at hA2 (fun h => h)
            go_roundg (m - (k2 + 1))
            case measure => have := Hgk.out; omega
            case rel => exact ⟨k2 + 1, by omega, rfl, by go_num, ⟨y, rfl⟩, K2.1, b2, hb2, A2⟩
        · clear hgk
          go_wp2
          go_roundw
          case rel => exact ⟨k + 1, by omega, by go_num, ⟨_, rfl⟩, hb2', b2, hb2, hA2⟩
          case measure => simp [intOf]; omega
    · go_wp2_with (first | (refine wpList_toStr rfl _ _ _ rfl 5 Tryz.underlying119 Tryz.underlying5 Tryz.underlying9 w.heap.size 0 256 256 b1 rfl hb1 (by have := hA.range 0 256; rwa [List.drop_zero, List.take_of_length_le (by simp [bcells_length, hb1])] at this) ?_))
      go_ret2
      exact ⟨⟨b1.toArray⟩, by show b1.toArray.size = 256; simpa using hb1, rfl, hb⟩

/-- disk.Read, as its callers meet it. -/
theorem read_any (d n B : Nat) (F : Nat → Prop) (i : Int) (w : World) (hd : DiskAt w d n B F) (h0 : 0 ≤ i) (h1 : i < n) (hn : n ≤ 16384) (hB : B ≤ 1000000000) :
    Calls Tryz.prog 60 #[.pointer (some ⟨d, 0, none⟩), .int .i64 i] w (ReadEnd w) := by
  obtain ⟨D, hD, _, _⟩ := hd
  obtain ⟨i, rfl⟩ := Int.eq_ofNat_of_zero_le h0
  exact read_ok d n B D i w hD (by omega) hn hB

theorem sectors_at (d n B : Nat) (F : Nat → Prop) (w : World) (hd : DiskAt w d n B F) :
    Calls Tryz.prog 30 #[.pointer (some ⟨d, 0, none⟩)] w fun e w' => e = .returned (.int .i64 n) ∧ w = w' := by
  obtain ⟨D, hD, _, _⟩ := hd
  exact sectors_any d n B D w hD

theorem down_at (d n B : Nat) (F : Nat → Prop) (w : World) (hd : DiskAt w d n B F) :
    Calls Tryz.prog 25 #[.pointer (some ⟨d, 0, none⟩)] w fun e w' => e = .returned (.bool false) ∧ w = w' := by
  obtain ⟨D, hD, _, _⟩ := hd
  exact down_any d n B D w hD

end Go.Proofs.YtnndkfhpifgaiaaGreat
