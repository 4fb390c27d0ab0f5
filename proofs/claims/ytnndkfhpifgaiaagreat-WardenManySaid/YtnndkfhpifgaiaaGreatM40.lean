/-
  file.clear: no head of this house's stands on its segments any more.
-/
import Derived.Test.YtnndkfhpifgaiaaGreatM39
set_option linter.unusedVariables false
set_option linter.unusedSimpArgs false
namespace Go.Proofs.YtnndkfhpifgaiaaGreat
open Go.RowKit

/-- A head of some numbers. -/
def headA (n0 n1 n2 n3 n4 n5 n6 n7 : Int) (lv : Value) : Array Value := #[.int .i64 n0, .int .i64 n1, .int .i64 n2, .int .i64 n3, .int .i64 n4, .int .i64 n5, .int .i64 n6, .int .i64 n7, lv]
theorem oneA (n0 n1 n2 n3 n4 n5 n6 n7 : Int) (p : Option Addr) (m c : Nat) : (headA n0 n1 n2 n3 n4 n5 n6 n7 (.slice p m c)).all (·.oneCell') = true := by simp [headA, Value.oneCell']

set_option maxRecDepth 100000 in
set_option maxHeartbeats 4000000 in
theorem clear_ok (s : Nat) (S : StoreV) (segs : List Int) (R : Option RootV) (now : Bool) (G : Nat → Prop) (n dn Bd : Nat) (F : Nat → Prop) (w : World) (h : StoreAt w s S segs R now G) (hs : S.sct = 48 + 32 * n) (hn0 : 8 ≤ n) (hn1 : n ≤ 137) (hdn : (dn : Int) = S.sct) (hsg : ∀ x ∈ segs, 0 ≤ x ∧ x < n) (hl : segs.length ≤ 40) (hh : 1 ≤ S.h ∧ S.h ≤ 16)
    (hd : DiskAt w S.d dn Bd F) (hFG : ∀ k, F k → ¬ G k) (hBd : Bd + 2000 < 1000000000) :
    Calls Tryz.prog 38 #[.pointer (some ⟨s, 0, none⟩)] w fun e w' => e = .returned (.bool true) ∧ Step S.d dn F w (Bd + 32 * segs.length) w' := by
  have hu25 := Tryz.underlying25
  have HS := Lib.hid h
  have Hd := Lib.hid hd
  have Hs := Lib.hid (And.intro hs hdn)
  have Hsg := Lib.hid hsg
  have Hbd := Lib.hid hBd
  have hFlt : ∀ k, F k → k < w.heap.size := hd.lt
  have HFG := Lib.hid (And.intro hFG hFlt)
  have c4 : w.cell? ⟨s, 5, none⟩ = some S.sv := h.cells.cell 5
  obtain ⟨pv, cv, hsv⟩ := ownsRow_slice h.segs.1
  have Hsv := Lib.hid hsv
  rw [hsv] at c4
  have hlb : segs.length < 9223372036854775807 := by omega
  clear h hs hsg hd hBd hFG hFlt hdn hsv
  go_enter Tryz.func38, Tryz.ntmps38
  go_wp2
  go_loopg [17] segs.length (fun gk i wr => ∃ k : Nat, k ≤ segs.length ∧ gk = segs.length - k ∧ i = .int .i64 k ∧ Step S.d dn F w (Bd + 32 * k) wr)
  case atStart => exact ⟨0, by omega, by omega, rfl, Step.refl Hd.out⟩
  case round =>
    obtain ⟨k, hk, hgk, rfl, hst⟩ := hrel
    have Hgk := Lib.hid hgk
    have HSt := Lib.hid hst
    clear hgk hst
    by_cases hlt : k < segs.length
    · obtain ⟨y, hy⟩ : ∃ y, segs[k]? = some y := ⟨_, List.getElem?_eq_getElem hlt⟩
      have Hy := Lib.hid hy
      have hyr := Hsg.out y (List.mem_of_getElem? hy)
      have HSr := Lib.hid (HS.out.keep HSt.out.keep (fun k hg hf => HFG.out.1 k hf hg))
      have s2 : wr.cell? ⟨s, 2, none⟩ = some (.int .i64 32) := HSr.out.cells.cell 2
      obtain ⟨pb, po, pc, hpb, hpv, hpc, hcell⟩ := (IntsAt.of_own HSr.out.segs.1 rfl).cells (by intro e; rw [e] at hlt; simp at hlt)
      rw [Hsv.out] at hpv
      simp only [Value.slice.injEq] at hpv
      obtain ⟨rfl, _, rfl⟩ := hpv
      have cy : wr.cell? ⟨pb, po + k, none⟩ = some (.int .i64 y) := hcell k y hy
      clear hy hcell hpb hpc
      go_wp2
      clear s2 cy
      go_loopg [26] 32 (fun gj i wj => ∃ j : Nat, j ≤ 32 ∧ gj = 32 - j ∧ i = .int .i64 j ∧ Step S.d dn F w (Bd + 32 * k + j) wj)
      case atStart => exact ⟨0, by omega, by omega, rfl, HSt.out⟩
      case round =>
        obtain ⟨j, hj, hgj, rfl, hst2⟩ := hrel
        have Hgj := Lib.hid hgj
        have HSt2 := Lib.hid hst2
        clear hgj hst2
        by_cases hlt2 : j < 32
        · have HSj := Lib.hid (HS.out.keep HSt2.out.keep (fun k hg hf => HFG.out.1 k hf hg))
          obtain ⟨F1, hd1, hF1, hk1⟩ := HSt2.out
          have Hd1 := Lib.hid hd1
          have HF1 := Lib.hid hF1
          have Hk1 := Lib.hid hk1
          have a0 : wr.cell? ⟨s, 0, none⟩ = some (.pointer (some ⟨S.d, 0, none⟩)) := HSj.out.cells.cell 0
          have hw1 : IntKind.i64.wrap (48 + y * 32 + (j : Int)) = 48 + y * 32 + j := by rw [IntKind.wrap_i64]; omega
          have hi0 : 0 ≤ 48 + y * 32 + (j : Int) := by omega
          have hi1 : 48 + y * 32 + (j : Int) < dn := by have := Hs.out.1; have := Hs.out.2; omega
          have Hi := Lib.hid (And.intro hi0 hi1)
          clear hd1 hF1 hk1 hi0 hi1
          go_wp2_with (first
            | (refine wpList_loadIn rfl 25 _ rfl s 1 rfl 92 _ HSj.out.cells [.int .i64 S.sct, .int .i64 32] rfl _ rfl hu25 (size25 _ _) ?_)
            | (go_at_call 55; refine (start_ok S.sct y n _ Hs.out.1 hn0 hn1 hyr.1 hyr.2).mono ?_; rintro e w5 ⟨rfl, hb⟩; have HB5 := Lib.hid hb; have a0' : w5.cell? ⟨s, 0, none⟩ = some (.pointer (some ⟨S.d, 0, none⟩)) := Below.keepCell hb a0; clear hb)
            | (go_at_call 60; refine (read_any S.d dn _ F1 _ _ (Hd1.out.below HB5.out) Hi.out.1 Hi.out.2 (by have := Hs.out.1; have := Hs.out.2; omega) (by have := Hbd.out; omega)).mono ?_; rintro e w6 ⟨s6, hs6, rfl, hb⟩; have HB6 := Lib.hid (HB5.out.trans (hb.mono HB5.out.size)); clear hb a0')
            | (go_at_call 61; refine (hget_any s6 _ hs6).mono ?_; rintro e w7 ⟨n0, n1, n2, n3, n4, n5, n6, n7, x, lp, lm, lc, r, rfl, hb⟩; have HB7 := Lib.hid (HB6.out.trans (hb.mono HB6.out.size)); clear hb)
            | (refine wpList_allocAt rfl 126 rfl (headV 0 0 0) zero126 ?_; intro w8 hz hk hs; have HZ8 := Lib.hid hz; have HK8 := Lib.hid hk; have Hs8 := Lib.hid hs; clear hz hk hs)
            | (refine wpList_storeRow rfl 126 _ _ rfl rfl w7.heap.size (headA n0 n1 n2 n3 n4 n5 n6 n7 (.slice lp lm lc)) (headV 0 0 0) _ rfl rfl HZ8.out rfl size126 (oneA _ _ _ _ _ _ _ _ _ _ _) ?_; intro w9 hA9 hk9 hs9))
          have b9 : Below wr.heap.size wr w9 := (HB7.out.trans (HK8.out.below.mono HB7.out.size)).trans (hk9.belowOf (by have := HB7.out.size; have := Hs8.out; omega) (by intro c hc e; have := HB7.out.size; omega))
          have HB9 := Lib.hid b9
          have HA9 := Lib.hid hA9
          have Hz7 := Lib.hid HB7.out.size
          clear hk9 hs9 HZ8 HK8 Hs8 b9 hA9 a0
          go_cut [84] (fun u84 w' => u84 = .bool false ∧ Step S.d dn F1 w9 (Bd + 32 * k + j + 1) w')
          case first =>
            have t0 : w9.cell? ⟨w7.heap.size, 0, none⟩ = some (.int .i64 n0) := HA9.out.cell 0
            have t1 : w9.cell? ⟨w7.heap.size, 1, none⟩ = some (.int .i64 n1) := HA9.out.cell 1
            have hS9 := Lib.hid (HSj.out.below HB9.out)
            have a0 : w9.cell? ⟨s, 0, none⟩ = some (.pointer (some ⟨S.d, 0, none⟩)) := hS9.out.cells.cell 0
            have a3 : w9.cell? ⟨s, 3, none⟩ = some (.int .i64 S.h) := hS9.out.cells.cell 3
            have a4 : w9.cell? ⟨s, 4, none⟩ = some (.int .i64 S.g) := hS9.out.cells.cell 4
            have hD9 := Hd1.out.below HB9.out
            have nFh : ¬ F1 w7.heap.size := fun e => by have := Hd1.out.lt _ e; have := Hz7.out; omega
            have nFs : ¬ F1 s := fun e => by
              rcases HF1.out s e with e | e
              · exact HFG.out.1 s e HS.out.gs
              · have := HS.out.lt s HS.out.gs; omega
            cases r with
            | false =>
              (try simp only [Act.put, List.setIfInBounds_toArray, List.set_cons_zero, List.set_cons_succ])
              refine wp_region_noPanic ?_
              refine T_region 32 (fun w' => w'.cell? ⟨w7.heap.size, 0, none⟩ = some (.int .i64 n0) ∧ w'.cell? ⟨w7.heap.size, 1, none⟩ = some (.int .i64 n1) ∧ w'.cell? ⟨s, 0, none⟩ = some (.pointer (some ⟨S.d, 0, none⟩)) ∧ w'.cell? ⟨s, 3, none⟩ = some (.int .i64 S.h) ∧ w'.cell? ⟨s, 4, none⟩ = some (.int .i64 S.g)) (by kernel_rfl) (by kernel_rfl) (by kernel_rfl) (by decide) (by kernel_rfl) ⟨t0, t1, a0, a3, a4⟩ (fun hHeld hU => ?_)
              refine T_take (i := 0) hU 52 ?_ rfl rfl (by decide) (by kernel_rfl) (by kernel_rfl) (fun _ _ _ h => h) (Or.inl ⟨by rfl, ?_⟩) hHeld ?_; rotate_left; (intro w hSw; (try dsimp only at hSw); go_simp); (try with_reducible rfl); clear hU; intro hU; (try simp only [Act.put, List.setIfInBounds_toArray, List.set_cons_zero, List.set_cons_succ])
              refine T_take (i := 1) hU 53 ?_ rfl rfl (by decide) (by kernel_rfl) (by kernel_rfl) (fun _ _ _ h => h) (Or.inl ⟨by rfl, ?_⟩) hHeld ?_; rotate_left; (intro w hSw; (try dsimp only at hSw); go_simp); (try with_reducible rfl); clear hU; intro hU; (try simp only [Act.put, List.setIfInBounds_toArray, List.set_cons_zero, List.set_cons_succ])
              refine T_take (i := 2) hU 54 undef rfl rfl (by decide) (by kernel_rfl) (by kernel_rfl) (fun _ _ _ h => h) (Or.inr ⟨by rfl, rfl⟩) hHeld ?_; clear hU; intro hU; (try simp only [Act.put, List.setIfInBounds_toArray, List.set_cons_zero, List.set_cons_succ])
              refine T_take (i := 3) hU 55 undef rfl rfl (by decide) (by kernel_rfl) (by kernel_rfl) (fun _ _ _ h => h) (Or.inr ⟨by rfl, rfl⟩) hHeld ?_; clear hU; intro hU; (try simp only [Act.put, List.setIfInBounds_toArray, List.set_cons_zero, List.set_cons_succ])
              refine T_take (i := 4) hU 56 undef rfl rfl (by decide) (by kernel_rfl) (by kernel_rfl) (fun _ _ _ h => h) (Or.inr ⟨by rfl, rfl⟩) hHeld ?_; clear hU; intro hU; (try simp only [Act.put, List.setIfInBounds_toArray, List.set_cons_zero, List.set_cons_succ])
              refine T_take (i := 5) hU 57 undef rfl rfl (by decide) (by kernel_rfl) (by kernel_rfl) (fun _ _ _ h => h) (Or.inr ⟨by rfl, rfl⟩) hHeld ?_; clear hU; intro hU; (try simp only [Act.put, List.setIfInBounds_toArray, List.set_cons_zero, List.set_cons_succ])
              refine T_take (i := 6) hU 58 undef rfl rfl (by decide) (by kernel_rfl) (by kernel_rfl) (fun _ _ _ h => h) (Or.inr ⟨by rfl, rfl⟩) hHeld ?_; clear hU; intro hU; (try simp only [Act.put, List.setIfInBounds_toArray, List.set_cons_zero, List.set_cons_succ])
              refine T_take (i := 7) hU 59 undef rfl rfl (by decide) (by kernel_rfl) (by kernel_rfl) (fun _ _ _ h => h) (Or.inr ⟨by rfl, rfl⟩) hHeld ?_; clear hU; intro hU; (try simp only [Act.put, List.setIfInBounds_toArray, List.set_cons_zero, List.set_cons_succ])
              refine T_take (i := 8) hU 60 undef rfl rfl (by decide) (by kernel_rfl) (by kernel_rfl) (fun _ _ _ h => h) (Or.inr ⟨by rfl, rfl⟩) hHeld ?_; clear hU; intro hU; (try simp only [Act.put, List.setIfInBounds_toArray, List.set_cons_zero, List.set_cons_succ])
              refine T_take (i := 9) hU 61 ?_ rfl rfl (by decide) (by kernel_rfl) (by kernel_rfl) (fun _ _ _ h => h) (Or.inl ⟨by rfl, ?_⟩) hHeld ?_; rotate_left; (intro w hSw; (try dsimp only at hSw); go_simp); (try with_reducible rfl); clear hU; intro hU; (try simp only [Act.put, List.setIfInBounds_toArray, List.set_cons_zero, List.set_cons_succ])
              refine T_take (i := 10) hU 62 ?_ rfl rfl (by decide) (by kernel_rfl) (by kernel_rfl) (fun _ _ _ h => h) (Or.inl ⟨by rfl, ?_⟩) hHeld ?_; rotate_left; (intro w hSw; (try dsimp only at hSw); go_simp); (try with_reducible rfl); clear hU; intro hU; (try simp only [Act.put, List.setIfInBounds_toArray, List.set_cons_zero, List.set_cons_succ])
              refine T_take (i := 11) hU 63 undef rfl rfl (by decide) (by kernel_rfl) (by kernel_rfl) (fun _ _ _ h => h) (Or.inr ⟨by rfl, rfl⟩) hHeld ?_; clear hU; intro hU; (try simp only [Act.put, List.setIfInBounds_toArray, List.set_cons_zero, List.set_cons_succ])
              refine T_take (i := 12) hU 64 undef rfl rfl (by decide) (by kernel_rfl) (by kernel_rfl) (fun _ _ _ h => h) (Or.inr ⟨by rfl, rfl⟩) hHeld ?_; clear hU; intro hU; (try simp only [Act.put, List.setIfInBounds_toArray, List.set_cons_zero, List.set_cons_succ])
              refine T_take (i := 13) hU 65 undef rfl rfl (by decide) (by kernel_rfl) (by kernel_rfl) (fun _ _ _ h => h) (Or.inr ⟨by rfl, rfl⟩) hHeld ?_; clear hU; intro hU; (try simp only [Act.put, List.setIfInBounds_toArray, List.set_cons_zero, List.set_cons_succ])
              refine T_take (i := 14) hU 66 undef rfl rfl (by decide) (by kernel_rfl) (by kernel_rfl) (fun _ _ _ h => h) (Or.inr ⟨by rfl, rfl⟩) hHeld ?_; clear hU; intro hU; (try simp only [Act.put, List.setIfInBounds_toArray, List.set_cons_zero, List.set_cons_succ])
              refine T_take (i := 15) hU 67 undef rfl rfl (by decide) (by kernel_rfl) (by kernel_rfl) (fun _ _ _ h => h) (Or.inr ⟨by rfl, rfl⟩) hHeld ?_; clear hU; intro hU; (try simp only [Act.put, List.setIfInBounds_toArray, List.set_cons_zero, List.set_cons_succ])
              refine T_take (i := 16) hU 68 undef rfl rfl (by decide) (by kernel_rfl) (by kernel_rfl) (fun _ _ _ h => h) (Or.inr ⟨by rfl, rfl⟩) hHeld ?_; clear hU; intro hU; (try simp only [Act.put, List.setIfInBounds_toArray, List.set_cons_zero, List.set_cons_succ])
              refine T_take (i := 17) hU 69 undef rfl rfl (by decide) (by kernel_rfl) (by kernel_rfl) (fun _ _ _ h => h) (Or.inr ⟨by rfl, rfl⟩) hHeld ?_; clear hU; intro hU; (try simp only [Act.put, List.setIfInBounds_toArray, List.set_cons_zero, List.set_cons_succ])
              refine T_take (i := 18) hU 70 ?_ rfl rfl (by decide) (by kernel_rfl) (by kernel_rfl) (fun _ _ _ h => h) (Or.inl ⟨by rfl, ?_⟩) hHeld ?_; rotate_left; (intro w hSw; (try dsimp only at hSw); go_simp); (try with_reducible rfl); clear hU; intro hU; (try simp only [Act.put, List.setIfInBounds_toArray, List.set_cons_zero, List.set_cons_succ])
              refine T_take (i := 19) hU 71 ?_ rfl rfl (by decide) (by kernel_rfl) (by kernel_rfl) (fun _ _ _ h => h) (Or.inl ⟨by rfl, ?_⟩) hHeld ?_; rotate_left; (intro w hSw; (try dsimp only at hSw); go_simp); (try with_reducible rfl); clear hU; intro hU; (try simp only [Act.put, List.setIfInBounds_toArray, List.set_cons_zero, List.set_cons_succ])
              refine T_take (i := 20) hU 72 undef rfl rfl (by decide) (by kernel_rfl) (by kernel_rfl) (fun _ _ _ h => h) (Or.inr ⟨by rfl, rfl⟩) hHeld ?_; clear hU; intro hU; (try simp only [Act.put, List.setIfInBounds_toArray, List.set_cons_zero, List.set_cons_succ])
              refine T_take (i := 21) hU 73 undef rfl rfl (by decide) (by kernel_rfl) (by kernel_rfl) (fun _ _ _ h => h) (Or.inr ⟨by rfl, rfl⟩) hHeld ?_; clear hU; intro hU; (try simp only [Act.put, List.setIfInBounds_toArray, List.set_cons_zero, List.set_cons_succ])
              refine T_take (i := 22) hU 74 undef rfl rfl (by decide) (by kernel_rfl) (by kernel_rfl) (fun _ _ _ h => h) (Or.inr ⟨by rfl, rfl⟩) hHeld ?_; clear hU; intro hU; (try simp only [Act.put, List.setIfInBounds_toArray, List.set_cons_zero, List.set_cons_succ])
              refine T_take (i := 23) hU 75 undef rfl rfl (by decide) (by kernel_rfl) (by kernel_rfl) (fun _ _ _ h => h) (Or.inr ⟨by rfl, rfl⟩) hHeld ?_; clear hU; intro hU; (try simp only [Act.put, List.setIfInBounds_toArray, List.set_cons_zero, List.set_cons_succ])
              refine T_take (i := 24) hU 76 undef rfl rfl (by decide) (by kernel_rfl) (by kernel_rfl) (fun _ _ _ h => h) (Or.inr ⟨by rfl, rfl⟩) hHeld ?_; clear hU; intro hU; (try simp only [Act.put, List.setIfInBounds_toArray, List.set_cons_zero, List.set_cons_succ])
              refine T_take (i := 25) hU 77 undef rfl rfl (by decide) (by kernel_rfl) (by kernel_rfl) (fun _ _ _ h => h) (Or.inr ⟨by rfl, rfl⟩) hHeld ?_; clear hU; intro hU; (try simp only [Act.put, List.setIfInBounds_toArray, List.set_cons_zero, List.set_cons_succ])
              refine T_take (i := 26) hU 78 undef rfl rfl (by decide) (by kernel_rfl) (by kernel_rfl) (fun _ _ _ h => h) (Or.inr ⟨by rfl, rfl⟩) hHeld ?_; clear hU; intro hU; (try simp only [Act.put, List.setIfInBounds_toArray, List.set_cons_zero, List.set_cons_succ])
              refine T_take (i := 27) hU 79 undef rfl rfl (by decide) (by kernel_rfl) (by kernel_rfl) (fun _ _ _ h => h) (Or.inr ⟨by rfl, rfl⟩) hHeld ?_; clear hU; intro hU; (try simp only [Act.put, List.setIfInBounds_toArray, List.set_cons_zero, List.set_cons_succ])
              refine T_take (i := 28) hU 80 undef rfl rfl (by decide) (by kernel_rfl) (by kernel_rfl) (fun _ _ _ h => h) (Or.inr ⟨by rfl, rfl⟩) hHeld ?_; clear hU; intro hU; (try simp only [Act.put, List.setIfInBounds_toArray, List.set_cons_zero, List.set_cons_succ])
              refine T_take (i := 29) hU 81 undef rfl rfl (by decide) (by kernel_rfl) (by kernel_rfl) (fun _ _ _ h => h) (Or.inr ⟨by rfl, rfl⟩) hHeld ?_; clear hU; intro hU; (try simp only [Act.put, List.setIfInBounds_toArray, List.set_cons_zero, List.set_cons_succ])
              refine T_take (i := 30) hU 82 undef rfl rfl (by decide) (by kernel_rfl) (by kernel_rfl) (fun _ _ _ h => h) (Or.inr ⟨by rfl, rfl⟩) hHeld ?_; clear hU; intro hU; (try simp only [Act.put, List.setIfInBounds_toArray, List.set_cons_zero, List.set_cons_succ])
              refine T_take (i := 31) hU 83 undef rfl rfl (by decide) (by kernel_rfl) (by kernel_rfl) (fun _ _ _ h => h) (Or.inr ⟨by rfl, rfl⟩) hHeld ?_; clear hU; intro hU; (try simp only [Act.put, List.setIfInBounds_toArray, List.set_cons_zero, List.set_cons_succ])
              refine T_last (N := 32) rfl (by kernel_rfl) (by kernel_rfl) (fun K hK => ?_); clear hU hHeld
              go_simp
              refine hK.out _ _ (NoPanic.normal ?_); clear hK K
              go_wp2_with fail
              go_meet
              exact ⟨rfl, (Step.of_below hD9 (World.drew_below0 w9)).mono (by omega)⟩
            | true =>
              cases hq0 : (n0 == S.h) with
              | false =>
                (try simp only [Act.put, List.setIfInBounds_toArray, List.set_cons_zero, List.set_cons_succ])
                refine wp_region_noPanic ?_
                refine T_region 32 (fun w' => w'.cell? ⟨w7.heap.size, 0, none⟩ = some (.int .i64 n0) ∧ w'.cell? ⟨w7.heap.size, 1, none⟩ = some (.int .i64 n1) ∧ w'.cell? ⟨s, 0, none⟩ = some (.pointer (some ⟨S.d, 0, none⟩)) ∧ w'.cell? ⟨s, 3, none⟩ = some (.int .i64 S.h) ∧ w'.cell? ⟨s, 4, none⟩ = some (.int .i64 S.g)) (by kernel_rfl) (by kernel_rfl) (by kernel_rfl) (by decide) (by kernel_rfl) ⟨t0, t1, a0, a3, a4⟩ (fun hHeld hU => ?_)
                refine T_take (i := 0) hU 52 ?_ rfl rfl (by decide) (by kernel_rfl) (by kernel_rfl) (fun _ _ _ h => h) (Or.inl ⟨by rfl, ?_⟩) hHeld ?_; rotate_left; (intro w hSw; (try dsimp only at hSw); go_simp); (try with_reducible rfl); clear hU; intro hU; (try simp only [Act.put, List.setIfInBounds_toArray, List.set_cons_zero, List.set_cons_succ])
                refine T_take (i := 1) hU 53 ?_ rfl rfl (by decide) (by kernel_rfl) (by kernel_rfl) (fun _ _ _ h => h) (Or.inl ⟨by rfl, ?_⟩) hHeld ?_; rotate_left; (intro w hSw; (try dsimp only at hSw); go_simp); (try with_reducible rfl); clear hU; intro hU; (try simp only [Act.put, List.setIfInBounds_toArray, List.set_cons_zero, List.set_cons_succ])
                refine T_take (i := 2) hU 54 ?_ rfl rfl (by decide) (by kernel_rfl) (by kernel_rfl) (fun _ _ _ h => h) (Or.inl ⟨by rfl, ?_⟩) hHeld ?_; rotate_left; (intro w hSw; (try dsimp only at hSw); go_simp); (try with_reducible rfl); clear hU; intro hU; (try simp only [Act.put, List.setIfInBounds_toArray, List.set_cons_zero, List.set_cons_succ])
                refine T_take (i := 3) hU 55 ?_ rfl rfl (by decide) (by kernel_rfl) (by kernel_rfl) (fun _ _ _ h => h) (Or.inl ⟨by rfl, ?_⟩) hHeld ?_; rotate_left; (intro w hSw; (try dsimp only at hSw); go_simp); (try with_reducible rfl); clear hU; intro hU; (try simp only [Act.put, List.setIfInBounds_toArray, List.set_cons_zero, List.set_cons_succ])
                refine T_take (i := 4) hU 56 ?_ rfl rfl (by decide) (by kernel_rfl) (by kernel_rfl) (fun _ _ _ h => h) (Or.inl ⟨by rfl, ?_⟩) hHeld ?_; rotate_left; (intro w hSw; (try dsimp only at hSw); go_simp); (try with_reducible rfl); clear hU; intro hU; (try simp only [Act.put, List.setIfInBounds_toArray, List.set_cons_zero, List.set_cons_succ])
                refine T_take (i := 5) hU 57 ?_ rfl rfl (by decide) (by kernel_rfl) (by kernel_rfl) (fun _ _ _ h => h) (Or.inl ⟨by rfl, ?_⟩) hHeld ?_; rotate_left; (intro w hSw; (try dsimp only at hSw); go_simp); (try with_reducible rfl); clear hU; intro hU; (try simp only [Act.put, List.setIfInBounds_toArray, List.set_cons_zero, List.set_cons_succ])
                refine T_take (i := 6) hU 58 ?_ rfl rfl (by decide) (by kernel_rfl) (by kernel_rfl) (fun _ _ _ h => h) (Or.inl ⟨by rfl, ?_⟩) hHeld ?_; rotate_left; (intro w hSw; (try dsimp only at hSw); go_simp); (try with_reducible rfl); clear hU; intro hU; (try simp only [Act.put, List.setIfInBounds_toArray, List.set_cons_zero, List.set_cons_succ])
                refine T_take (i := 7) hU 59 ?_ rfl rfl (by decide) (by kernel_rfl) (by kernel_rfl) (fun _ _ _ h => h) (Or.inl ⟨by rfl, ?_⟩) hHeld ?_; rotate_left; (intro w hSw; (try dsimp only at hSw); go_simp); (try with_reducible rfl); clear hU; intro hU; (try simp only [Act.put, List.setIfInBounds_toArray, List.set_cons_zero, List.set_cons_succ])
                refine T_take (i := 8) hU 60 ?_ rfl rfl (by decide) (by kernel_rfl) (by kernel_rfl) (fun _ _ _ h => h) (Or.inl ⟨by rfl, ?_⟩) hHeld ?_; rotate_left; (intro w hSw; (try dsimp only at hSw); go_simp); (try with_reducible rfl); clear hU; intro hU; (try simp only [Act.put, List.setIfInBounds_toArray, List.set_cons_zero, List.set_cons_succ])
                refine T_take (i := 9) hU 61 ?_ rfl rfl (by decide) (by kernel_rfl) (by kernel_rfl) (fun _ _ _ h => h) (Or.inl ⟨by rfl, ?_⟩) hHeld ?_; rotate_left; (intro w hSw; (try dsimp only at hSw); go_simp); (try with_reducible rfl); clear hU; intro hU; (try simp only [Act.put, List.setIfInBounds_toArray, List.set_cons_zero, List.set_cons_succ])
                refine T_take (i := 10) hU 62 ?_ rfl rfl (by decide) (by kernel_rfl) (by kernel_rfl) (fun _ _ _ h => h) (Or.inl ⟨by rfl, ?_⟩) hHeld ?_; rotate_left; (intro w hSw; (try dsimp only at hSw); go_simp); (try with_reducible rfl); clear hU; intro hU; (try simp only [Act.put, List.setIfInBounds_toArray, List.set_cons_zero, List.set_cons_succ])
                refine T_take (i := 11) hU 63 undef rfl rfl (by decide) (by kernel_rfl) (by kernel_rfl) (fun _ _ _ h => h) (Or.inr ⟨by rfl, rfl⟩) hHeld ?_; clear hU; intro hU; (try simp only [Act.put, List.setIfInBounds_toArray, List.set_cons_zero, List.set_cons_succ])
                refine T_take (i := 12) hU 64 undef rfl rfl (by decide) (by kernel_rfl) (by kernel_rfl) (fun _ _ _ h => h) (Or.inr ⟨by rfl, rfl⟩) hHeld ?_; clear hU; intro hU; (try simp only [Act.put, List.setIfInBounds_toArray, List.set_cons_zero, List.set_cons_succ])
                refine T_take (i := 13) hU 65 undef rfl rfl (by decide) (by kernel_rfl) (by kernel_rfl) (fun _ _ _ h => h) (Or.inr ⟨by rfl, rfl⟩) hHeld ?_; clear hU; intro hU; (try simp only [Act.put, List.setIfInBounds_toArray, List.set_cons_zero, List.set_cons_succ])
                refine T_take (i := 14) hU 66 undef rfl rfl (by decide) (by kernel_rfl) (by kernel_rfl) (fun _ _ _ h => h) (Or.inr ⟨by rfl, rfl⟩) hHeld ?_; clear hU; intro hU; (try simp only [Act.put, List.setIfInBounds_toArray, List.set_cons_zero, List.set_cons_succ])
                refine T_take (i := 15) hU 67 undef rfl rfl (by decide) (by kernel_rfl) (by kernel_rfl) (fun _ _ _ h => h) (Or.inr ⟨by rfl, rfl⟩) hHeld ?_; clear hU; intro hU; (try simp only [Act.put, List.setIfInBounds_toArray, List.set_cons_zero, List.set_cons_succ])
                refine T_take (i := 16) hU 68 undef rfl rfl (by decide) (by kernel_rfl) (by kernel_rfl) (fun _ _ _ h => h) (Or.inr ⟨by rfl, rfl⟩) hHeld ?_; clear hU; intro hU; (try simp only [Act.put, List.setIfInBounds_toArray, List.set_cons_zero, List.set_cons_succ])
                refine T_take (i := 17) hU 69 undef rfl rfl (by decide) (by kernel_rfl) (by kernel_rfl) (fun _ _ _ h => h) (Or.inr ⟨by rfl, rfl⟩) hHeld ?_; clear hU; intro hU; (try simp only [Act.put, List.setIfInBounds_toArray, List.set_cons_zero, List.set_cons_succ])
                refine T_take (i := 18) hU 70 ?_ rfl rfl (by decide) (by kernel_rfl) (by kernel_rfl) (fun _ _ _ h => h) (Or.inl ⟨by rfl, ?_⟩) hHeld ?_; rotate_left; (intro w hSw; (try dsimp only at hSw); go_simp); (try with_reducible rfl); clear hU; intro hU; (try simp only [Act.put, List.setIfInBounds_toArray, List.set_cons_zero, List.set_cons_succ])
                refine T_take (i := 19) hU 71 ?_ rfl rfl (by decide) (by kernel_rfl) (by kernel_rfl) (fun _ _ _ h => h) (Or.inl ⟨by rfl, ?_⟩) hHeld ?_; rotate_left; (intro w hSw; (try dsimp only at hSw); go_simp); (try with_reducible rfl); clear hU; intro hU; (try simp only [Act.put, List.setIfInBounds_toArray, List.set_cons_zero, List.set_cons_succ])
                refine T_take (i := 20) hU 72 undef rfl rfl (by decide) (by kernel_rfl) (by kernel_rfl) (fun _ _ _ h => h) (Or.inr ⟨by rfl, rfl⟩) hHeld ?_; clear hU; intro hU; (try simp only [Act.put, List.setIfInBounds_toArray, List.set_cons_zero, List.set_cons_succ])
                refine T_take (i := 21) hU 73 undef rfl rfl (by decide) (by kernel_rfl) (by kernel_rfl) (fun _ _ _ h => h) (Or.inr ⟨by rfl, rfl⟩) hHeld ?_; clear hU; intro hU; (try simp only [Act.put, List.setIfInBounds_toArray, List.set_cons_zero, List.set_cons_succ])
                refine T_take (i := 22) hU 74 undef rfl rfl (by decide) (by kernel_rfl) (by kernel_rfl) (fun _ _ _ h => h) (Or.inr ⟨by rfl, rfl⟩) hHeld ?_; clear hU; intro hU; (try simp only [Act.put, List.setIfInBounds_toArray, List.set_cons_zero, List.set_cons_succ])
                refine T_take (i := 23) hU 75 undef rfl rfl (by decide) (by kernel_rfl) (by kernel_rfl) (fun _ _ _ h => h) (Or.inr ⟨by rfl, rfl⟩) hHeld ?_; clear hU; intro hU; (try simp only [Act.put, List.setIfInBounds_toArray, List.set_cons_zero, List.set_cons_succ])
                refine T_take (i := 24) hU 76 undef rfl rfl (by decide) (by kernel_rfl) (by kernel_rfl) (fun _ _ _ h => h) (Or.inr ⟨by rfl, rfl⟩) hHeld ?_; clear hU; intro hU; (try simp only [Act.put, List.setIfInBounds_toArray, List.set_cons_zero, List.set_cons_succ])
                refine T_take (i := 25) hU 77 undef rfl rfl (by decide) (by kernel_rfl) (by kernel_rfl) (fun _ _ _ h => h) (Or.inr ⟨by rfl, rfl⟩) hHeld ?_; clear hU; intro hU; (try simp only [Act.put, List.setIfInBounds_toArray, List.set_cons_zero, List.set_cons_succ])
                refine T_take (i := 26) hU 78 undef rfl rfl (by decide) (by kernel_rfl) (by kernel_rfl) (fun _ _ _ h => h) (Or.inr ⟨by rfl, rfl⟩) hHeld ?_; clear hU; intro hU; (try simp only [Act.put, List.setIfInBounds_toArray, List.set_cons_zero, List.set_cons_succ])
                refine T_take (i := 27) hU 79 undef rfl rfl (by decide) (by kernel_rfl) (by kernel_rfl) (fun _ _ _ h => h) (Or.inr ⟨by rfl, rfl⟩) hHeld ?_; clear hU; intro hU; (try simp only [Act.put, List.setIfInBounds_toArray, List.set_cons_zero, List.set_cons_succ])
                refine T_take (i := 28) hU 80 undef rfl rfl (by decide) (by kernel_rfl) (by kernel_rfl) (fun _ _ _ h => h) (Or.inr ⟨by rfl, rfl⟩) hHeld ?_; clear hU; intro hU; (try simp only [Act.put, List.setIfInBounds_toArray, List.set_cons_zero, List.set_cons_succ])
                refine T_take (i := 29) hU 81 undef rfl rfl (by decide) (by kernel_rfl) (by kernel_rfl) (fun _ _ _ h => h) (Or.inr ⟨by rfl, rfl⟩) hHeld ?_; clear hU; intro hU; (try simp only [Act.put, List.setIfInBounds_toArray, List.set_cons_zero, List.set_cons_succ])
                refine T_take (i := 30) hU 82 undef rfl rfl (by decide) (by kernel_rfl) (by kernel_rfl) (fun _ _ _ h => h) (Or.inr ⟨by rfl, rfl⟩) hHeld ?_; clear hU; intro hU; (try simp only [Act.put, List.setIfInBounds_toArray, List.set_cons_zero, List.set_cons_succ])
                refine T_take (i := 31) hU 83 undef rfl rfl (by decide) (by kernel_rfl) (by kernel_rfl) (fun _ _ _ h => h) (Or.inr ⟨by rfl, rfl⟩) hHeld ?_; clear hU; intro hU; (try simp only [Act.put, List.setIfInBounds_toArray, List.set_cons_zero, List.set_cons_succ])
                refine T_last (N := 32) rfl (by kernel_rfl) (by kernel_rfl) (fun K hK => ?_); clear hU hHeld
                go_simp
                refine hK.out _ _ (NoPanic.normal ?_); clear hK K
                go_wp2_with fail
                go_meet
                exact ⟨rfl, (Step.of_below hD9 (World.drew_below0 w9)).mono (by omega)⟩
              | true =>
                cases hq1 : (n1 == S.g) with
                | false =>
                  (try simp only [Act.put, List.setIfInBounds_toArray, List.set_cons_zero, List.set_cons_succ])
                  refine wp_region_noPanic ?_
                  refine T_region 32 (fun w' => w'.cell? ⟨w7.heap.size, 0, none⟩ = some (.int .i64 n0) ∧ w'.cell? ⟨w7.heap.size, 1, none⟩ = some (.int .i64 n1) ∧ w'.cell? ⟨s, 0, none⟩ = some (.pointer (some ⟨S.d, 0, none⟩)) ∧ w'.cell? ⟨s, 3, none⟩ = some (.int .i64 S.h) ∧ w'.cell? ⟨s, 4, none⟩ = some (.int .i64 S.g)) (by kernel_rfl) (by kernel_rfl) (by kernel_rfl) (by decide) (by kernel_rfl) ⟨t0, t1, a0, a3, a4⟩ (fun hHeld hU => ?_)
                  refine T_take (i := 0) hU 52 ?_ rfl rfl (by decide) (by kernel_rfl) (by kernel_rfl) (fun _ _ _ h => h) (Or.inl ⟨by rfl, ?_⟩) hHeld ?_; rotate_left; (intro w hSw; (try dsimp only at hSw); go_simp); (try with_reducible rfl); clear hU; intro hU; (try simp only [Act.put, List.setIfInBounds_toArray, List.set_cons_zero, List.set_cons_succ])
                  refine T_take (i := 1) hU 53 ?_ rfl rfl (by decide) (by kernel_rfl) (by kernel_rfl) (fun _ _ _ h => h) (Or.inl ⟨by rfl, ?_⟩) hHeld ?_; rotate_left; (intro w hSw; (try dsimp only at hSw); go_simp); (try with_reducible rfl); clear hU; intro hU; (try simp only [Act.put, List.setIfInBounds_toArray, List.set_cons_zero, List.set_cons_succ])
                  refine T_take (i := 2) hU 54 ?_ rfl rfl (by decide) (by kernel_rfl) (by kernel_rfl) (fun _ _ _ h => h) (Or.inl ⟨by rfl, ?_⟩) hHeld ?_; rotate_left; (intro w hSw; (try dsimp only at hSw); go_simp); (try with_reducible rfl); clear hU; intro hU; (try simp only [Act.put, List.setIfInBounds_toArray, List.set_cons_zero, List.set_cons_succ])
                  refine T_take (i := 3) hU 55 ?_ rfl rfl (by decide) (by kernel_rfl) (by kernel_rfl) (fun _ _ _ h => h) (Or.inl ⟨by rfl, ?_⟩) hHeld ?_; rotate_left; (intro w hSw; (try dsimp only at hSw); go_simp); (try with_reducible rfl); clear hU; intro hU; (try simp only [Act.put, List.setIfInBounds_toArray, List.set_cons_zero, List.set_cons_succ])
                  refine T_take (i := 4) hU 56 ?_ rfl rfl (by decide) (by kernel_rfl) (by kernel_rfl) (fun _ _ _ h => h) (Or.inl ⟨by rfl, ?_⟩) hHeld ?_; rotate_left; (intro w hSw; (try dsimp only at hSw); go_simp); (try with_reducible rfl); clear hU; intro hU; (try simp only [Act.put, List.setIfInBounds_toArray, List.set_cons_zero, List.set_cons_succ])
                  refine T_take (i := 5) hU 57 ?_ rfl rfl (by decide) (by kernel_rfl) (by kernel_rfl) (fun _ _ _ h => h) (Or.inl ⟨by rfl, ?_⟩) hHeld ?_; rotate_left; (intro w hSw; (try dsimp only at hSw); go_simp); (try with_reducible rfl); clear hU; intro hU; (try simp only [Act.put, List.setIfInBounds_toArray, List.set_cons_zero, List.set_cons_succ])
                  refine T_take (i := 6) hU 58 ?_ rfl rfl (by decide) (by kernel_rfl) (by kernel_rfl) (fun _ _ _ h => h) (Or.inl ⟨by rfl, ?_⟩) hHeld ?_; rotate_left; (intro w hSw; (try dsimp only at hSw); go_simp); (try with_reducible rfl); clear hU; intro hU; (try simp only [Act.put, List.setIfInBounds_toArray, List.set_cons_zero, List.set_cons_succ])
                  refine T_take (i := 7) hU 59 ?_ rfl rfl (by decide) (by kernel_rfl) (by kernel_rfl) (fun _ _ _ h => h) (Or.inl ⟨by rfl, ?_⟩) hHeld ?_; rotate_left; (intro w hSw; (try dsimp only at hSw); go_simp); (try with_reducible rfl); clear hU; intro hU; (try simp only [Act.put, List.setIfInBounds_toArray, List.set_cons_zero, List.set_cons_succ])
                  refine T_take (i := 8) hU 60 ?_ rfl rfl (by decide) (by kernel_rfl) (by kernel_rfl) (fun _ _ _ h => h) (Or.inl ⟨by rfl, ?_⟩) hHeld ?_; rotate_left; (intro w hSw; (try dsimp only at hSw); go_simp); (try with_reducible rfl); clear hU; intro hU; (try simp only [Act.put, List.setIfInBounds_toArray, List.set_cons_zero, List.set_cons_succ])
                  refine T_take (i := 9) hU 61 ?_ rfl rfl (by decide) (by kernel_rfl) (by kernel_rfl) (fun _ _ _ h => h) (Or.inl ⟨by rfl, ?_⟩) hHeld ?_; rotate_left; (intro w hSw; (try dsimp only at hSw); go_simp); (try with_reducible rfl); clear hU; intro hU; (try simp only [Act.put, List.setIfInBounds_toArray, List.set_cons_zero, List.set_cons_succ])
                  refine T_take (i := 10) hU 62 ?_ rfl rfl (by decide) (by kernel_rfl) (by kernel_rfl) (fun _ _ _ h => h) (Or.inl ⟨by rfl, ?_⟩) hHeld ?_; rotate_left; (intro w hSw; (try dsimp only at hSw); go_simp); (try with_reducible rfl); clear hU; intro hU; (try simp only [Act.put, List.setIfInBounds_toArray, List.set_cons_zero, List.set_cons_succ])
                  refine T_take (i := 11) hU 63 ?_ rfl rfl (by decide) (by kernel_rfl) (by kernel_rfl) (fun _ _ _ h => h) (Or.inl ⟨by rfl, ?_⟩) hHeld ?_; rotate_left; (intro w hSw; (try dsimp only at hSw); go_simp); (try with_reducible rfl); clear hU; intro hU; (try simp only [Act.put, List.setIfInBounds_toArray, List.set_cons_zero, List.set_cons_succ])
                  refine T_take (i := 12) hU 64 ?_ rfl rfl (by decide) (by kernel_rfl) (by kernel_rfl) (fun _ _ _ h => h) (Or.inl ⟨by rfl, ?_⟩) hHeld ?_; rotate_left; (intro w hSw; (try dsimp only at hSw); go_simp); (try with_reducible rfl); clear hU; intro hU; (try simp only [Act.put, List.setIfInBounds_toArray, List.set_cons_zero, List.set_cons_succ])
                  refine T_take (i := 13) hU 65 ?_ rfl rfl (by decide) (by kernel_rfl) (by kernel_rfl) (fun _ _ _ h => h) (Or.inl ⟨by rfl, ?_⟩) hHeld ?_; rotate_left; (intro w hSw; (try dsimp only at hSw); go_simp); (try with_reducible rfl); clear hU; intro hU; (try simp only [Act.put, List.setIfInBounds_toArray, List.set_cons_zero, List.set_cons_succ])
                  refine T_take (i := 14) hU 66 ?_ rfl rfl (by decide) (by kernel_rfl) (by kernel_rfl) (fun _ _ _ h => h) (Or.inl ⟨by rfl, ?_⟩) hHeld ?_; rotate_left; (intro w hSw; (try dsimp only at hSw); go_simp); (try with_reducible rfl); clear hU; intro hU; (try simp only [Act.put, List.setIfInBounds_toArray, List.set_cons_zero, List.set_cons_succ])
                  refine T_take (i := 15) hU 67 ?_ rfl rfl (by decide) (by kernel_rfl) (by kernel_rfl) (fun _ _ _ h => h) (Or.inl ⟨by rfl, ?_⟩) hHeld ?_; rotate_left; (intro w hSw; (try dsimp only at hSw); go_simp); (try with_reducible rfl); clear hU; intro hU; (try simp only [Act.put, List.setIfInBounds_toArray, List.set_cons_zero, List.set_cons_succ])
                  refine T_take (i := 16) hU 68 ?_ rfl rfl (by decide) (by kernel_rfl) (by kernel_rfl) (fun _ _ _ h => h) (Or.inl ⟨by rfl, ?_⟩) hHeld ?_; rotate_left; (intro w hSw; (try dsimp only at hSw); go_simp); (try with_reducible rfl); clear hU; intro hU; (try simp only [Act.put, List.setIfInBounds_toArray, List.set_cons_zero, List.set_cons_succ])
                  refine T_take (i := 17) hU 69 ?_ rfl rfl (by decide) (by kernel_rfl) (by kernel_rfl) (fun _ _ _ h => h) (Or.inl ⟨by rfl, ?_⟩) hHeld ?_; rotate_left; (intro w hSw; (try dsimp only at hSw); go_simp); (try with_reducible rfl); clear hU; intro hU; (try simp only [Act.put, List.setIfInBounds_toArray, List.set_cons_zero, List.set_cons_succ])
                  refine T_take (i := 18) hU 70 ?_ rfl rfl (by decide) (by kernel_rfl) (by kernel_rfl) (fun _ _ _ h => h) (Or.inl ⟨by rfl, ?_⟩) hHeld ?_; rotate_left; (intro w hSw; (try dsimp only at hSw); go_simp); (try with_reducible rfl); clear hU; intro hU; (try simp only [Act.put, List.setIfInBounds_toArray, List.set_cons_zero, List.set_cons_succ])
                  refine T_take (i := 19) hU 71 ?_ rfl rfl (by decide) (by kernel_rfl) (by kernel_rfl) (fun _ _ _ h => h) (Or.inl ⟨by rfl, ?_⟩) hHeld ?_; rotate_left; (intro w hSw; (try dsimp only at hSw); go_simp); (try with_reducible rfl); clear hU; intro hU; (try simp only [Act.put, List.setIfInBounds_toArray, List.set_cons_zero, List.set_cons_succ])
                  refine T_take (i := 20) hU 72 undef rfl rfl (by decide) (by kernel_rfl) (by kernel_rfl) (fun _ _ _ h => h) (Or.inr ⟨by rfl, rfl⟩) hHeld ?_; clear hU; intro hU; (try simp only [Act.put, List.setIfInBounds_toArray, List.set_cons_zero, List.set_cons_succ])
                  refine T_take (i := 21) hU 73 undef rfl rfl (by decide) (by kernel_rfl) (by kernel_rfl) (fun _ _ _ h => h) (Or.inr ⟨by rfl, rfl⟩) hHeld ?_; clear hU; intro hU; (try simp only [Act.put, List.setIfInBounds_toArray, List.set_cons_zero, List.set_cons_succ])
                  refine T_take (i := 22) hU 74 undef rfl rfl (by decide) (by kernel_rfl) (by kernel_rfl) (fun _ _ _ h => h) (Or.inr ⟨by rfl, rfl⟩) hHeld ?_; clear hU; intro hU; (try simp only [Act.put, List.setIfInBounds_toArray, List.set_cons_zero, List.set_cons_succ])
                  refine T_take (i := 23) hU 75 undef rfl rfl (by decide) (by kernel_rfl) (by kernel_rfl) (fun _ _ _ h => h) (Or.inr ⟨by rfl, rfl⟩) hHeld ?_; clear hU; intro hU; (try simp only [Act.put, List.setIfInBounds_toArray, List.set_cons_zero, List.set_cons_succ])
                  refine T_take (i := 24) hU 76 undef rfl rfl (by decide) (by kernel_rfl) (by kernel_rfl) (fun _ _ _ h => h) (Or.inr ⟨by rfl, rfl⟩) hHeld ?_; clear hU; intro hU; (try simp only [Act.put, List.setIfInBounds_toArray, List.set_cons_zero, List.set_cons_succ])
                  refine T_take (i := 25) hU 77 undef rfl rfl (by decide) (by kernel_rfl) (by kernel_rfl) (fun _ _ _ h => h) (Or.inr ⟨by rfl, rfl⟩) hHeld ?_; clear hU; intro hU; (try simp only [Act.put, List.setIfInBounds_toArray, List.set_cons_zero, List.set_cons_succ])
                  refine T_take (i := 26) hU 78 undef rfl rfl (by decide) (by kernel_rfl) (by kernel_rfl) (fun _ _ _ h => h) (Or.inr ⟨by rfl, rfl⟩) hHeld ?_; clear hU; intro hU; (try simp only [Act.put, List.setIfInBounds_toArray, List.set_cons_zero, List.set_cons_succ])
                  refine T_take (i := 27) hU 79 undef rfl rfl (by decide) (by kernel_rfl) (by kernel_rfl) (fun _ _ _ h => h) (Or.inr ⟨by rfl, rfl⟩) hHeld ?_; clear hU; intro hU; (try simp only [Act.put, List.setIfInBounds_toArray, List.set_cons_zero, List.set_cons_succ])
                  refine T_take (i := 28) hU 80 undef rfl rfl (by decide) (by kernel_rfl) (by kernel_rfl) (fun _ _ _ h => h) (Or.inr ⟨by rfl, rfl⟩) hHeld ?_; clear hU; intro hU; (try simp only [Act.put, List.setIfInBounds_toArray, List.set_cons_zero, List.set_cons_succ])
                  refine T_take (i := 29) hU 81 undef rfl rfl (by decide) (by kernel_rfl) (by kernel_rfl) (fun _ _ _ h => h) (Or.inr ⟨by rfl, rfl⟩) hHeld ?_; clear hU; intro hU; (try simp only [Act.put, List.setIfInBounds_toArray, List.set_cons_zero, List.set_cons_succ])
                  refine T_take (i := 30) hU 82 undef rfl rfl (by decide) (by kernel_rfl) (by kernel_rfl) (fun _ _ _ h => h) (Or.inr ⟨by rfl, rfl⟩) hHeld ?_; clear hU; intro hU; (try simp only [Act.put, List.setIfInBounds_toArray, List.set_cons_zero, List.set_cons_succ])
                  refine T_take (i := 31) hU 83 undef rfl rfl (by decide) (by kernel_rfl) (by kernel_rfl) (fun _ _ _ h => h) (Or.inr ⟨by rfl, rfl⟩) hHeld ?_; clear hU; intro hU; (try simp only [Act.put, List.setIfInBounds_toArray, List.set_cons_zero, List.set_cons_succ])
                  refine T_last (N := 32) rfl (by kernel_rfl) (by kernel_rfl) (fun K hK => ?_); clear hU hHeld
                  go_simp
                  refine hK.out _ _ (NoPanic.normal ?_); clear hK K
                  go_wp2_with fail
                  go_meet
                  exact ⟨rfl, (Step.of_below hD9 (World.drew_below0 w9)).mono (by omega)⟩
                | true =>
                  (try simp only [Act.put, List.setIfInBounds_toArray, List.set_cons_zero, List.set_cons_succ])
                  refine wp_region_noPanic ?_
                  refine T_region 32 (fun w' => w'.cell? ⟨w7.heap.size, 0, none⟩ = some (.int .i64 n0) ∧ w'.cell? ⟨w7.heap.size, 1, none⟩ = some (.int .i64 n1) ∧ w'.cell? ⟨s, 0, none⟩ = some (.pointer (some ⟨S.d, 0, none⟩)) ∧ w'.cell? ⟨s, 3, none⟩ = some (.int .i64 S.h) ∧ w'.cell? ⟨s, 4, none⟩ = some (.int .i64 S.g)) (by kernel_rfl) (by kernel_rfl) (by kernel_rfl) (by decide) (by kernel_rfl) ⟨t0, t1, a0, a3, a4⟩ (fun hHeld hU => ?_)
                  refine T_take (i := 0) hU 52 ?_ rfl rfl (by decide) (by kernel_rfl) (by kernel_rfl) (fun _ _ _ h => h) (Or.inl ⟨by rfl, ?_⟩) hHeld ?_; rotate_left; (intro w hSw; (try dsimp only at hSw); go_simp); (try with_reducible rfl); clear hU; intro hU; (try simp only [Act.put, List.setIfInBounds_toArray, List.set_cons_zero, List.set_cons_succ])
                  refine T_take (i := 1) hU 53 ?_ rfl rfl (by decide) (by kernel_rfl) (by kernel_rfl) (fun _ _ _ h => h) (Or.inl ⟨by rfl, ?_⟩) hHeld ?_; rotate_left; (intro w hSw; (try dsimp only at hSw); go_simp); (try with_reducible rfl); clear hU; intro hU; (try simp only [Act.put, List.setIfInBounds_toArray, List.set_cons_zero, List.set_cons_succ])
                  refine T_take (i := 2) hU 54 ?_ rfl rfl (by decide) (by kernel_rfl) (by kernel_rfl) (fun _ _ _ h => h) (Or.inl ⟨by rfl, ?_⟩) hHeld ?_; rotate_left; (intro w hSw; (try dsimp only at hSw); go_simp); (try with_reducible rfl); clear hU; intro hU; (try simp only [Act.put, List.setIfInBounds_toArray, List.set_cons_zero, List.set_cons_succ])
                  refine T_take (i := 3) hU 55 ?_ rfl rfl (by decide) (by kernel_rfl) (by kernel_rfl) (fun _ _ _ h => h) (Or.inl ⟨by rfl, ?_⟩) hHeld ?_; rotate_left; (intro w hSw; (try dsimp only at hSw); go_simp); (try with_reducible rfl); clear hU; intro hU; (try simp only [Act.put, List.setIfInBounds_toArray, List.set_cons_zero, List.set_cons_succ])
                  refine T_take (i := 4) hU 56 ?_ rfl rfl (by decide) (by kernel_rfl) (by kernel_rfl) (fun _ _ _ h => h) (Or.inl ⟨by rfl, ?_⟩) hHeld ?_; rotate_left; (intro w hSw; (try dsimp only at hSw); go_simp); (try with_reducible rfl); clear hU; intro hU; (try simp only [Act.put, List.setIfInBounds_toArray, List.set_cons_zero, List.set_cons_succ])
                  refine T_take (i := 5) hU 57 ?_ rfl rfl (by decide) (by kernel_rfl) (by kernel_rfl) (fun _ _ _ h => h) (Or.inl ⟨by rfl, ?_⟩) hHeld ?_; rotate_left; (intro w hSw; (try dsimp only at hSw); go_simp); (try with_reducible rfl); clear hU; intro hU; (try simp only [Act.put, List.setIfInBounds_toArray, List.set_cons_zero, List.set_cons_succ])
                  refine T_take (i := 6) hU 58 ?_ rfl rfl (by decide) (by kernel_rfl) (by kernel_rfl) (fun _ _ _ h => h) (Or.inl ⟨by rfl, ?_⟩) hHeld ?_; rotate_left; (intro w hSw; (try dsimp only at hSw); go_simp); (try with_reducible rfl); clear hU; intro hU; (try simp only [Act.put, List.setIfInBounds_toArray, List.set_cons_zero, List.set_cons_succ])
                  refine T_take (i := 7) hU 59 ?_ rfl rfl (by decide) (by kernel_rfl) (by kernel_rfl) (fun _ _ _ h => h) (Or.inl ⟨by rfl, ?_⟩) hHeld ?_; rotate_left; (intro w hSw; (try dsimp only at hSw); go_simp); (try with_reducible rfl); clear hU; intro hU; (try simp only [Act.put, List.setIfInBounds_toArray, List.set_cons_zero, List.set_cons_succ])
                  refine T_take (i := 8) hU 60 ?_ rfl rfl (by decide) (by kernel_rfl) (by kernel_rfl) (fun _ _ _ h => h) (Or.inl ⟨by rfl, ?_⟩) hHeld ?_; rotate_left; (intro w hSw; (try dsimp only at hSw); go_simp); (try with_reducible rfl); clear hU; intro hU; (try simp only [Act.put, List.setIfInBounds_toArray, List.set_cons_zero, List.set_cons_succ])
                  refine T_take (i := 9) hU 61 ?_ rfl rfl (by decide) (by kernel_rfl) (by kernel_rfl) (fun _ _ _ h => h) (Or.inl ⟨by rfl, ?_⟩) hHeld ?_; rotate_left; (intro w hSw; (try dsimp only at hSw); go_simp); (try with_reducible rfl); clear hU; intro hU; (try simp only [Act.put, List.setIfInBounds_toArray, List.set_cons_zero, List.set_cons_succ])
                  refine T_take (i := 10) hU 62 ?_ rfl rfl (by decide) (by kernel_rfl) (by kernel_rfl) (fun _ _ _ h => h) (Or.inl ⟨by rfl, ?_⟩) hHeld ?_; rotate_left; (intro w hSw; (try dsimp only at hSw); go_simp); (try with_reducible rfl); clear hU; intro hU; (try simp only [Act.put, List.setIfInBounds_toArray, List.set_cons_zero, List.set_cons_succ])
                  refine T_take (i := 11) hU 63 ?_ rfl rfl (by decide) (by kernel_rfl) (by kernel_rfl) (fun _ _ _ h => h) (Or.inl ⟨by rfl, ?_⟩) hHeld ?_; rotate_left; (intro w hSw; (try dsimp only at hSw); go_simp); (try with_reducible rfl); clear hU; intro hU; (try simp only [Act.put, List.setIfInBounds_toArray, List.set_cons_zero, List.set_cons_succ])
                  refine T_take (i := 12) hU 64 ?_ rfl rfl (by decide) (by kernel_rfl) (by kernel_rfl) (fun _ _ _ h => h) (Or.inl ⟨by rfl, ?_⟩) hHeld ?_; rotate_left; (intro w hSw; (try dsimp only at hSw); go_simp); (try with_reducible rfl); clear hU; intro hU; (try simp only [Act.put, List.setIfInBounds_toArray, List.set_cons_zero, List.set_cons_succ])
                  refine T_take (i := 13) hU 65 ?_ rfl rfl (by decide) (by kernel_rfl) (by kernel_rfl) (fun _ _ _ h => h) (Or.inl ⟨by rfl, ?_⟩) hHeld ?_; rotate_left; (intro w hSw; (try dsimp only at hSw); go_simp); (try with_reducible rfl); clear hU; intro hU; (try simp only [Act.put, List.setIfInBounds_toArray, List.set_cons_zero, List.set_cons_succ])
                  refine T_take (i := 14) hU 66 ?_ rfl rfl (by decide) (by kernel_rfl) (by kernel_rfl) (fun _ _ _ h => h) (Or.inl ⟨by rfl, ?_⟩) hHeld ?_; rotate_left; (intro w hSw; (try dsimp only at hSw); go_simp); (try with_reducible rfl); clear hU; intro hU; (try simp only [Act.put, List.setIfInBounds_toArray, List.set_cons_zero, List.set_cons_succ])
                  refine T_take (i := 15) hU 67 ?_ rfl rfl (by decide) (by kernel_rfl) (by kernel_rfl) (fun _ _ _ h => h) (Or.inl ⟨by rfl, ?_⟩) hHeld ?_; rotate_left; (intro w hSw; (try dsimp only at hSw); go_simp); (try with_reducible rfl); clear hU; intro hU; (try simp only [Act.put, List.setIfInBounds_toArray, List.set_cons_zero, List.set_cons_succ])
                  refine T_take (i := 16) hU 68 ?_ rfl rfl (by decide) (by kernel_rfl) (by kernel_rfl) (fun _ _ _ h => h) (Or.inl ⟨by rfl, ?_⟩) hHeld ?_; rotate_left; (intro w hSw; (try dsimp only at hSw); go_simp); (try with_reducible rfl); clear hU; intro hU; (try simp only [Act.put, List.setIfInBounds_toArray, List.set_cons_zero, List.set_cons_succ])
                  refine T_take (i := 17) hU 69 ?_ rfl rfl (by decide) (by kernel_rfl) (by kernel_rfl) (fun _ _ _ h => h) (Or.inl ⟨by rfl, ?_⟩) hHeld ?_; rotate_left; (intro w hSw; (try dsimp only at hSw); go_simp); (try with_reducible rfl); clear hU; intro hU; (try simp only [Act.put, List.setIfInBounds_toArray, List.set_cons_zero, List.set_cons_succ])
                  refine T_take (i := 18) hU 70 ?_ rfl rfl (by decide) (by kernel_rfl) (by kernel_rfl) (fun _ _ _ h => h) (Or.inl ⟨by rfl, ?_⟩) hHeld ?_; rotate_left; (intro w hSw; (try dsimp only at hSw); go_simp); (try with_reducible rfl); clear hU; intro hU; (try simp only [Act.put, List.setIfInBounds_toArray, List.set_cons_zero, List.set_cons_succ])
                  refine T_take (i := 19) hU 71 ?_ rfl rfl (by decide) (by kernel_rfl) (by kernel_rfl) (fun _ _ _ h => h) (Or.inl ⟨by rfl, ?_⟩) hHeld ?_; rotate_left; (intro w hSw; (try dsimp only at hSw); go_simp); (try with_reducible rfl); clear hU; intro hU; (try simp only [Act.put, List.setIfInBounds_toArray, List.set_cons_zero, List.set_cons_succ])
                  refine T_take (i := 20) hU 72 ?_ rfl rfl (by decide) (by kernel_rfl) (by kernel_rfl) (fun _ _ _ h => h) (Or.inl ⟨by rfl, ?_⟩) hHeld ?_; rotate_left; (intro w hSw; (try dsimp only at hSw); go_simp); (try with_reducible rfl); clear hU; intro hU; (try simp only [Act.put, List.setIfInBounds_toArray, List.set_cons_zero, List.set_cons_succ])
                  refine T_take (i := 21) hU 73 ?_ rfl rfl (by decide) (by kernel_rfl) (by kernel_rfl) (fun _ _ _ h => h) (Or.inl ⟨by rfl, ?_⟩) hHeld ?_; rotate_left; (intro w hSw; (try dsimp only at hSw); go_simp); (try with_reducible rfl); clear hU; intro hU; (try simp only [Act.put, List.setIfInBounds_toArray, List.set_cons_zero, List.set_cons_succ])
                  refine T_take (i := 22) hU 74 ?_ rfl rfl (by decide) (by kernel_rfl) (by kernel_rfl) (fun _ _ _ h => h) (Or.inl ⟨by rfl, ?_⟩) hHeld ?_; rotate_left; (intro w hSw; (try dsimp only at hSw); go_simp); (try with_reducible rfl); clear hU; intro hU; (try simp only [Act.put, List.setIfInBounds_toArray, List.set_cons_zero, List.set_cons_succ])
                  refine T_take (i := 23) hU 75 ?_ rfl rfl (by decide) (by kernel_rfl) (by kernel_rfl) (fun _ _ _ h => h) (Or.inl ⟨by rfl, ?_⟩) hHeld ?_; rotate_left; (intro w hSw; (try dsimp only at hSw); go_simp); (try with_reducible rfl); clear hU; intro hU; (try simp only [Act.put, List.setIfInBounds_toArray, List.set_cons_zero, List.set_cons_succ])
                  refine T_take (i := 24) hU 76 ?_ rfl rfl (by decide) (by kernel_rfl) (by kernel_rfl) (fun _ _ _ h => h) (Or.inl ⟨by rfl, ?_⟩) hHeld ?_; rotate_left; (intro w hSw; (try dsimp only at hSw); go_simp); (try with_reducible rfl); clear hU; intro hU; (try simp only [Act.put, List.setIfInBounds_toArray, List.set_cons_zero, List.set_cons_succ])
                  refine T_take (i := 25) hU 77 ?_ rfl rfl (by decide) (by kernel_rfl) (by kernel_rfl) (fun _ _ _ h => h) (Or.inl ⟨by rfl, ?_⟩) hHeld ?_; rotate_left; (intro w hSw; (try dsimp only at hSw); go_simp); (try with_reducible rfl); clear hU; intro hU; (try simp only [Act.put, List.setIfInBounds_toArray, List.set_cons_zero, List.set_cons_succ])
                  refine T_take (i := 26) hU 78 ?_ rfl rfl (by decide) (by kernel_rfl) (by kernel_rfl) (fun _ _ _ h => h) (Or.inl ⟨by rfl, ?_⟩) hHeld ?_; rotate_left; (intro w hSw; (try dsimp only at hSw); go_simp); (try with_reducible rfl); clear hU; intro hU; (try simp only [Act.put, List.setIfInBounds_toArray, List.set_cons_zero, List.set_cons_succ])
                  refine T_take (i := 27) hU 79 ?_ rfl rfl (by decide) (by kernel_rfl) (by kernel_rfl) (fun _ _ _ h => h) (Or.inl ⟨by rfl, ?_⟩) hHeld ?_; rotate_left; (intro w hSw; (try dsimp only at hSw); go_simp); (try with_reducible rfl); clear hU; intro hU; (try simp only [Act.put, List.setIfInBounds_toArray, List.set_cons_zero, List.set_cons_succ])
                  refine T_take (i := 28) hU 80 ?_ rfl rfl (by decide) (by kernel_rfl) (by kernel_rfl) (fun _ _ _ h => h) (Or.inl ⟨by rfl, ?_⟩) hHeld ?_; rotate_left; (intro w hSw; (try dsimp only at hSw); go_simp); (try with_reducible rfl); clear hU; intro hU; (try simp only [Act.put, List.setIfInBounds_toArray, List.set_cons_zero, List.set_cons_succ])
                  have hHeld29 := hHeld
                  refine T_step (i := 29) hU rfl (by decide) (by kernel_rfl) (fun K hK => ?_); clear hU hHeld
                  go_simp
                  go_at_call 62
                  refine (fblank_ok _).mono ?_
                  rintro e w10 ⟨s10, hs10, rfl, hb10⟩
                  have b10 : Below w9.heap.size w9 w10 := (World.drew_below0 w9).trans hb10
                  refine hK.out _ _ (⟨Below.keepCell hb10 hHeld29.1, Below.keepCell hb10 hHeld29.2.1, Below.keepCell hb10 hHeld29.2.2.1, Below.keepCell hb10 hHeld29.2.2.2.1, Below.keepCell hb10 hHeld29.2.2.2.2⟩) (fun hHeld hU => ?_); clear hK K; (try simp only [Act.put, List.setIfInBounds_toArray, List.set_cons_zero, List.set_cons_succ])
                  have hHeld30 := hHeld
                  refine T_step (i := 30) hU rfl (by decide) (by kernel_rfl) (fun K hK => ?_); clear hU hHeld
                  go_simp
                  go_at_call 31
                  refine (write_step S.d dn (Bd + 32 * k + j) F1 S.h (48 + y * 32 + j) s10 w10 (hD9.below b10) (by omega) (by omega) Hi.out.1 Hi.out.2 hs10 (by have := Hbd.out; omega)).mono ?_
                  rintro e w11 ⟨rfl, hst11⟩
                  have hk11 := hst11.keep
                  refine hK.out _ _ (⟨hk11.keepCell nFh hHeld30.1, hk11.keepCell nFh hHeld30.2.1, hk11.keepCell nFs hHeld30.2.2.1, hk11.keepCell nFs hHeld30.2.2.2.1, hk11.keepCell nFs hHeld30.2.2.2.2⟩) (fun hHeld hU => ?_); clear hK K; (try simp only [Act.put, List.setIfInBounds_toArray, List.set_cons_zero, List.set_cons_succ])
                  refine T_take (i := 31) hU 83 ?_ rfl rfl (by decide) (by kernel_rfl) (by kernel_rfl) (fun _ _ _ h => h) (Or.inl ⟨by rfl, ?_⟩) hHeld ?_; rotate_left; (intro w hSw; (try dsimp only at hSw); go_simp); (try with_reducible rfl); clear hU; intro hU; (try simp only [Act.put, List.setIfInBounds_toArray, List.set_cons_zero, List.set_cons_succ])
                  refine T_last (N := 32) rfl (by kernel_rfl) (by kernel_rfl) (fun K hK => ?_); clear hU hHeld
                  go_simp
                  refine hK.out _ _ (NoPanic.normal ?_); clear hK K
                  go_wp2_with fail
                  go_meet
                  exact ⟨rfl, Step.pre b10 hst11⟩
          case rest =>
            obtain ⟨rfl, hst9⟩ := hcut
            have HSt9 := Lib.hid (Step.comp HF1.out Hk1.out (Step.pre HB9.out hst9))
            clear hst9
            go_wp2
            go_roundg (32 - (j + 1))
            case measure => have := Hgj.out; omega
            case rel => exact ⟨j + 1, by omega, rfl, by go_num, HSt9.out⟩
        · obtain rfl : j = 32 := by omega
          go_wp2
          go_roundg (segs.length - (k + 1))
          case measure => have := Hgk.out; omega
          case rel => exact ⟨k + 1, by omega, rfl, by go_num, by rw [show Bd + 32 * (k + 1) = Bd + 32 * k + 32 from by omega]; exact HSt2.out⟩
    · obtain rfl : k = segs.length := by omega
      go_wp2
      go_ret
      exact ⟨rfl, HSt.out⟩
end Go.Proofs.YtnndkfhpifgaiaaGreat
