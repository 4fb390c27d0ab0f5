/-
  beguinagelaw25.WardenMany.
-/
import Derived.Test.YtnndkfhpifgaiaaGreatM50
set_option linter.unusedVariables false
set_option linter.unusedSimpArgs false
namespace Go.Proofs.YtnndkfhpifgaiaaGreat
open Go.RowKit

theorem placeN_ok (v n p : Int) (w : World) (hp : v % n = p) (h0 : 0 < n) (h1 : n ≤ 1000000) (hv : -9223372036854775808 ≤ v) (hv' : v ≤ 9223372036854775807) :
    Calls Tryz.prog 4 #[.int .i64 v, .int .i64 n] w fun e w' => e = .returned (.int .i64 p) ∧ w = w' := by
  subst hp; exact place_ok v n w h0 h1 hv hv'

def seenA (S : List Int) : Array Value := ((List.range 140).map fun (a : Nat) => Value.bool (decide ((a : Int) ∈ S))).toArray
theorem seenA_size (S : List Int) : (seenA S).size = 140 := by simp [seenA]
theorem seenA_at (S : List Int) (a : Nat) (h : a < 140) : (seenA S)[a]? = some (.bool (decide ((a : Int) ∈ S))) := by simp [seenA, h]
theorem seenA_set (S : List Int) (a : Nat) (h : a < 140) : (seenA S).setIfInBounds a (.bool true) = seenA (S ++ [(a : Int)]) := by
  apply Array.ext_getElem?
  intro i
  rw [Array.getElem?_setIfInBounds, seenA_size]
  by_cases hi : i < 140
  · rw [seenA_at _ i hi, seenA_at _ i hi]
    by_cases hai : a = i
    · subst hai; simp [h]
    · have : ¬ ((i : Int) = (a : Int)) := by omega
      simp [hai, this]
  · have h1 : (seenA S)[i]? = none := Array.getElem?_eq_none (by rw [seenA_size]; omega)
    have h2 : (seenA (S ++ [(a : Int)]))[i]? = none := Array.getElem?_eq_none (by rw [seenA_size]; omega)
    rw [h1, h2, if_neg (by omega)]
theorem sizeBool : (Tryz.prog.info? 4).map (·.size) = some 1 := by kernel_rfl
theorem zero37 : (Tryz.prog.info? 37).bind (·.zero) = some (.agg (seenA [])) := by kernel_rfl

/-- So many houses stand, as many as fit so far. -/
def Many (w0 w' : World) (wp n dn kk : Nat) (u : Value) : Prop := ∃ (m : Nat) (T : List HV), u = .int .i64 m ∧ m ≤ 16 ∧ m * kk ≤ n ∧ Shape T m kk ∧ Law w0 w' wp n dn T (20 + 3000 * m) (1 + m)

set_option maxRecDepth 100000 in
set_option maxHeartbeats 1000000 in
theorem many_ok (a b c : Int) (w : World) (ha : -9223372036854775808 ≤ a ∧ a ≤ 9223372036854775807) (hb : -9223372036854775808 ≤ b ∧ b ≤ 9223372036854775807) (hc : -9223372036854775808 ≤ c ∧ c ≤ 9223372036854775807) :
    Calls Tryz.prog 3 #[.int .i64 a, .int .i64 b, .int .i64 c] w fun e w' => e = .returned (.bool true) ∧ Below w.heap.size w w' := by
  obtain ⟨p1, hp1⟩ : ∃ p, a % 130 = p := ⟨_, rfl⟩
  obtain ⟨p2, hp2⟩ : ∃ p, b % 20 = p := ⟨_, rfl⟩
  obtain ⟨n, hn⟩ : ∃ n : Nat, (n : Int) = 8 + p1 := ⟨(8 + p1).toNat, by omega⟩
  obtain ⟨kk, hkk⟩ : ∃ k : Nat, (k : Int) = 8 + p2 := ⟨(8 + p2).toNat, by omega⟩
  have hnb : 8 ≤ n ∧ n ≤ 137 := by omega
  have hkb : 8 ≤ kk ∧ kk ≤ 27 := by omega
  have hw1 : IntKind.i64.wrap (8 + p1) = n := by rw [IntKind.wrap_i64]; omega
  have hw2 : IntKind.i64.wrap (8 + p2) = kk := by rw [IntKind.wrap_i64]; omega
  obtain ⟨dn, hdn⟩ : ∃ dn, dn = 48 + 32 * n := ⟨_, rfl⟩
  have Hp := Lib.hid (And.intro hp1 hp2)
  have Hn := Lib.hid (And.intro hnb hkb)
  have Hdn := Lib.hid hdn
  have Ha := Lib.hid (And.intro ha (And.intro hb hc))
  clear hp1 hp2 hn hkk hnb hkb hdn ha hb hc
  have mk1 : Hid True := Lib.hid trivial
  go_enter Tryz.func3, Tryz.ntmps3
  go_wp2_with (first
    | (go_at_call 4; clear mk1; refine (placeN_ok a 130 p1 w Hp.out.1 (by decide) (by decide) Ha.out.1.1 Ha.out.1.2).mono ?_; rintro e w1 ⟨rfl, rfl⟩)
    | (go_at_call 4; refine (placeN_ok b 20 p2 w Hp.out.2 (by decide) (by decide) Ha.out.2.1.1 Ha.out.2.1.2).mono ?_; rintro e w1 ⟨rfl, rfl⟩)
    | (go_at_call 5; refine (lstart n dn w w Hdn.out Hn.out.1.1 Hn.out.1.2 (Below.refl _ _)).mono ?_; rintro e w2 ⟨d, wp, rfl, hL⟩; have HL2 := Lib.hid hL; clear hL)
    | (refine wpList_allocAt rfl 25 rfl _ zero25 ?_; intro w3 hz hk hs; have HZ3 := Lib.hid hz; have HL3 := Lib.hid (HL2.out.below hk.below); have HB3 := Lib.hid hk.below; clear hz hk hs)
    | (refine wpList_storeRow rfl 25 _ _ rfl rfl w2.heap.size #[.int .i64 (dn : Int), .int .i64 32] #[.int .i64 0, .int .i64 0] _ rfl rfl HZ3.out rfl (size25a _ _) (one25 _ _) ?_; intro w4 hA hk hs; have HL4 := Lib.hid (HL2.out.below (HB3.out.trans (hk.belowOf HB3.out.size (by intro b hb e; omega)))); clear hA hk hs))
  go_loopg [12] 16 (fun gk u wr => ∃ (m : Nat) (T : List HV), gk = 16 - m ∧ u = .int .i64 m ∧ m ≤ 16 ∧ m * kk ≤ n ∧ Shape T m kk ∧ Law w wr wp n dn T (20 + 3000 * m) (1 + m))
  case atStart => exact ⟨0, T0, by omega, rfl, by omega, by omega, Shape.start kk, HL4.out⟩
  case round =>
    obtain ⟨m, T, hgk, rfl, hm, hmk, hsh, hL⟩ := hrel
    have Hgk := Lib.hid hgk
    have Hmk := Lib.hid hmk
    have Hsh := Lib.hid hsh
    have HL := Lib.hid hL
    clear hgk hmk hsh hL HL4
    by_cases hlt : m < 16
    · have e16 := HL.out.ok.len
      have hcnt := Hsh.out.count e16 (by omega)
      obtain ⟨x, hx⟩ : ∃ x, T[m]? = some x := ⟨_, List.getElem?_eq_getElem (by omega)⟩
      have hxn := (Hsh.out m x hx).2 (Nat.le_refl _)
      have hb27 : (m + 1) * kk ≤ 16 * 27 := Nat.mul_le_mul (by omega) Hn.out.2.2
      have hsm : (m + 1) * kk = m * kk + kk := Nat.succ_mul m kk
      have hw3 : IntKind.i64.wrap ((m : Int) + 1) = m + 1 := by rw [IntKind.wrap_i64]; omega
      obtain ⟨q, hq⟩ : ∃ q, (m + 1) * kk = q := ⟨_, rfl⟩
      have hw4 : IntKind.i64.wrap (((m : Int) + 1) * (kk : Int)) = (q : Int) := by
        rw [IntKind.wrap_i64, show ((m : Int) + 1) * (kk : Int) = (q : Int) from by rw [← hq]; simp]; omega
      have Hxn := Lib.hid (And.intro hx (And.intro hxn (And.intro hcnt (And.intro hsm (And.intro hb27 hq)))))
      clear e16 hcnt hx hxn hsm hb27 hq
      by_cases hfit : q ≤ n
      · have hd : decide ((q : Int) ≤ n) = true := by simp only [decide_eq_true_eq]; omega
        have Hfit := Lib.hid hfit
        go_wp2_with (first
          | (go_at_call 7; refine (wideV_ok kk _).mono ?_; rintro e w5 ⟨rfl, hb⟩; have HL5 := Lib.hid (HL.out.below hb); clear hb)
          | (go_at_call 6; refine (lfound_yes ((m : Int) + 1) w w5 wp n dn T m kk _ _ x rfl HL5.out Hxn.out.1 Hxn.out.2.1.1 (by rw [Hxn.out.2.1.2]; decide) Hn.out.2.1 (by have := Hn.out.2.2; omega) (by have := Hxn.out.2.2; have := Hfit.out; omega) (by omega) (by omega)).mono ?_; rintro e w6 ⟨rfl, sv, hL6⟩; have HL6 := Lib.hid hL6; clear hL6))
        go_roundg (16 - (m + 1))
        case measure => have := Hgk.out; omega
        case rel =>
          have hx' := Hxn.out.2.1.2
          have hcount := HL5.out.ok.count
          refine ⟨m + 1, _, rfl, by go_num, by omega, by have := Hxn.out.2.2; have := Hfit.out; omega, Hsh.out.next (y := HVf (x.gen + 1) sv ((freeL n (allSegs T)).take kk)) Hxn.out.1 rfl (by show ((freeL n (allSegs T)).take kk).length = kk; rw [List.length_take]; have := Hxn.out.2.2; have := Hfit.out; omega) (by show x.gen + 1 = 1; omega), ?_⟩
          have h6 := HL6.out
          rw [show 20 + 3000 * (m + 1) = 20 + 3000 * m + 3000 from by omega, show (1 : Int) + ((m + 1 : Nat) : Int) = 1 + (m : Int) + 1 from by omega]
          exact h6
      · have hd : decide ((q : Int) ≤ n) = false := by simp only [decide_eq_false_iff_not]; omega
        have Hfit := Lib.hid hfit
        go_wp2_with (first
          | (go_at_call 7; refine (wideV_ok kk _).mono ?_; rintro e w5 ⟨rfl, hb⟩; have HL5 := Lib.hid (HL.out.below hb); clear hb)
          | (go_at_call 6; refine (lfound_no ((m : Int) + 1) w w5 wp n dn T m kk _ _ x rfl HL5.out Hxn.out.1 Hxn.out.2.1.1 (by rw [Hxn.out.2.1.2]; decide) Hn.out.2.1 (by have := Hn.out.2.2; omega) (by have := Hxn.out.2.2; have := Hfit.out; omega)).mono ?_; rintro e w6 ⟨rfl, hL6⟩; have HL6 := Lib.hid hL6; clear hL6))
        clear hw3 hw4 hd
        have e16 := HL6.out.ok.len
        have hcnt := Hsh.out.count e16 hm
        obtain ⟨mk, hmk'⟩ : ∃ mk, m * kk = mk := ⟨_, rfl⟩
        have hmkn : mk ≤ n := hmk' ▸ Hmk.out
        have hw5 : IntKind.i64.wrap ((m : Int) * (kk : Int)) = (mk : Int) := by
          rw [IntKind.wrap_i64, show (m : Int) * (kk : Int) = (mk : Int) from by rw [← hmk']; simp]; have := Hn.out; omega
        have hw6 : IntKind.i64.wrap ((n : Int) - (mk : Int)) = (n : Int) - mk := by rw [IntKind.wrap_i64]; have := Hn.out; omega
        have Hc := Lib.hid (And.intro e16 (And.intro (hcnt.trans hmk') hmk'))
        have mk2 : Hid True := Lib.hid trivial
        have mk3 : Hid True := Lib.hid trivial
        clear e16 hcnt hmk'
        go_wp2_with (first
          | (go_at_call 8; clear mk2; refine (lspare ((n : Int) - mk) w w6 wp n dn T _ _ HL6.out (by have := Hc.out.2.1; omega)).mono ?_; rintro e w7 ⟨rfl, hL7⟩; have HL7 := Lib.hid hL7; clear hL7)
          | (go_at_call 9; clear mk3; refine (lhouses w w7 wp n dn T _ _ HL7.out).mono ?_; rintro e w8 ⟨p8, c8, Q8, rfl, hP8, hL8⟩; have HL8 := Lib.hid hL8; clear hL8 hP8)
          | (refine wpList_allocAt rfl 37 rfl (seenA []) zero37 ?_; intro w9 hz hk hs; have HZ9 := Lib.hid hz; have HK9 := Lib.hid hk; have HL9 := Lib.hid (HL8.out.below hk.below); clear hz hk hs)
          | (go_at_call 9; refine (lhouses w w9 wp n dn T _ _ HL9.out).mono ?_; rintro e w10 ⟨p10, c10, Q, rfl, hP, hL10⟩; have HP := Lib.hid hP; have HZ10 := Lib.hid (Below.at hP.below HZ9.out HZ9.out.lt); have HB10 := Lib.hid (HK9.out.below.trans (hP.below.mono HK9.out.size)); clear hP hL10))
        obtain ⟨sb, hsb⟩ : ∃ b, w8.heap.size = b := ⟨_, rfl⟩
        have hz10 := HZ10.out
        have hsb9 : sb < w9.heap.size := hsb ▸ HZ9.out.lt
        rw [hsb] at hz10
        have HS10 := Lib.hid hz10
        simp only [hsb]
        have Hsb := Lib.hid (And.intro hsb hsb9)
        clear hsb hsb9 hz10 HZ9 HZ10
        go_loopg [16] m (fun gk u wr => ∃ i : Nat, i ≤ m ∧ gk = m - i ∧ u = .int .i64 i ∧ At wr sb (seenA (allSegs (T.take i))) 37 ∧ Keep (· = sb) w10 wr)
        case atStart => exact ⟨0, by omega, by omega, rfl, HS10.out, Keep.refl _ _⟩
        case round =>
          obtain ⟨i, hi, hgk, rfl, hS, hK⟩ := hrel
          have Hgk := Lib.hid hgk
          have HS := Lib.hid hS
          have HK := Lib.hid hK
          clear hgk hS hK
          by_cases hlt : i < m
          · obtain ⟨x, hx⟩ : ∃ x, T[i]? = some x := ⟨_, List.getElem?_eq_getElem (by have := Hc.out.1; omega)⟩
            obtain ⟨y, hy⟩ : ∃ y, Q[i]? = some y := ⟨_, List.getElem?_eq_getElem (by rw [HP.out.len]; omega)⟩
            have hyx : y.segs = x.segs := by
              obtain ⟨x', hx', he⟩ := HP.out.segs i y hy
              rw [hx] at hx'
              rw [he, Option.some.inj hx']
            have hlen : x.segs.length = kk := ((Hsh.out i x hx).1 hlt).2.1
            have hoy := HP.out.each y (List.mem_of_getElem? hy)
            rw [hyx, hlen] at hoy
            obtain ⟨gy, capy, cury, hsv, hgy, hgyr⟩ := hoy.2.resolve_left (by have := Hn.out; rintro ⟨_, e⟩; omega)
            obtain ⟨gq, capq, curq, hsl, hgq, hgqr⟩ := HP.out.own.2.resolve_left (by rintro ⟨_, e⟩; omega)
            simp only [Value.slice.injEq] at hsl
            obtain ⟨rfl, _, rfl⟩ := hsl
            have ngq : gq ≠ sb := by have := Hsb.out; omega
            have ngy : gy ≠ sb := by have := Hsb.out; omega
            have d9 : w10.cell? ⟨gq, i * 10 + 9, none⟩ = some (.slice (some ⟨gy, 0, none⟩) kk capy) := by
              have h1 := HP.out.own.cells (g := gq) rfl (i * 10 + 9) y.sv (by
                have h2 := tcells_at Q i y hy
                have h3 : ((tcells Q).drop (i * 10)).take 10 = y.cells := h2
                have h4 : (((tcells Q).drop (i * 10)).take 10)[9]? = some y.sv := by rw [h3]; rfl
                rwa [List.getElem?_take, if_pos (by omega), List.getElem?_drop] at h4)
              rw [add0, hsv] at h1
              exact h1
            have c9 := HK.out.keepCell ngq d9
            have Hxy := Lib.hid (And.intro hx (And.intro hlen hoy))
            have D9 := Lib.hid d9
            have Hng := Lib.hid (And.intro ngq (And.intro ngy hsv))
            have b0 : (0 : Int) ≤ i := by omega
            have b1 : (i : Int) < 16 := by omega
            clear d9 hx hy hyx hlen hoy hgyr hgqr hgy hgq ngq ngy hsv
            have hkk1 : kk < 9223372036854775807 := by have := Hn.out; omega
            go_wp2
            clear c9
            go_loopg [17] kk (fun gj u wj => ∃ j : Nat, j ≤ kk ∧ gj = kk - j ∧ u = .int .i64 j ∧ At wj sb (seenA (allSegs (T.take i) ++ x.segs.take j)) 37 ∧ Keep (· = sb) w10 wj)
            case atStart => exact ⟨0, by omega, by omega, rfl, by simpa using HS.out, HK.out⟩
            case round =>
              obtain ⟨j, hj, hgj, rfl, hS2, hK2⟩ := hrel
              have Hgj := Lib.hid hgj
              have HS2 := Lib.hid hS2
              have HK2 := Lib.hid hK2
              clear hgj hS2 hK2
              by_cases hlt2 : j < kk
              · obtain ⟨z, hz⟩ : ∃ z, x.segs[j]? = some z := ⟨_, List.getElem?_eq_getElem (by rw [Hxy.out.2.1]; exact hlt2)⟩
                have hzr := HL6.out.ok.rng z (List.mem_flatMap.2 ⟨x, List.mem_of_getElem? Hxy.out.1, List.mem_of_getElem? hz⟩)
                have hzn := nodup_at HL6.out.ok.once Hxy.out.1 hz
                obtain ⟨zn, rfl⟩ : ∃ zn : Nat, z = zn := ⟨z.toNat, by omega⟩
                have hz140 : zn < 140 := by have := Hn.out; omega
                have hznn : zn < n := by omega
                have c9 := HK2.out.keepCell Hng.out.1 D9.out
                have cz : wr.cell? ⟨gy, j, none⟩ = some (.int .i64 (zn : Int)) := by
                  refine HK2.out.keepCell Hng.out.2.1 ?_
                  have h1 := Hxy.out.2.2
                  rw [Hng.out.2.2] at h1
                  have h2 := h1.cells (g := gy) rfl j (.int .i64 (zn : Int)) (by rw [List.getElem?_map, hz]; rfl)
                  rwa [add0] at h2
                have cs : wr.cell? ⟨sb, zn, none⟩ = some (.bool false) := by
                  rw [HS2.out.cell, seenA_at _ _ hz140]; simp [hzn]
                have d1 : ¬ n ≤ zn := by omega
                have d2 : (zn : Int) < 140 := by omega
                have d3 : decide ((zn : Int) < 0) = false := by simp
                have d4 : decide ((n : Int) ≤ zn) = false := by simp; omega
                have Hz := Lib.hid (And.intro hz hzr)
                clear hz hzr hzn
                go_wp2_with (first
                  | (refine wpList_storeCell rfl 4 _ _ rfl rfl sb zn (.bool true) (seenA (allSegs (T.take i) ++ x.segs.take j)) 37 rfl rfl HS2.out (by rw [seenA_size]; exact hz140) sizeBool rfl rfl ?_; intro w12 hA12 hk12 hs12))
                go_roundg (kk - (j + 1))
                case measure => have := Hgj.out; omega
                case rel =>
                  rw [seenA_set _ _ hz140] at hA12
                  refine ⟨j + 1, by omega, rfl, by go_num, ?_, HK2.out.trans hk12 (fun _ _ e => e)⟩
                  rw [List.take_add_one, Hz.out.1, Option.toList_some, ← List.append_assoc]
                  exact hA12
              · obtain rfl : j = kk := by omega
                go_wp2
                go_roundg (m - (i + 1))
                case measure => have := Hgk.out; omega
                case rel =>
                  refine ⟨i + 1, by omega, rfl, by go_num, ?_, HK2.out⟩
                  rw [allSegs_take T i x Hxy.out.1]
                  have h1 := HS2.out
                  rwa [List.take_of_length_le (l := x.segs) (by rw [Hxy.out.2.1]; exact Nat.le_refl _)] at h1
          · have hB10w : Below w8.heap.size w8 wr := HB10.out.trans (HK.out.belowOf HB10.out.size (by intro b hb e; have := Hsb.out.1; omega))
            have HLr := Lib.hid (HL8.out.below hB10w)
            clear hB10w
            by_cases hm0 : m = 0
            · go_wp2_with (first
                | (go_at_call 10; refine (awake_ok _).mono ?_; rintro e w13 ⟨rfl, hb13⟩))
              all_goals (go_ret; exact ⟨rfl, HLr.out.frame.trans (hb13.mono HLr.out.frame.size)⟩)
            · obtain ⟨m1, hm1⟩ : ∃ m1, m = m1 + 1 := ⟨m - 1, by omega⟩
              obtain ⟨mq, hmq⟩ : ∃ mq, m1 * kk = mq := ⟨_, rfl⟩
              have hmkq : mk = mq + kk := by rw [← Hc.out.2.2, hm1, ← hmq, Nat.succ_mul]
              have hmp : (0 : Int) < m := by omega
              have hr0 := Int.emod_nonneg c (show (m : Int) ≠ 0 by omega)
              have hr1 := Int.emod_lt_of_pos c hmp
              obtain ⟨rn, hrn⟩ : ∃ rn : Nat, c % (m : Int) = rn := ⟨(c % (m : Int)).toNat, by omega⟩
              have hrm : rn < m := by omega
              obtain ⟨x, hx⟩ : ∃ x, T[rn]? = some x := ⟨_, List.getElem?_eq_getElem (by have := Hc.out.1; omega)⟩
              have hxs := (Hsh.out rn x hx).1 hrm
              obtain ⟨T1, hT1⟩ : ∃ T1, T.set rn (HVn x.gen) = T1 := ⟨_, rfl⟩
              have hc1 : (allSegs T1).length = mq := by
                have h1 := segs_set_len hx (HVn x.gen)
                rw [hT1, hxs.2.1, Hc.out.2.1] at h1
                have h2 : (HVn x.gen).segs.length = 0 := rfl
                omega
              have hx1 : T1[rn]? = some (HVn 1) := by
                have := (List.getElem?_eq_some_iff.1 hx).1
                rw [← hT1, hxs.2.2]
                simp [this]
              have hw7 : IntKind.i64.wrap (1 + (rn : Int)) = 1 + rn := by rw [IntKind.wrap_i64]; omega
              have hw8 : IntKind.i64.wrap ((m : Int) - 1) = (m1 : Int) := by rw [IntKind.wrap_i64]; omega
              have hw9 : IntKind.i64.wrap ((m1 : Int) * (kk : Int)) = (mq : Int) := by
                rw [IntKind.wrap_i64, show (m1 : Int) * (kk : Int) = (mq : Int) from by rw [← hmq]; simp]; have := Hn.out; omega
              have hw10 : IntKind.i64.wrap ((n : Int) - (mq : Int)) = (n : Int) - mq := by rw [IntKind.wrap_i64]; have := Hn.out; omega
              have Hq := Lib.hid (And.intro hmkq (And.intro hrn (And.intro hx (And.intro hxs (And.intro hT1 (And.intro hc1 (And.intro hx1 hmp)))))))
              have mk4 : Hid True := Lib.hid trivial
              clear hmkq hr0 hr1 hrn hx hxs hT1 hc1 hx1 hmp hmq hm1
              go_wp2_with (first
                | (go_at_call 4; refine (placeN_ok c m rn wr Hq.out.2.1 Hq.out.2.2.2.2.2.2.2 (by omega) Ha.out.2.2.1 Ha.out.2.2.2).mono ?_; rintro e w1 ⟨rfl, rfl⟩)
                | (go_at_call 11; refine (lraze (1 + (rn : Int)) w wr wp n dn T rn _ _ x (by omega) HLr.out Hq.out.2.2.1 Hq.out.2.2.2.1.1 (by rw [Hq.out.2.2.2.1.2.2]; decide) (by omega) (by omega)).mono ?_; rintro e w14 ⟨rfl, hL14⟩; rw [Hq.out.2.2.2.2.1] at hL14; have HL14 := Lib.hid hL14; clear hL14)
                | (go_at_call 8; clear mk4; refine (lspare ((n : Int) - mq) w w14 wp n dn T1 _ _ HL14.out (by have := Hq.out.2.2.2.2.2.1; omega)).mono ?_; rintro e w15 ⟨rfl, hL15⟩; have HL15 := Lib.hid hL15; clear hL15)
                | (go_at_call 7; refine (wideV_ok kk _).mono ?_; rintro e w16 ⟨rfl, hb⟩; have HL16 := Lib.hid (HL15.out.below hb); clear hb)
                | (go_at_call 6; refine (lfound_yes (1 + (rn : Int)) w w16 wp n dn T1 rn kk _ _ (HVn 1) (by omega) HL16.out Hq.out.2.2.2.2.2.2.1 (HVn_none 1 (by decide) (by decide)) (by decide) Hn.out.2.1 (by have := Hn.out.2.2; omega) (by have := Hq.out.1; have := Hq.out.2.2.2.2.2.1; omega) (by omega) (by omega)).mono ?_; rintro e w17 ⟨rfl, sv, hL17⟩; obtain ⟨T2, hT2⟩ : ∃ T2, T1.set rn (HVf ((HVn 1).gen + 1) sv ((freeL n (allSegs T1)).take kk)) = T2 := ⟨_, rfl⟩
                   have hc2 : (allSegs T2).length = mk := by (have h1 := segs_set_len Hq.out.2.2.2.2.2.2.1 (HVf ((HVn 1).gen + 1) sv ((freeL n (allSegs T1)).take kk)); rw [hT2, Hq.out.2.2.2.2.2.1] at h1; have h2 : (HVn 1).segs.length = 0 := rfl; have h3 : (HVf ((HVn 1).gen + 1) sv ((freeL n (allSegs T1)).take kk)).segs.length = kk := (by show ((freeL n (allSegs T1)).take kk).length = kk; have h4 := HL16.out.ok.count; rw [List.length_take]; have := Hq.out.1; have := Hq.out.2.2.2.2.2.1; omega); have := Hq.out.1; omega)
                   rw [hT2] at hL17; have HL17 := Lib.hid hL17; have Hc2 := Lib.hid hc2; clear hL17 hT2 hc2)
                | (go_at_call 8; refine (lspare ((n : Int) - mk) w w17 wp n dn T2 _ _ HL17.out (by have := Hc2.out; omega)).mono ?_; rintro e w18 ⟨rfl, hL18⟩; have HL18 := Lib.hid hL18; clear hL18)
                | (go_at_call 10; refine (awake_ok _).mono ?_; rintro e w13 ⟨rfl, hb13⟩))
              go_ret
              exact ⟨rfl, HL18.out.frame.trans (hb13.mono HL18.out.frame.size)⟩
    · skip
      have e16 := HL.out.ok.len
      have hcnt := Hsh.out.count e16 hm
      obtain ⟨mk, hmk'⟩ : ∃ mk, m * kk = mk := ⟨_, rfl⟩
      have hmkn : mk ≤ n := hmk' ▸ Hmk.out
      have hw5 : IntKind.i64.wrap ((m : Int) * (kk : Int)) = (mk : Int) := by
        rw [IntKind.wrap_i64, show (m : Int) * (kk : Int) = (mk : Int) from by rw [← hmk']; simp]; have := Hn.out; omega
      have hw6 : IntKind.i64.wrap ((n : Int) - (mk : Int)) = (n : Int) - mk := by rw [IntKind.wrap_i64]; have := Hn.out; omega
      have Hc := Lib.hid (And.intro e16 (And.intro (hcnt.trans hmk') hmk'))
      have mk2 : Hid True := Lib.hid trivial
      have mk3 : Hid True := Lib.hid trivial
      clear e16 hcnt hmk'
      go_wp2_with (first
        | (go_at_call 8; clear mk2; refine (lspare ((n : Int) - mk) w wr wp n dn T _ _ HL.out (by have := Hc.out.2.1; omega)).mono ?_; rintro e w7 ⟨rfl, hL7⟩; have HL7 := Lib.hid hL7; clear hL7)
        | (go_at_call 9; clear mk3; refine (lhouses w w7 wp n dn T _ _ HL7.out).mono ?_; rintro e w8 ⟨p8, c8, Q8, rfl, hP8, hL8⟩; have HL8 := Lib.hid hL8; clear hL8 hP8)
        | (refine wpList_allocAt rfl 37 rfl (seenA []) zero37 ?_; intro w9 hz hk hs; have HZ9 := Lib.hid hz; have HK9 := Lib.hid hk; have HL9 := Lib.hid (HL8.out.below hk.below); clear hz hk hs)
        | (go_at_call 9; refine (lhouses w w9 wp n dn T _ _ HL9.out).mono ?_; rintro e w10 ⟨p10, c10, Q, rfl, hP, hL10⟩; have HP := Lib.hid hP; have HZ10 := Lib.hid (Below.at hP.below HZ9.out HZ9.out.lt); have HB10 := Lib.hid (HK9.out.below.trans (hP.below.mono HK9.out.size)); clear hP hL10))
      obtain ⟨sb, hsb⟩ : ∃ b, w8.heap.size = b := ⟨_, rfl⟩
      have hz10 := HZ10.out
      have hsb9 : sb < w9.heap.size := hsb ▸ HZ9.out.lt
      rw [hsb] at hz10
      have HS10 := Lib.hid hz10
      simp only [hsb]
      have Hsb := Lib.hid (And.intro hsb hsb9)
      clear hsb hsb9 hz10 HZ9 HZ10
      go_loopg [16] m (fun gk u wr => ∃ i : Nat, i ≤ m ∧ gk = m - i ∧ u = .int .i64 i ∧ At wr sb (seenA (allSegs (T.take i))) 37 ∧ Keep (· = sb) w10 wr)
      case atStart => exact ⟨0, by omega, by omega, rfl, HS10.out, Keep.refl _ _⟩
      case round =>
        obtain ⟨i, hi, hgk, rfl, hS, hK⟩ := hrel
        have Hgk := Lib.hid hgk
        have HS := Lib.hid hS
        have HK := Lib.hid hK
        clear hgk hS hK
        by_cases hlt : i < m
        · obtain ⟨x, hx⟩ : ∃ x, T[i]? = some x := ⟨_, List.getElem?_eq_getElem (by have := Hc.out.1; omega)⟩
          obtain ⟨y, hy⟩ : ∃ y, Q[i]? = some y := ⟨_, List.getElem?_eq_getElem (by rw [HP.out.len]; omega)⟩
          have hyx : y.segs = x.segs := by
            obtain ⟨x', hx', he⟩ := HP.out.segs i y hy
            rw [hx] at hx'
            rw [he, Option.some.inj hx']
          have hlen : x.segs.length = kk := ((Hsh.out i x hx).1 hlt).2.1
          have hoy := HP.out.each y (List.mem_of_getElem? hy)
          rw [hyx, hlen] at hoy
          obtain ⟨gy, capy, cury, hsv, hgy, hgyr⟩ := hoy.2.resolve_left (by have := Hn.out; rintro ⟨_, e⟩; omega)
          obtain ⟨gq, capq, curq, hsl, hgq, hgqr⟩ := HP.out.own.2.resolve_left (by rintro ⟨_, e⟩; omega)
          simp only [Value.slice.injEq] at hsl
          obtain ⟨rfl, _, rfl⟩ := hsl
          have ngq : gq ≠ sb := by have := Hsb.out; omega
          have ngy : gy ≠ sb := by have := Hsb.out; omega
          have d9 : w10.cell? ⟨gq, i * 10 + 9, none⟩ = some (.slice (some ⟨gy, 0, none⟩) kk capy) := by
            have h1 := HP.out.own.cells (g := gq) rfl (i * 10 + 9) y.sv (by
              have h2 := tcells_at Q i y hy
              have h3 : ((tcells Q).drop (i * 10)).take 10 = y.cells := h2
              have h4 : (((tcells Q).drop (i * 10)).take 10)[9]? = some y.sv := by rw [h3]; rfl
              rwa [List.getElem?_take, if_pos (by omega), List.getElem?_drop] at h4)
            rw [add0, hsv] at h1
            exact h1
          have c9 := HK.out.keepCell ngq d9
          have Hxy := Lib.hid (And.intro hx (And.intro hlen hoy))
          have D9 := Lib.hid d9
          have Hng := Lib.hid (And.intro ngq (And.intro ngy hsv))
          have b0 : (0 : Int) ≤ i := by omega
          have b1 : (i : Int) < 16 := by omega
          clear d9 hx hy hyx hlen hoy hgyr hgqr hgy hgq ngq ngy hsv
          have hkk1 : kk < 9223372036854775807 := by have := Hn.out; omega
          go_wp2
          clear c9
          go_loopg [17] kk (fun gj u wj => ∃ j : Nat, j ≤ kk ∧ gj = kk - j ∧ u = .int .i64 j ∧ At wj sb (seenA (allSegs (T.take i) ++ x.segs.take j)) 37 ∧ Keep (· = sb) w10 wj)
          case atStart => exact ⟨0, by omega, by omega, rfl, by simpa using HS.out, HK.out⟩
          case round =>
            obtain ⟨j, hj, hgj, rfl, hS2, hK2⟩ := hrel
            have Hgj := Lib.hid hgj
            have HS2 := Lib.hid hS2
            have HK2 := Lib.hid hK2
            clear hgj hS2 hK2
            by_cases hlt2 : j < kk
            · obtain ⟨z, hz⟩ : ∃ z, x.segs[j]? = some z := ⟨_, List.getElem?_eq_getElem (by rw [Hxy.out.2.1]; exact hlt2)⟩
              have hzr := HL.out.ok.rng z (List.mem_flatMap.2 ⟨x, List.mem_of_getElem? Hxy.out.1, List.mem_of_getElem? hz⟩)
              have hzn := nodup_at HL.out.ok.once Hxy.out.1 hz
              obtain ⟨zn, rfl⟩ : ∃ zn : Nat, z = zn := ⟨z.toNat, by omega⟩
              have hz140 : zn < 140 := by have := Hn.out; omega
              have hznn : zn < n := by omega
              have c9 := HK2.out.keepCell Hng.out.1 D9.out
              have cz : wr.cell? ⟨gy, j, none⟩ = some (.int .i64 (zn : Int)) := by
                refine HK2.out.keepCell Hng.out.2.1 ?_
                have h1 := Hxy.out.2.2
                rw [Hng.out.2.2] at h1
                have h2 := h1.cells (g := gy) rfl j (.int .i64 (zn : Int)) (by rw [List.getElem?_map, hz]; rfl)
                rwa [add0] at h2
              have cs : wr.cell? ⟨sb, zn, none⟩ = some (.bool false) := by
                rw [HS2.out.cell, seenA_at _ _ hz140]; simp [hzn]
              have d1 : ¬ n ≤ zn := by omega
              have d2 : (zn : Int) < 140 := by omega
              have d3 : decide ((zn : Int) < 0) = false := by simp
              have d4 : decide ((n : Int) ≤ zn) = false := by simp; omega
              have Hz := Lib.hid (And.intro hz hzr)
              clear hz hzr hzn
              go_wp2_with (first
                | (refine wpList_storeCell rfl 4 _ _ rfl rfl sb zn (.bool true) (seenA (allSegs (T.take i) ++ x.segs.take j)) 37 rfl rfl HS2.out (by rw [seenA_size]; exact hz140) sizeBool rfl rfl ?_; intro w12 hA12 hk12 hs12))
              go_roundg (kk - (j + 1))
              case measure => have := Hgj.out; omega
              case rel =>
                rw [seenA_set _ _ hz140] at hA12
                refine ⟨j + 1, by omega, rfl, by go_num, ?_, HK2.out.trans hk12 (fun _ _ e => e)⟩
                rw [List.take_add_one, Hz.out.1, Option.toList_some, ← List.append_assoc]
                exact hA12
            · obtain rfl : j = kk := by omega
              go_wp2
              go_roundg (m - (i + 1))
              case measure => have := Hgk.out; omega
              case rel =>
                refine ⟨i + 1, by omega, rfl, by go_num, ?_, HK2.out⟩
                rw [allSegs_take T i x Hxy.out.1]
                have h1 := HS2.out
                rwa [List.take_of_length_le (l := x.segs) (by rw [Hxy.out.2.1]; exact Nat.le_refl _)] at h1
        · have hB10w : Below w8.heap.size w8 wr := HB10.out.trans (HK.out.belowOf HB10.out.size (by intro b hb e; have := Hsb.out.1; omega))
          have HLr := Lib.hid (HL8.out.below hB10w)
          clear hB10w
          by_cases hm0 : m = 0
          · go_wp2_with (first
              | (go_at_call 10; refine (awake_ok _).mono ?_; rintro e w13 ⟨rfl, hb13⟩))
            all_goals (go_ret; exact ⟨rfl, HLr.out.frame.trans (hb13.mono HLr.out.frame.size)⟩)
          · obtain ⟨m1, hm1⟩ : ∃ m1, m = m1 + 1 := ⟨m - 1, by omega⟩
            obtain ⟨mq, hmq⟩ : ∃ mq, m1 * kk = mq := ⟨_, rfl⟩
            have hmkq : mk = mq + kk := by rw [← Hc.out.2.2, hm1, ← hmq, Nat.succ_mul]
            have hmp : (0 : Int) < m := by omega
            have hr0 := Int.emod_nonneg c (show (m : Int) ≠ 0 by omega)
            have hr1 := Int.emod_lt_of_pos c hmp
            obtain ⟨rn, hrn⟩ : ∃ rn : Nat, c % (m : Int) = rn := ⟨(c % (m : Int)).toNat, by omega⟩
            have hrm : rn < m := by omega
            obtain ⟨x, hx⟩ : ∃ x, T[rn]? = some x := ⟨_, List.getElem?_eq_getElem (by have := Hc.out.1; omega)⟩
            have hxs := (Hsh.out rn x hx).1 hrm
            obtain ⟨T1, hT1⟩ : ∃ T1, T.set rn (HVn x.gen) = T1 := ⟨_, rfl⟩
            have hc1 : (allSegs T1).length = mq := by
              have h1 := segs_set_len hx (HVn x.gen)
              rw [hT1, hxs.2.1, Hc.out.2.1] at h1
              have h2 : (HVn x.gen).segs.length = 0 := rfl
              omega
            have hx1 : T1[rn]? = some (HVn 1) := by
              have := (List.getElem?_eq_some_iff.1 hx).1
              rw [← hT1, hxs.2.2]
              simp [this]
            have hw7 : IntKind.i64.wrap (1 + (rn : Int)) = 1 + rn := by rw [IntKind.wrap_i64]; omega
            have hw8 : IntKind.i64.wrap ((m : Int) - 1) = (m1 : Int) := by rw [IntKind.wrap_i64]; omega
            have hw9 : IntKind.i64.wrap ((m1 : Int) * (kk : Int)) = (mq : Int) := by
              rw [IntKind.wrap_i64, show (m1 : Int) * (kk : Int) = (mq : Int) from by rw [← hmq]; simp]; have := Hn.out; omega
            have hw10 : IntKind.i64.wrap ((n : Int) - (mq : Int)) = (n : Int) - mq := by rw [IntKind.wrap_i64]; have := Hn.out; omega
            have Hq := Lib.hid (And.intro hmkq (And.intro hrn (And.intro hx (And.intro hxs (And.intro hT1 (And.intro hc1 (And.intro hx1 hmp)))))))
            have mk4 : Hid True := Lib.hid trivial
            clear hmkq hr0 hr1 hrn hx hxs hT1 hc1 hx1 hmp hmq hm1
            go_wp2_with (first
              | (go_at_call 4; refine (placeN_ok c m rn wr Hq.out.2.1 Hq.out.2.2.2.2.2.2.2 (by omega) Ha.out.2.2.1 Ha.out.2.2.2).mono ?_; rintro e w1 ⟨rfl, rfl⟩)
              | (go_at_call 11; refine (lraze (1 + (rn : Int)) w wr wp n dn T rn _ _ x (by omega) HLr.out Hq.out.2.2.1 Hq.out.2.2.2.1.1 (by rw [Hq.out.2.2.2.1.2.2]; decide) (by omega) (by omega)).mono ?_; rintro e w14 ⟨rfl, hL14⟩; rw [Hq.out.2.2.2.2.1] at hL14; have HL14 := Lib.hid hL14; clear hL14)
              | (go_at_call 8; clear mk4; refine (lspare ((n : Int) - mq) w w14 wp n dn T1 _ _ HL14.out (by have := Hq.out.2.2.2.2.2.1; omega)).mono ?_; rintro e w15 ⟨rfl, hL15⟩; have HL15 := Lib.hid hL15; clear hL15)
              | (go_at_call 7; refine (wideV_ok kk _).mono ?_; rintro e w16 ⟨rfl, hb⟩; have HL16 := Lib.hid (HL15.out.below hb); clear hb)
              | (go_at_call 6; refine (lfound_yes (1 + (rn : Int)) w w16 wp n dn T1 rn kk _ _ (HVn 1) (by omega) HL16.out Hq.out.2.2.2.2.2.2.1 (HVn_none 1 (by decide) (by decide)) (by decide) Hn.out.2.1 (by have := Hn.out.2.2; omega) (by have := Hq.out.1; have := Hq.out.2.2.2.2.2.1; omega) (by omega) (by omega)).mono ?_; rintro e w17 ⟨rfl, sv, hL17⟩; obtain ⟨T2, hT2⟩ : ∃ T2, T1.set rn (HVf ((HVn 1).gen + 1) sv ((freeL n (allSegs T1)).take kk)) = T2 := ⟨_, rfl⟩
                 have hc2 : (allSegs T2).length = mk := by (have h1 := segs_set_len Hq.out.2.2.2.2.2.2.1 (HVf ((HVn 1).gen + 1) sv ((freeL n (allSegs T1)).take kk)); rw [hT2, Hq.out.2.2.2.2.2.1] at h1; have h2 : (HVn 1).segs.length = 0 := rfl; have h3 : (HVf ((HVn 1).gen + 1) sv ((freeL n (allSegs T1)).take kk)).segs.length = kk := (by show ((freeL n (allSegs T1)).take kk).length = kk; have h4 := HL16.out.ok.count; rw [List.length_take]; have := Hq.out.1; have := Hq.out.2.2.2.2.2.1; omega); have := Hq.out.1; omega)
                 rw [hT2] at hL17; have HL17 := Lib.hid hL17; have Hc2 := Lib.hid hc2; clear hL17 hT2 hc2)
              | (go_at_call 8; refine (lspare ((n : Int) - mk) w w17 wp n dn T2 _ _ HL17.out (by have := Hc2.out; omega)).mono ?_; rintro e w18 ⟨rfl, hL18⟩; have HL18 := Lib.hid hL18; clear hL18)
              | (go_at_call 10; refine (awake_ok _).mono ?_; rintro e w13 ⟨rfl, hb13⟩))
            go_ret
            exact ⟨rfl, HL18.out.frame.trans (hb13.mono HL18.out.frame.size)⟩
end Go.Proofs.YtnndkfhpifgaiaaGreat
