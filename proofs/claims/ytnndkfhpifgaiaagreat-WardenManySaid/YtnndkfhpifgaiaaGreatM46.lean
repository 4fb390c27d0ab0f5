/-
  table.Put: the table's bytes.
-/
import Derived.Test.YtnndkfhpifgaiaaGreatM44
import Derived.Test.YtnndkfhpifgaiaaGreatM45
set_option linter.unusedVariables false
set_option linter.unusedSimpArgs false
namespace Go.Proofs.YtnndkfhpifgaiaaGreat
open Go.RowKit

def fsum : Nat → Nat
  | 0 => 0
  | n + 1 => fsum n + flen n
theorem flen_le (j : Nat) : flen j ≤ 7 := by
  unfold flen; split <;> omega
theorem fput (j : Nat) : max (0 : Int) (min (flen j : Int) 7) = (flen j : Int) := by have := flen_le j; omega

theorem fsum_le : ∀ j, j ≤ 10 → fsum j ≤ 21
  | 0, _ => by decide
  | 1, _ => by decide
  | 2, _ => by decide
  | 3, _ => by decide
  | 4, _ => by decide
  | 5, _ => by decide
  | 6, _ => by decide
  | 7, _ => by decide
  | 8, _ => by decide
  | 9, _ => by decide
  | 10, _ => by decide
  | j + 11, h => by omega
/-- The first part of Put: the mark. -/
def pmark : ByteArray := ⟨#[66, 71, 84, 66]⟩
theorem pmark_size : pmark.size = 4 := rfl

section
variable {P : Program}
theorem yields_toStr (ops : Array Oper) (S : World → Prop) (op : Oper) (a : Act) (hgd : op.guard = none) (src dst : TypeId) (x : Operand) (ho : op.op = .convert src dst x) (e : TypeId) (hs : P.underlying src = some (.slice e)) (he : P.underlying e = some (.int .u8)) (hd : P.underlying dst = some .string)
    (b off m c : Nat) (bs : List UInt8) (hx : a.eval x = .slice (some ⟨b, off, none⟩) m c) (hl : bs.length = m) (hS : ∀ w, S w → w.rangeAt b off (bcells bs)) : YieldsIf P ops S op (.string ⟨bs.toArray⟩) a :=
  Or.inl ⟨by simp [Region.wanted, hgd], fun w hw => by
    unfold execOp
    simp only [ho, hx, Sem.run_bind, run_toStr w src dst e hs he hd b off m c bs hl (hS w hw), Result.andThen_ok]
    rfl⟩
end

set_option maxRecDepth 100000 in
set_option maxHeartbeats 4000000 in
theorem tput_ok (num : Int) (b n : Nat) (T : List HV) (N : Nat) (w : World) (h : TableAt w b T N) (hN : N ≤ w.heap.size) (hT : TOk T n) (hnum : 0 ≤ num ∧ num ≤ 1099511627776) :
    Calls Tryz.prog 43 #[.int .i64 num, .slice (some ⟨b, 0, none⟩) 16 16] w fun e w' => ∃ s : ByteArray, s.size = 2048 ∧ e = .returned (.tuple #[.string s, .bool true]) ∧ Below w.heap.size w w' := by
  have hu40 := Tryz.underlying40
  have HT := Lib.hid h
  have HO := Lib.hid hT
  have H16 := Lib.hid hT.len
  clear h hT
  go_enter Tryz.func43, Tryz.ntmps43
  go_wp2_with (first
    | (go_at_call 34; refine (in_ok _ _ _ _ hnum.1 hnum.2).mono ?_; rintro e w1 ⟨rfl, rfl⟩)
    | (go_at_call 79; refine (tcheck_ok b n T N _ HT.out hN HO.out).mono ?_; rintro e w2 ⟨rfl, hb⟩; have HB2 := Lib.hid hb; clear hb)
    | (go_at_call 80; refine (put_any _ _ 6 _ (by decide)).mono ?_; rintro e w3 ⟨s3, hs3, rfl, hb⟩; have HB3 := Lib.hid (HB2.out.trans (hb.mono HB2.out.size)); have Hs3 := Lib.hid hs3; have hcc : ¬ 9223372036854775807 < 4 + s3.size := by (rw [hs3]; omega)
       clear hb hs3)
    | (refine wpList_toBytes rfl _ _ _ rfl 5 Tryz.underlying9 Tryz.underlying119 Tryz.underlying5 (pmark ++ s3) rfl ?_; intro cap sp w4 hcap hrow hk4 hs4; have hps : (pmark ++ s3).size = pmark.size + s3.size := ByteArray.size_append; have hM := BufM.ofBytes (base := w.heap.size) hcap hrow HB3.out.size; rw [hps] at hM; have HM4 := Lib.hid (show BufM w4 w.heap.size (.slice (some ⟨w3.heap.size, 0, none⟩) (pmark.size + s3.size) cap) (10 + 101 * 0) by (rw [Hs3.out] at hM ⊢; exact hM)); clear hM hps hcc; have HB4 := Lib.hid (HB3.out.trans (hk4.below.mono HB3.out.size)); clear hcap hrow hk4 hs4))
  go_loopg [27, 6] 16 (fun gk i u wr => ∃ k : Nat, k ≤ 16 ∧ gk = 16 - k ∧ i = .int .i64 k ∧ BufM wr w.heap.size u (10 + 101 * k) ∧ Below w.heap.size w wr)
  case atStart => exact ⟨0, by omega, by omega, rfl, HM4.out, HB4.out⟩
  case round =>
    obtain ⟨k, hk, hgk, rfl, hM, hb⟩ := hrel
    have Hgk := Lib.hid hgk
    have HM := Lib.hid hM
    have HB := Lib.hid hb
    clear hgk hM hb HM4 HB4 HB2 HB3 Hs3
    by_cases hlt : k < 16
    · obtain ⟨x, hx⟩ : ∃ x, T[k]? = some x := ⟨_, List.getElem?_eq_getElem (by rw [H16.out]; exact hlt)⟩
      have Hx := Lib.hid hx
      clear hx
      obtain ⟨pp, cc, hsv, hcc, hor⟩ := HT.out.ints x (List.mem_of_getElem? Hx.out)
      have Hsv := Lib.hid hsv
      have hlx : x.segs.length ≤ 1000 := (HT.out.one x (List.mem_of_getElem? Hx.out)).2
      clear hsv hor
      go_wp2_with (first
        | (refine wpList_loadIn rfl 40 _ rfl b (k * 10) rfl 40 _ (HT.out.below hN HB.out).cells x.cells (HT.out.row Hx.out) _ rfl hu40 (size40l x) ?_)
        | (refine wpList_allocAt rfl 40 rfl zHouse zero40 ?_; intro w2 hz hk2 hs2; have HZ2 := Lib.hid hz; have HK2 := Lib.hid hk2; have Hs2 := Lib.hid hs2; clear hz hk2 hs2)
        | (refine wpList_storeRow rfl 40 _ _ rfl rfl wr.heap.size x.arr zHouse _ rfl rfl HZ2.out rfl (size40 x) (HV.arr_one ((HT.out.one x (List.mem_of_getElem? Hx.out)).1)) ?_; intro w3 hA hk3 hs3; have HA3 := Lib.hid hA
           have HB3 := Lib.hid (HK2.out.below.trans (hk3.belowOf (by have := Hs2.out; omega) (by intro b hb e; omega))); clear hA hk3 hs3)
        | (go_at_call 81; refine (fields_ok _).mono ?_; rintro e w4 ⟨fb, rfl, hfb, hF, hb4⟩; have HF4 := Lib.hid hF; have HB4 := Lib.hid (HB3.out.trans (hb4.mono HB3.out.size)); have HA4 := Lib.hid (Below.at hb4 HA3.out HA3.out.lt); have Hfb := Lib.hid hfb; clear hF hb4 hfb))
      have HM4 := Lib.hid (HM.out.below HB4.out)
      have HBw4 := Lib.hid (HB.out.trans (HB4.out.mono HB.out.size))
      have hfb0 := Hfb.out
      obtain ⟨ho, hho⟩ : ∃ n, wr.heap.size = n := ⟨_, rfl⟩
      have hA4' := HA4.out
      rw [hho] at hA4'
      have HA4' := Lib.hid hA4'
      simp only [hho]
      clear HZ2 HK2 Hs2 HA3 HB3 hcc hho hA4' HA4
      go_loopg [33, 6] 10 (fun gj i u wj => ∃ j : Nat, j ≤ 10 ∧ gj = 10 - j ∧ i = .int .i64 j ∧ BufM wj w.heap.size u (10 + 101 * k + fsum j) ∧ At wj ho x.arr 40 ∧ FieldsAt wj fb ∧ Below w.heap.size w wj)
      case atStart => exact ⟨0, by omega, by omega, rfl, HM4.out, HA4'.out, HF4.out, HBw4.out⟩
      case round =>
        obtain ⟨j, hj, hgj, rfl, hM2, hA2, hF2, hb2⟩ := hrel
        have Hgj := Lib.hid hgj
        have HM2 := Lib.hid hM2
        have HA2 := Lib.hid hA2
        have HF2 := Lib.hid hF2
        have HB2 := Lib.hid hb2
        clear hgj hM2 hA2 hF2 hb2 HM4 HA4' HF4 HB4 HBw4
        by_cases hlt2 : j < 10
        · by_cases hlt3 : j < 9
          · obtain ⟨q, cs, hcs, hrow, hq⟩ := HF2.out.nth j hlt3
            have Hcs := Lib.hid hcs
            have Hrow := Lib.hid hrow
            have Hq := Lib.hid hq
            clear hcs hrow hq
            have hu157 := Tryz.underlying157
            go_wp2_with (first
              | (refine wpList_loadIn rfl 157 _ rfl fb (j * 3) rfl 157 _ Hcs.out (fieldV (flen j) q).toList Hrow.out _ rfl hu157 (size157 _ _ _) ?_)
              | (refine wpList_allocAt rfl 157 rfl zField zero157 ?_; intro w5 hz hk5 hs5; have HZ5 := Lib.hid hz; have HK5 := Lib.hid hk5; have Hs5 := Lib.hid hs5; clear hz hk5 hs5)
              | (refine wpList_storeRow rfl 157 _ _ rfl rfl wr.heap.size (fieldV (flen j) q) zField _ rfl rfl HZ5.out rfl (size157 _ _ _) (oneField _ _) ?_; intro w6 hA6 hk6 hs6))
            have B6 := Lib.hid (HK5.out.below.trans (hk6.belowOf (by have := Hs5.out; omega) (by intro b hb e; omega)))
            have c0 : w6.cell? ⟨wr.heap.size, 0, none⟩ = some (.int .i64 (flen j : Int)) := hA6.cell 0
            have c1 : w6.cell? ⟨wr.heap.size, 1, none⟩ = some (.func (.func 171) #[] #[.pointer (some ⟨q, 0, none⟩)]) := hA6.cell 1
            have hA6h : At w6 ho x.arr 40 := Below.at B6.out HA2.out HA2.out.lt
            have hM6 := Lib.hid (HM2.out.below B6.out)
            have hne6 : ¬ (u6.ownBlock = some wr.heap.size) := fun e => hM6.out.ne_at hA6 (by decide) _ e rfl
            have hbnd : 10 + 101 * k + fsum j + (flen j) ≤ 1000000 := by
              have : fsum j ≤ 21 := fsum_le j hj
              have := flen_le j
              omega
            have hbs := HB2.out.size
            clear hk6 hs6 HZ5 HK5 Hs5
            (try simp only [Act.put, List.setIfInBounds_toArray, List.set_cons_zero, List.set_cons_succ])
            refine wp_region_noPanic ?_
            refine T_region 8 (fun w' => w'.cell? ⟨wr.heap.size, 0, none⟩ = some (.int .i64 (flen j : Int)) ∧ w'.cell? ⟨wr.heap.size, 1, none⟩ = some (.func (.func 171) #[] #[.pointer (some ⟨q, 0, none⟩)])) (by kernel_rfl) (by kernel_rfl) (by kernel_rfl) (by decide) (by kernel_rfl) ⟨c0, c1⟩ (fun hHeld hU => ?_)
            refine T_take (i := 0) hU 37 ?_ rfl rfl (by decide) (by kernel_rfl) (by kernel_rfl) (fun _ _ _ h => h) (Or.inl ⟨by rfl, ?_⟩) hHeld ?_; rotate_left; (intro w hSw; (try dsimp only at hSw); go_simp); (try with_reducible rfl); clear hU; intro hU; (try simp only [Act.put, List.setIfInBounds_toArray, List.set_cons_zero, List.set_cons_succ])
            refine T_take (i := 1) hU 38 ?_ rfl rfl (by decide) (by kernel_rfl) (by kernel_rfl) (fun _ _ _ h => h) (Or.inl ⟨by rfl, ?_⟩) hHeld ?_; rotate_left; (intro w hSw; (try dsimp only at hSw); go_simp); (try with_reducible rfl); clear hU; intro hU; (try simp only [Act.put, List.setIfInBounds_toArray, List.set_cons_zero, List.set_cons_succ])
            refine T_take (i := 2) hU 39 ?_ rfl rfl (by decide) (by kernel_rfl) (by kernel_rfl) (fun _ _ _ h => h) (Or.inl ⟨by rfl, ?_⟩) hHeld ?_; rotate_left; (intro w hSw; (try dsimp only at hSw); go_simp); (try with_reducible rfl); clear hU; intro hU; (try simp only [Act.put, List.setIfInBounds_toArray, List.set_cons_zero, List.set_cons_succ])
            refine T_take (i := 4) hU 41 ?_ rfl rfl (by decide) (by kernel_rfl) (by kernel_rfl) (fun _ _ _ h => h) (Or.inl ⟨by rfl, ?_⟩) hHeld ?_; rotate_left; (intro w hSw; (try dsimp only at hSw); go_simp); (try with_reducible rfl); clear hU; intro hU; (try simp only [Act.put, List.setIfInBounds_toArray, List.set_cons_zero, List.set_cons_succ])
            refine T_take (i := 5) hU 42 ?_ rfl rfl (by decide) (by kernel_rfl) (by kernel_rfl) (fun _ _ _ h => h) (Or.inl ⟨by rfl, ?_⟩) hHeld ?_; rotate_left; (intro w hSw; (try dsimp only at hSw); go_simp); (try with_reducible rfl); clear hU; intro hU; (try simp only [Act.put, List.setIfInBounds_toArray, List.set_cons_zero, List.set_cons_succ])
            have hHeld3 := hHeld
            refine T_step (i := 3) hU rfl (by decide) (by kernel_rfl) (fun K hK => ?_); clear hU hHeld
            go_simp
            go_at_call 171
            refine (fget_ok ho q j x w6.drew hlt3 (show w6.cell? _ = _ from Below.keepCell B6.out Hq.out) (show At w6 _ _ _ from hA6h)).mono ?_
            rintro e w7 ⟨⟨v, rfl⟩, rfl⟩
            refine hK.out _ _ (hHeld3) (fun hHeld hU => ?_); clear hK K; (try simp only [Act.put, List.setIfInBounds_toArray, List.set_cons_zero, List.set_cons_succ])
            have hHeld6 := hHeld
            refine T_step (i := 6) hU rfl (by decide) (by kernel_rfl) (fun K hK => ?_); clear hU hHeld
            go_simp
            go_at_call 80
            refine (put_any v _ (flen j) _ (fput j)).mono ?_
            rintro e w8 ⟨s8, hs8, rfl, hb8⟩
            refine hK.out _ _ (⟨Below.keepCell hb8 hHeld6.1, Below.keepCell hb8 hHeld6.2⟩) (fun hHeld hU => ?_); clear hK K; (try simp only [Act.put, List.setIfInBounds_toArray, List.set_cons_zero, List.set_cons_succ])
            have hHeld7 := hHeld
            refine T_step (i := 7) hU rfl (by decide) (by kernel_rfl) (fun K hK => ?_); clear hU hHeld
            have b68 : Below w6.heap.size w6 w8 := (World.drew_below0 w6).trans hb8
            refine step_appM rfl _ _ rfl 44 rfl w.heap.size u6 (10 + 101 * k + fsum j) (by with_unfolding_all exact rfl) (hM6.out.below b68) s8 (by with_unfolding_all exact rfl) (by rw [hs8]; exact hbnd) (by have := B6.out.size; have := b68.size; omega) (fun w9 v9 hB9 hg9 => ?_)
            have hk9 : Keep (fun b => u6.ownBlock = some b) w8 w9 := (Keep.refl _ w8).grown hg9 (fun j hj => .inl hj)
            refine hK.out _ _ (⟨hk9.keepCell hne6 hHeld7.1, hk9.keepCell hne6 hHeld7.2⟩) (fun hHeld hU => ?_); clear hK K; (try simp only [Act.put, List.setIfInBounds_toArray, List.set_cons_zero, List.set_cons_succ])
            refine T_last (N := 8) rfl (by kernel_rfl) (by kernel_rfl) (fun K hK => ?_); clear hU hHeld
            go_simp
            refine hK.out _ _ (NoPanic.normal ?_); clear hK K
            have b8 : Below wr.heap.size wr w8 := B6.out.trans (b68.mono B6.out.size)
            have hM8 := HM2.out.below b8
            have hA9 := hk9.at (Below.at b8 HA2.out HA2.out.lt) (fun e => hM8.ne_at (Below.at b8 HA2.out HA2.out.lt) (by decide) _ e rfl)
            have hF9 := (HF2.out.below b8).keep hk9 (fun c cs T hc ht e => hM8.ne_at hc (by rcases ht with rfl | rfl <;> decide) _ e rfl)
            have hBB := (HB2.out.trans (b8.mono hbs)).grown hg9 (by have := b8.size; omega) (fun j hj => (hM8.lt j hj).1)
            rw [hs8] at hB9
            clear hk9 hg9 b8 b68 hM8 hb8 hs8 hHeld3 hHeld6 hHeld7 c0 c1 hA6 hA6h
            go_wp2
            go_roundg (10 - (j + 1))
            case measure => have := Hgj.out; omega
            case rel => exact ⟨j + 1, by omega, rfl, by go_num, (by have := hB9; rw [Nat.add_assoc] at this; exact this), hA9, hF9, hBB⟩
          · obtain rfl : j = 9 := by omega
            obtain ⟨cs, hcs, hrow⟩ := HF2.out.last
            have Hcs := Lib.hid hcs
            have Hrow := Lib.hid hrow
            clear hcs hrow
            have hu157 := Tryz.underlying157
            go_wp2_with (first
              | (refine wpList_loadIn rfl 157 _ rfl fb (9 * 3) rfl 157 _ Hcs.out [.int .i64 1, fnV 136, fnV 137] Hrow.out _ rfl hu157 (size157 _ _ _) ?_)
              | (refine wpList_allocAt rfl 157 rfl zField zero157 ?_; intro w5 hz hk5 hs5; have HZ5 := Lib.hid hz; have HK5 := Lib.hid hk5; have Hs5 := Lib.hid hs5; clear hz hk5 hs5)
              | (refine wpList_storeRow rfl 157 _ _ rfl rfl wr.heap.size #[.int .i64 1, fnV 136, fnV 137] zField _ rfl rfl HZ5.out rfl (size157 _ _ _) (by simp [Value.oneCell', fnV]) ?_; intro w6 hA6 hk6 hs6))
            have B6 := Lib.hid (HK5.out.below.trans (hk6.belowOf (by have := Hs5.out; omega) (by intro b hb e; omega)))
            have c0 : w6.cell? ⟨wr.heap.size, 0, none⟩ = some (.int .i64 1) := hA6.cell 0
            have c1 : w6.cell? ⟨wr.heap.size, 1, none⟩ = some (.func (.func 136) #[] #[]) := hA6.cell 1
            have hA6h : At w6 ho x.arr 40 := Below.at B6.out HA2.out HA2.out.lt
            have hM6 := Lib.hid (HM2.out.below B6.out)
            have hne6 : ¬ (u6.ownBlock = some wr.heap.size) := fun e => hM6.out.ne_at hA6 (by decide) _ e rfl
            have hbnd : 10 + 101 * k + fsum 9 + 1 ≤ 1000000 := by
              have : fsum 9 ≤ 21 := fsum_le 9 (by decide)
              skip
              omega
            have hbs := HB2.out.size
            clear hk6 hs6 HZ5 HK5 Hs5
            (try simp only [Act.put, List.setIfInBounds_toArray, List.set_cons_zero, List.set_cons_succ])
            refine wp_region_noPanic ?_
            refine T_region 8 (fun w' => w'.cell? ⟨wr.heap.size, 0, none⟩ = some (.int .i64 1) ∧ w'.cell? ⟨wr.heap.size, 1, none⟩ = some (.func (.func 136) #[] #[])) (by kernel_rfl) (by kernel_rfl) (by kernel_rfl) (by decide) (by kernel_rfl) ⟨c0, c1⟩ (fun hHeld hU => ?_)
            refine T_take (i := 0) hU 37 ?_ rfl rfl (by decide) (by kernel_rfl) (by kernel_rfl) (fun _ _ _ h => h) (Or.inl ⟨by rfl, ?_⟩) hHeld ?_; rotate_left; (intro w hSw; (try dsimp only at hSw); go_simp); (try with_reducible rfl); clear hU; intro hU; (try simp only [Act.put, List.setIfInBounds_toArray, List.set_cons_zero, List.set_cons_succ])
            refine T_take (i := 1) hU 38 ?_ rfl rfl (by decide) (by kernel_rfl) (by kernel_rfl) (fun _ _ _ h => h) (Or.inl ⟨by rfl, ?_⟩) hHeld ?_; rotate_left; (intro w hSw; (try dsimp only at hSw); go_simp); (try with_reducible rfl); clear hU; intro hU; (try simp only [Act.put, List.setIfInBounds_toArray, List.set_cons_zero, List.set_cons_succ])
            refine T_take (i := 2) hU 39 ?_ rfl rfl (by decide) (by kernel_rfl) (by kernel_rfl) (fun _ _ _ h => h) (Or.inl ⟨by rfl, ?_⟩) hHeld ?_; rotate_left; (intro w hSw; (try dsimp only at hSw); go_simp); (try with_reducible rfl); clear hU; intro hU; (try simp only [Act.put, List.setIfInBounds_toArray, List.set_cons_zero, List.set_cons_succ])
            refine T_take (i := 4) hU 41 ?_ rfl rfl (by decide) (by kernel_rfl) (by kernel_rfl) (fun _ _ _ h => h) (Or.inl ⟨by rfl, ?_⟩) hHeld ?_; rotate_left; (intro w hSw; (try dsimp only at hSw); go_simp); (try with_reducible rfl); clear hU; intro hU; (try simp only [Act.put, List.setIfInBounds_toArray, List.set_cons_zero, List.set_cons_succ])
            refine T_take (i := 5) hU 42 ?_ rfl rfl (by decide) (by kernel_rfl) (by kernel_rfl) (fun _ _ _ h => h) (Or.inl ⟨by rfl, ?_⟩) hHeld ?_; rotate_left; (intro w hSw; (try dsimp only at hSw); go_simp); (try with_reducible rfl); clear hU; intro hU; (try simp only [Act.put, List.setIfInBounds_toArray, List.set_cons_zero, List.set_cons_succ])
            have hHeld3 := hHeld
            refine T_step (i := 3) hU rfl (by decide) (by kernel_rfl) (fun K hK => ?_); clear hU hHeld
            go_simp
            go_at_call 136
            refine (flast_ok ho pp x.segs.length cc w6.drew (show w6.cell? _ = _ by rw [← Hsv.out]; exact hA6h.cell 9)).mono ?_
            rintro e w7 ⟨⟨v, rfl⟩, rfl⟩
            refine hK.out _ _ (hHeld3) (fun hHeld hU => ?_); clear hK K; (try simp only [Act.put, List.setIfInBounds_toArray, List.set_cons_zero, List.set_cons_succ])
            have hHeld6 := hHeld
            refine T_step (i := 6) hU rfl (by decide) (by kernel_rfl) (fun K hK => ?_); clear hU hHeld
            go_simp
            go_at_call 80
            refine (put_any v _ 1 _ (by decide)).mono ?_
            rintro e w8 ⟨s8, hs8, rfl, hb8⟩
            refine hK.out _ _ (⟨Below.keepCell hb8 hHeld6.1, Below.keepCell hb8 hHeld6.2⟩) (fun hHeld hU => ?_); clear hK K; (try simp only [Act.put, List.setIfInBounds_toArray, List.set_cons_zero, List.set_cons_succ])
            have hHeld7 := hHeld
            refine T_step (i := 7) hU rfl (by decide) (by kernel_rfl) (fun K hK => ?_); clear hU hHeld
            have b68 : Below w6.heap.size w6 w8 := (World.drew_below0 w6).trans hb8
            refine step_appM rfl _ _ rfl 44 rfl w.heap.size u6 (10 + 101 * k + fsum 9) (by with_unfolding_all exact rfl) (hM6.out.below b68) s8 (by with_unfolding_all exact rfl) (by rw [hs8]; exact hbnd) (by have := B6.out.size; have := b68.size; omega) (fun w9 v9 hB9 hg9 => ?_)
            have hk9 : Keep (fun b => u6.ownBlock = some b) w8 w9 := (Keep.refl _ w8).grown hg9 (fun j hj => .inl hj)
            refine hK.out _ _ (⟨hk9.keepCell hne6 hHeld7.1, hk9.keepCell hne6 hHeld7.2⟩) (fun hHeld hU => ?_); clear hK K; (try simp only [Act.put, List.setIfInBounds_toArray, List.set_cons_zero, List.set_cons_succ])
            refine T_last (N := 8) rfl (by kernel_rfl) (by kernel_rfl) (fun K hK => ?_); clear hU hHeld
            go_simp
            refine hK.out _ _ (NoPanic.normal ?_); clear hK K
            have b8 : Below wr.heap.size wr w8 := B6.out.trans (b68.mono B6.out.size)
            have hM8 := HM2.out.below b8
            have hA9 := hk9.at (Below.at b8 HA2.out HA2.out.lt) (fun e => hM8.ne_at (Below.at b8 HA2.out HA2.out.lt) (by decide) _ e rfl)
            have hF9 := (HF2.out.below b8).keep hk9 (fun c cs T hc ht e => hM8.ne_at hc (by rcases ht with rfl | rfl <;> decide) _ e rfl)
            have hBB := (HB2.out.trans (b8.mono hbs)).grown hg9 (by have := b8.size; omega) (fun j hj => (hM8.lt j hj).1)
            rw [hs8] at hB9
            clear hk9 hg9 b8 b68 hM8 hb8 hs8 hHeld3 hHeld6 hHeld7 c0 c1 hA6 hA6h
            go_wp2
            go_roundg (10 - (9 + 1))
            case measure => have := Hgj.out; omega
            case rel => exact ⟨9 + 1, by omega, rfl, by go_num, (by have := hB9; rw [Nat.add_assoc] at this; exact this), hA9, hF9, hBB⟩
        · obtain rfl : j = 10 := by omega
          have hM3 := Lib.hid (show BufM wr w.heap.size u6 (10 + 101 * k + 21 + 2 * 0) from HM2.out)
          have hlb3 : x.segs.length < 9223372036854775807 := by omega
          clear hlt2 Hgj
          go_wp2
          go_loopg [46, 6] 40 (fun gj i u wj => ∃ j : Nat, j ≤ 40 ∧ gj = 40 - j ∧ i = .int .i64 j ∧ BufM wj w.heap.size u (10 + 101 * k + 21 + 2 * j) ∧ At wj ho x.arr 40 ∧ Below w.heap.size w wj)
          case atStart => exact ⟨0, by omega, by omega, rfl, hM3.out, HA2.out, HB2.out⟩
          case round =>
            obtain ⟨j, hj, hgj, rfl, hM2, hA2, hb2⟩ := hrel
            have Hgj := Lib.hid hgj
            have HM2 := Lib.hid hM2
            have HA2 := Lib.hid hA2
            have HB2 := Lib.hid hb2
            have c9 : wr.cell? ⟨ho, 9, none⟩ = some (.slice pp x.segs.length cc) := by rw [← Hsv.out]; exact hA2.cell 9
            have hbs := HB2.out.size
            clear hgj hM2 hA2 hb2 hM3 HF2
            by_cases hlt2 : j < 40
            · by_cases hlt3 : j < x.segs.length
              · obtain ⟨y, hy⟩ : ∃ y, x.segs[j]? = some y := ⟨_, List.getElem?_eq_getElem hlt3⟩
                obtain ⟨pb, po, pc, hpb, hpv, hpc, hcell⟩ := (HT.out.ints x (List.mem_of_getElem? Hx.out)).cells (by intro e; rw [e] at hlt3; simp at hlt3)
                rw [Hsv.out] at hpv
                simp only [Value.slice.injEq] at hpv
                obtain ⟨rfl, _, rfl⟩ := hpv
                have cy : wr.cell? ⟨pb, po + j, none⟩ = some (.int .i64 y) := Below.keepCell HB2.out (hcell j y hy)
                clear hcell hpb hpc hy
                go_wp2_with (first
                  | (go_at_call 80; refine (put_any _ _ 2 _ (by decide)).mono ?_; rintro e w5 ⟨s5, hs5, rfl, hb5⟩; have HB5 := Lib.hid hb5; have HM5 := Lib.hid (HM2.out.below hb5); have HA5 := Lib.hid (Below.at hb5 HA2.out HA2.out.lt); have Hs5 := Lib.hid hs5; clear hb5 hs5 c9 cy)
                  | (refine wpList_appM rfl _ _ rfl w.heap.size u6 (10 + 101 * k + 21 + 2 * j) rfl HM5.out s5 rfl (by rw [Hs5.out]; omega) (by have := HB5.out.size; omega) ?_; intro v6 w6 hM6 hg6))
                have hk6 : Keep (fun b => u6.ownBlock = some b) w5 w6 := (Keep.refl _ w5).grown hg6 (fun j hj => .inl hj)
                go_roundg (40 - (j + 1))
                case measure => have := Hgj.out; omega
                case rel =>
                  rw [Hs5.out] at hM6
                  exact ⟨j + 1, by omega, rfl, by go_num, (by rw [show 10 + 101 * k + 21 + 2 * (j + 1) = 10 + 101 * k + 21 + 2 * j + 2 from by omega]; exact hM6), hk6.at HA5.out (fun e => HM5.out.ne_at HA5.out (by decide) _ e rfl), (HB2.out.trans (HB5.out.mono hbs)).grown hg6 (by have := HB5.out.size; omega) (fun j hj => (HM5.out.lt j hj).1)⟩
              · go_wp2_with (first
                  | (go_at_call 80; refine (put_any _ _ 2 _ (by decide)).mono ?_; rintro e w5 ⟨s5, hs5, rfl, hb5⟩; have HB5 := Lib.hid hb5; have HM5 := Lib.hid (HM2.out.below hb5); have HA5 := Lib.hid (Below.at hb5 HA2.out HA2.out.lt); have Hs5 := Lib.hid hs5; clear hb5 hs5 c9)
                  | (refine wpList_appM rfl _ _ rfl w.heap.size u6 (10 + 101 * k + 21 + 2 * j) rfl HM5.out s5 rfl (by rw [Hs5.out]; omega) (by have := HB5.out.size; omega) ?_; intro v6 w6 hM6 hg6))
                have hk6 : Keep (fun b => u6.ownBlock = some b) w5 w6 := (Keep.refl _ w5).grown hg6 (fun j hj => .inl hj)
                go_roundg (40 - (j + 1))
                case measure => have := Hgj.out; omega
                case rel =>
                  rw [Hs5.out] at hM6
                  exact ⟨j + 1, by omega, rfl, by go_num, (by rw [show 10 + 101 * k + 21 + 2 * (j + 1) = 10 + 101 * k + 21 + 2 * j + 2 from by omega]; exact hM6), hk6.at HA5.out (fun e => HM5.out.ne_at HA5.out (by decide) _ e rfl), (HB2.out.trans (HB5.out.mono hbs)).grown hg6 (by have := HB5.out.size; omega) (fun j hj => (HM5.out.lt j hj).1)⟩
            · obtain rfl : j = 40 := by omega
              clear c9
              go_wp2
              go_roundg (16 - (k + 1))
              case measure => have := Hgk.out; omega
              case rel => exact ⟨k + 1, by omega, rfl, by go_num, (by rw [show 10 + 101 * (k + 1) = 10 + 101 * k + 21 + 2 * 40 from by omega]; exact HM2.out), HB2.out⟩
    · obtain rfl : k = 16 := by omega
      obtain ⟨g0, c0, bs0, rfl, hl0, hr0⟩ := HM.out.form
      have hw1 : IntKind.i64.wrap ((2044 : Int) - ((10 + 101 * 16 : Nat) : Int)) = 418 := by decide
      clear hl0 hr0
      go_wp2_with (first
        | (refine wpList_appMZ rfl _ _ rfl w.heap.size _ (10 + 101 * 16) rfl HM.out 418 rfl (by decide) (by decide) HB.out.size ?_; intro v5 w5 hM5 hg5; have HM5 := Lib.hid hM5; have HB5 := Lib.hid (HB.out.grown hg5 HB.out.size (fun j hj => (HM.out.lt j hj).1)); clear hM5 hg5))
      obtain ⟨g5, c5, bs5, rfl, hl5, hr5⟩ := HM5.out.form
      have hl5' : bs5.length = 2044 := hl5
      have hsz5 : (⟨bs5.toArray⟩ : ByteArray).size = 2044 := by show bs5.toArray.size = 2044; simpa using hl5'
      have Hof := Lib.hid (of_any ⟨bs5.toArray⟩ w5.drew (by rw [hsz5]; decide))
      have Hl5 := Lib.hid hl5
      have Hs5 := Lib.hid hsz5
      have Hr5 := Lib.hid hr5
      clear hl5 hl5' hsz5
      (try simp only [Act.put, List.setIfInBounds_toArray, List.set_cons_zero, List.set_cons_succ])
      refine wp_region_noPanic ?_
      refine T_region 9 (fun w' => w'.rangeAt g5 0 (bcells bs5)) (by kernel_rfl) (by kernel_rfl) (by kernel_rfl) (by decide) (by kernel_rfl) hr5 (fun hHeld hU => ?_)
      refine T_take (i := 0) hU 70 ?_ rfl rfl (by decide) (by kernel_rfl) (by kernel_rfl) (fun _ _ _ h => h) (Or.inl ⟨by rfl, ?_⟩) hHeld ?_; rotate_left; (intro w hSw; (try dsimp only at hSw); go_simp); (try with_reducible rfl); clear hU; intro hU; (try simp only [Act.put, List.setIfInBounds_toArray, List.set_cons_zero, List.set_cons_succ])
      refine T_take (i := 1) hU 71 (.string ⟨bs5.toArray⟩) rfl rfl (by decide) (by kernel_rfl) (by kernel_rfl) (fun _ _ _ h => h) (yields_toStr _ _ _ _ rfl 119 9 _ rfl 5 Tryz.underlying119 Tryz.underlying5 Tryz.underlying9 g5 0 _ c5 bs5 rfl Hl5.out (fun _ h => h)) hHeld ?_; clear hU; intro hU; (try simp only [Act.put, List.setIfInBounds_toArray, List.set_cons_zero, List.set_cons_succ])
      refine T_take (i := 2) hU 72 ?_ rfl rfl (by decide) (by kernel_rfl) (by kernel_rfl) (fun _ _ _ h => h) (Or.inl ⟨by rfl, ?_⟩) hHeld ?_; rotate_left; (intro w hSw; (try dsimp only at hSw); go_simp); (try with_reducible rfl); clear hU; intro hU; (try simp only [Act.put, List.setIfInBounds_toArray, List.set_cons_zero, List.set_cons_succ])
      refine T_take (i := 3) hU 73 (.string ⟨bs5.toArray⟩) rfl rfl (by decide) (by kernel_rfl) (by kernel_rfl) (fun _ _ _ h => h) (yields_toStr _ _ _ _ rfl 119 9 _ rfl 5 Tryz.underlying119 Tryz.underlying5 Tryz.underlying9 g5 0 _ c5 bs5 rfl Hl5.out (fun _ h => h)) hHeld ?_; clear hU; intro hU; (try simp only [Act.put, List.setIfInBounds_toArray, List.set_cons_zero, List.set_cons_succ])
      have hHeld4 := hHeld
      refine T_step (i := 4) hU rfl (by decide) (by kernel_rfl) (fun K hK => ?_); clear hU hHeld
      go_simp
      go_at_call 82
      refine Hof.out.mono ?_
      rintro e w6 ⟨xs, rfl, hb6⟩
      refine hK.out _ _ (Below.keepRange hb6 hHeld4) (fun hHeld hU => ?_); clear hK K; (try simp only [Act.put, List.setIfInBounds_toArray, List.set_cons_zero, List.set_cons_succ])
      refine T_take (i := 5) hU 75 ?_ rfl rfl (by decide) (by kernel_rfl) (by kernel_rfl) (fun _ _ _ h => h) (Or.inl ⟨by rfl, ?_⟩) hHeld ?_; rotate_left; (intro w hSw; (try dsimp only at hSw); go_simp); (try with_reducible rfl); clear hU; intro hU; (try simp only [Act.put, List.setIfInBounds_toArray, List.set_cons_zero, List.set_cons_succ])
      have hHeld6 := hHeld
      refine T_step (i := 6) hU rfl (by decide) (by kernel_rfl) (fun K hK => ?_); clear hU hHeld
      go_simp
      go_at_call 80
      refine (put_any _ _ 4 _ (by decide)).mono ?_
      rintro e w7 ⟨s7, hs7, rfl, hb7⟩
      have hcc : ¬ 9223372036854775807 < bs5.length + 4 := by rw [Hl5.out]; decide
      refine hK.out _ _ (Below.keepRange hb7 hHeld6) (fun hHeld hU => ?_); clear hK K; (try simp only [Act.put, List.setIfInBounds_toArray, List.set_cons_zero, List.set_cons_succ])
      refine T_take (i := 7) hU 77 ?_ rfl rfl (by decide) (by kernel_rfl) (by kernel_rfl) (fun _ _ _ h => h) (Or.inl ⟨by rfl, ?_⟩) hHeld ?_; rotate_left; (intro w hSw; (try dsimp only at hSw); go_simp); (try with_reducible rfl); clear hU; intro hU; (try simp only [Act.put, List.setIfInBounds_toArray, List.set_cons_zero, List.set_cons_succ])
      refine T_take (i := 8) hU 4 ?_ rfl rfl (by decide) (by kernel_rfl) (by kernel_rfl) (fun _ _ _ h => h) (Or.inl ⟨by rfl, ?_⟩) hHeld ?_; rotate_left; (intro w hSw; (try dsimp only at hSw); go_simp); (try with_reducible rfl); clear hU; intro hU; (try simp only [Act.put, List.setIfInBounds_toArray, List.set_cons_zero, List.set_cons_succ])
      refine T_last (N := 9) rfl (by kernel_rfl) (by kernel_rfl) (fun K hK => ?_); clear hU hHeld
      go_simp
      refine hK.out _ _ (NoPanic.normal ?_); clear hK K
      go_wp2_with fail
      go_ret2
      have b6 := (World.drew_below0 w5).trans hb6
      refine ⟨_, ?_, rfl, (HB5.out.trans (b6.mono HB5.out.size)).trans (hb7.mono (Nat.le_trans HB5.out.size b6.size))⟩
      rw [ByteArray.size_append, Hs5.out, hs7]
end Go.Proofs.YtnndkfhpifgaiaaGreat
