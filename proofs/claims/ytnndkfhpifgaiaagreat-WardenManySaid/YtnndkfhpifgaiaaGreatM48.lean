/-
  warden.Spare, House.
  warden.Houses: a copy of the table.
  The table as a list: an entry set; how many segments are free.
  warden.gone, Raze (not wiped).
-/
import Derived.Test.YtnndkfhpifgaiaaGreatM47
set_option linter.unusedVariables false
set_option linter.unusedSimpArgs false
namespace Go.Proofs.YtnndkfhpifgaiaaGreat
open Go.RowKit

theorem WarAt.geo {w : World} {wp : Nat} {W : WarV} {T : List HV} {n dn Bd : Nat} {F : Nat → Prop} (h : WarAt w wp W T n dn Bd F) : w.rangeAt wp 1 [.int .i64 W.sct, .int .i64 32] := by
  have := h.cells.range 1 2
  simpa [WarV.cells, WarV.pre] using this

set_option maxRecDepth 100000 in
set_option maxHeartbeats 2000000 in
theorem spare_ok (wp : Nat) (W : WarV) (T : List HV) (n dn Bd : Nat) (F : Nat → Prop) (w : World) (h : WarAt w wp W T n dn Bd F) :
    Calls Tryz.prog 8 #[.pointer (some ⟨wp, 0, none⟩)] w (Ans (.int .i64 (freeL n (allSegs T)).length) w) := by
  have hu25 := Tryz.underlying25
  have H := Lib.hid h
  have rg := h.geo
  have c4 := h.c4
  have e16 : T.length = 16 := h.ok.len
  have hfr := fun (w' : World) (hb : Below w.heap.size w w') => free_ok n W.lb 16 T w.heap.size w' (h.tab.below (Nat.le_refl _) hb) hb.size (by omega) (by omega) (by have := h.n1; omega)
  rw [e16] at hfr
  have Hfr := Lib.hid hfr
  have Hs := Lib.hid (And.intro h.sct (And.intro h.n0 h.n1))
  clear h hfr
  go_enter Tryz.func8, Tryz.ntmps8
  go_wp2
  (try simp only [Act.put, List.setIfInBounds_toArray, List.set_cons_zero, List.set_cons_succ])
  refine wp_region_noPanic ?_
  refine T_region 11 (fun w' => w'.rangeAt wp 1 [.int .i64 W.sct, .int .i64 32] ∧ w'.cell? ⟨wp, 4, none⟩ = some (.slice (some ⟨W.lb, 0, none⟩) 16 16)) (by kernel_rfl) (by kernel_rfl) (by kernel_rfl) (by decide) (by kernel_rfl) ⟨rg, c4⟩ (fun hHeld hU => ?_)
  refine T_take (i := 0) hU 3 ?_ rfl rfl (by decide) (by kernel_rfl) (by kernel_rfl) (fun _ _ _ h => h) (Or.inl ⟨by rfl, ?_⟩) hHeld ?_; rotate_left; (intro w hSw; (try dsimp only at hSw); go_simp); (try with_reducible rfl); clear hU; intro hU; (try simp only [Act.put, List.setIfInBounds_toArray, List.set_cons_zero, List.set_cons_succ])
  refine T_take (i := 1) hU 4 ?_ rfl rfl (by decide) (by kernel_rfl) (by kernel_rfl) (fun _ _ _ h => h) (Or.inl ⟨by rfl, ?_⟩) hHeld ?_; rotate_left; (intro w hSw; (try dsimp only at hSw); go_simp); (try with_reducible rfl); clear hU; intro hU; (try simp only [Act.put, List.setIfInBounds_toArray, List.set_cons_zero, List.set_cons_succ])
  refine T_take (i := 2) hU 5 ?_ rfl rfl (by decide) (by kernel_rfl) (by kernel_rfl) (fun _ _ _ h => h) (Or.inl ⟨by rfl, ?_⟩) hHeld ?_; rotate_left; (intro w hSw; (try dsimp only at hSw); go_simp); (try with_reducible rfl); clear hU; intro hU; (try simp only [Act.put, List.setIfInBounds_toArray, List.set_cons_zero, List.set_cons_succ])
  refine T_take (i := 3) hU 6 (.agg #[.int .i64 W.sct, .int .i64 32]) rfl rfl (by decide) (by kernel_rfl) (by kernel_rfl) (fun _ _ _ h => h) (yields_load _ _ _ _ rfl _ _ rfl wp 1 rfl _ _ hu25 rfl (size25 _ _) (fun _ h => h.1)) hHeld ?_; clear hU; intro hU; (try simp only [Act.put, List.setIfInBounds_toArray, List.set_cons_zero, List.set_cons_succ])
  refine T_take (i := 5) hU 8 ?_ rfl rfl (by decide) (by kernel_rfl) (by kernel_rfl) (fun _ _ _ h => h) (Or.inl ⟨by rfl, ?_⟩) hHeld ?_; rotate_left; (intro w hSw; (try dsimp only at hSw); go_simp); (try with_reducible rfl); clear hU; intro hU; (try simp only [Act.put, List.setIfInBounds_toArray, List.set_cons_zero, List.set_cons_succ])
  refine T_take (i := 6) hU 9 ?_ rfl rfl (by decide) (by kernel_rfl) (by kernel_rfl) (fun _ _ _ h => h) (Or.inl ⟨by rfl, ?_⟩) hHeld ?_; rotate_left; (intro w hSw; (try dsimp only at hSw); go_simp); (try with_reducible rfl); clear hU; intro hU; (try simp only [Act.put, List.setIfInBounds_toArray, List.set_cons_zero, List.set_cons_succ])
  refine T_take (i := 7) hU 10 ?_ rfl rfl (by decide) (by kernel_rfl) (by kernel_rfl) (fun _ _ _ h => h) (Or.inl ⟨by rfl, ?_⟩) hHeld ?_; rotate_left; (intro w hSw; (try dsimp only at hSw); go_simp); (try with_reducible rfl); clear hU; intro hU; (try simp only [Act.put, List.setIfInBounds_toArray, List.set_cons_zero, List.set_cons_succ])
  refine T_take (i := 8) hU 11 ?_ rfl rfl (by decide) (by kernel_rfl) (by kernel_rfl) (fun _ _ _ h => h) (Or.inl ⟨by rfl, ?_⟩) hHeld ?_; rotate_left; (intro w hSw; (try dsimp only at hSw); go_simp); (try with_reducible rfl); clear hU; intro hU; (try simp only [Act.put, List.setIfInBounds_toArray, List.set_cons_zero, List.set_cons_succ])
  have hHeld4 := hHeld
  refine T_step (i := 4) hU rfl (by decide) (by kernel_rfl) (fun K hK => ?_); clear hU hHeld
  go_simp
  go_at_call 17
  refine (segs_ok W.sct n _ Hs.out.1 Hs.out.2.1 Hs.out.2.2).mono ?_
  rintro e w2 ⟨rfl, hb2⟩
  have b2 := (World.drew_below0 w).trans hb2
  refine hK.out _ _ (⟨Below.keepRange hb2 hHeld4.1, Below.keepCell hb2 hHeld4.2⟩) (fun hHeld hU => ?_); clear hK K; (try simp only [Act.put, List.setIfInBounds_toArray, List.set_cons_zero, List.set_cons_succ])
  have hHeld9 := hHeld
  refine T_step (i := 9) hU rfl (by decide) (by kernel_rfl) (fun K hK => ?_); clear hU hHeld
  go_simp
  go_at_call 22
  refine (Hfr.out w2 b2).mono ?_
  rintro e w3 ⟨u, rfl, hown, hb3⟩
  obtain ⟨pu, cu, rfl⟩ := ownsRow_slice hown
  refine hK.out _ _ (⟨Below.keepRange hb3 hHeld9.1, Below.keepCell hb3 hHeld9.2⟩) (fun hHeld hU => ?_); clear hK K; (try simp only [Act.put, List.setIfInBounds_toArray, List.set_cons_zero, List.set_cons_succ])
  refine T_take (i := 10) hU 13 ?_ rfl rfl (by decide) (by kernel_rfl) (by kernel_rfl) (fun _ _ _ h => h) (Or.inl ⟨by rfl, ?_⟩) hHeld ?_; rotate_left; (intro w hSw; (try dsimp only at hSw); go_simp); (try with_reducible rfl); clear hU; intro hU; (try simp only [Act.put, List.setIfInBounds_toArray, List.set_cons_zero, List.set_cons_succ])
  refine T_last (N := 11) rfl (by kernel_rfl) (by kernel_rfl) (fun K hK => ?_); clear hU hHeld
  go_simp
  refine hK.out _ _ (NoPanic.normal ?_); clear hK K
  go_wp2
  go_ret
  exact ⟨rfl, b2.trans (hb3.mono b2.size)⟩

theorem WarAt.ch {w : World} {wp : Nat} {W : WarV} {T : List HV} {n dn Bd : Nat} {F : Nat → Prop} (h : WarAt w wp W T n dn Bd F) (k : Nat) : w.cell? ⟨wp, 5 + k, none⟩ = W.hs[k]? := by
  rw [h.cells.cell]
  simp [WarV.cells, WarV.pre, Nat.add_comm 5 k]

set_option maxRecDepth 100000 in
theorem whouse_yes (wp b k : Nat) (w : World) (h1 : 1 ≤ k) (h2 : k ≤ 16) (hc : w.cell? ⟨wp, 5 + k, none⟩ = some (.pointer (some ⟨b, 0, none⟩))) :
    Calls Tryz.prog 24 #[.pointer (some ⟨wp, 0, none⟩), .int .i64 k] w fun e w' => e = .returned (.tuple #[.pointer (some ⟨b, 0, none⟩), .bool true]) ∧ w' = w := by
  have e0 : decide ((k : Int) < 1) = false := by simp; omega
  have e1 : decide ((16 : Int) < k) = false := by simp; omega
  have i0 : (0 : Int) ≤ k := by omega
  have i1 : (k : Int) < 17 := by omega
  have i2 : k < 17 := by omega
  go_enter Tryz.func24, Tryz.ntmps24
  go_wp2
  go_ret2
  exact ⟨rfl, rfl⟩
set_option maxRecDepth 100000 in
theorem whouse_no (wp k : Nat) (w : World) (h1 : 1 ≤ k) (h2 : k ≤ 16) (hc : w.cell? ⟨wp, 5 + k, none⟩ = some (.pointer none)) :
    Calls Tryz.prog 24 #[.pointer (some ⟨wp, 0, none⟩), .int .i64 k] w fun e w' => e = .returned (.tuple #[.pointer none, .bool false]) ∧ w' = w := by
  have e0 : decide ((k : Int) < 1) = false := by simp; omega
  have e1 : decide ((16 : Int) < k) = false := by simp; omega
  have i0 : (0 : Int) ≤ k := by omega
  have i1 : (k : Int) < 17 := by omega
  have i2 : k < 17 := by omega
  go_enter Tryz.func24, Tryz.ntmps24
  go_wp2
  go_ret2
  exact ⟨rfl, rfl⟩
end Go.Proofs.YtnndkfhpifgaiaaGreat
namespace Go.Proofs.YtnndkfhpifgaiaaGreat
open Go.RowKit

theorem hcells_one {h : HV} (hs : h.sv.oneCell' = true) : ∀ u ∈ h.cells, u.oneCell' = true := by
  intro u hu
  simp only [HV.cells, List.mem_cons, List.not_mem_nil, or_false] at hu
  rcases hu with rfl | rfl | rfl | rfl | rfl | rfl | rfl | rfl | rfl | rfl <;> first | rfl | exact hs
theorem arr_cells (h : HV) : h.arr.toList = h.cells := rfl
theorem At.cellsL {w : World} {b : Nat} {h : HV} {T : TypeId} (hA : At w b h.arr T) (j : Nat) (u : Value) (hj : h.cells[j]? = some u) : w.cell? ((⟨b, 0, none⟩ : Addr).add j) = some u := by
  have hadd : (⟨b, 0, none⟩ : Addr).add j = ⟨b, j, none⟩ := by unfold Addr.add; split <;> simp_all
  rw [hadd, hA.cell, ← hj, ← arr_cells]
  simp

section
variable {o : Oper} {ops : Array Oper} {Q : Exit → Act → World → Prop} {rest : List Oper} {a : Act} {w : World}
theorem wpList_appendHouse (hg : o.guard = none) (s x : Operand) (ho : o.op = .call { callee := .builtin .append, args := #[s, x], argTypes := #[35, 35] })
    (base : Nat) (v : Value) (n : Nat) (xs : List Value) (hs : a.eval s = v) (hown : w.ownsRow base 40 10 v n xs) (b : Nat) (h : HV) (hx : a.eval x = .slice (some ⟨b, 0, none⟩) 1 1) (hb : At w b h.arr 40) (h1 : h.sv.oneCell' = true) (hn : n ≤ 1000) (hbase : base ≤ w.heap.size)
    (hK : ∀ v' w', w'.ownsRow base 40 10 v' (n + 1) (xs ++ h.cells) → w.grownBy w' v.ownBlock → (v'.ownBlock = v.ownBlock ∨ v'.ownBlock = some w.heap.size) → wpList Tryz.prog ops Q rest (a.put o.dst v') w') : wpList Tryz.prog ops Q (o :: rest) a w := by
  refine wpList_appendHere hg s x _ ho 40 10 96 (.agg zHouse) Tryz.underlying35 info40 rfl (by omega) v n xs hs (ownsRow_zero hown) ⟨b, 0, none⟩ 1 1 h.cells hx rfl (fun j u hj => At.cellsL hb j u hj) (hcells_one h1) (by unfold maxLen; omega) (by omega) (fun v' w' h1 h2 h3 => hK v' w' (ownsRow_raise h1 fun j hj => ?_) h2 h3)
  rcases h3 with h3 | h3
  · exact (hown.lt j (h3 ▸ hj)).1
  · rw [h3] at hj; simp only [Option.some.injEq] at hj; omega
end

def HV.withSv (x : HV) (v : Value) : HV := { x with sv := v }
theorem info40s : (Tryz.prog.info? 40).map (fun i => (i.zero, i.size)) = some (some (.agg zHouse), 10) := by kernel_rfl
theorem wpList_buildHouse {o : Oper} {ops : Array Oper} {Q : Exit → Act → World → Prop} {rest : List Oper} {a : Act} {w : World} (hg : o.guard = none) (x : Operand) (ho : o.op = .buildSlice 35 1 #[(0, x)]) (h : HV) (hx : a.eval x = .agg h.arr)
    (hK : ∀ w', At w' w.heap.size h.arr 40 → Keep (fun _ => False) w w' → w'.heap.size = w.heap.size + 1 → wpList Tryz.prog ops Q rest (a.put o.dst (.slice (some ⟨w.heap.size, 0, none⟩) 1 1)) w') : wpList Tryz.prog ops Q (o :: rest) a w := by
  refine wpList_plain hg fun K hK' => ?_
  unfold Oper.wp execOp
  simp only [ho, List.map_toArray, List.map_cons, List.map_nil, hx, Sem.run_bind, run_buildSlice1 w 35 40 10 h.arr zHouse Tryz.underlying35 info40s rfl rfl (by decide) (by decide), Result.andThen_ok]
  exact hK' _ _ (hK _ (At.new _ _ _) ((Keep.refl _ w).alloc _) (by simp))
theorem HV.arr_sv (x : HV) (v : Value) : x.arr.setIfInBounds 9 v = (x.withSv v).arr := by simp [HV.arr, HV.withSv]
theorem HV.withSv_sv (x : HV) (v : Value) : (x.withSv v).sv = v := rfl
theorem HV.withSv_segs (x : HV) (v : Value) : (x.withSv v).segs = x.segs := rfl
theorem tcells_snoc (T : List HV) (h : HV) : tcells (T ++ [h]) = tcells T ++ h.cells := by simp [tcells]

/-- Copies of some entries: the segments are the same. -/
structure HsPart (w0 w : World) (T : List HV) (k : Nat) (u : Value) (Q : List HV) : Prop where
  len : Q.length = k
  segs : ∀ (i : Nat) (y : HV), Q[i]? = some y → ∃ x, T[i]? = some x ∧ y.segs = x.segs
  own : w.ownsRow w0.heap.size 40 10 u k (tcells Q)
  each : ∀ y ∈ Q, w.ownsRow w0.heap.size 3 1 y.sv y.segs.length (y.segs.map (Value.int .i64))
  below : Below w0.heap.size w0 w

/-- What Houses answers. -/
def HsEnd (w : World) (T : List HV) (e : Ending) (w' : World) : Prop := ∃ u Q, e = .returned u ∧ HsPart w w' T 16 u Q

set_option maxRecDepth 100000 in
set_option maxHeartbeats 1000000 in
theorem houses_ok (wp : Nat) (W : WarV) (T : List HV) (n dn Bd : Nat) (F : Nat → Prop) (w : World) (h : WarAt w wp W T n dn Bd F) :
    Calls Tryz.prog 9 #[.pointer (some ⟨wp, 0, none⟩)] w (HsEnd w T) := by
  have hu40 := Tryz.underlying40
  have H := Lib.hid h
  have c4 := h.c4
  have H16 := Lib.hid h.ok.len
  have HT := Lib.hid h.tab
  clear h
  go_enter Tryz.func9, Tryz.ntmps9
  go_wp2
  go_loopg [3, 11] 16 (fun gk u i wr => ∃ (k : Nat) (Q : List HV), k ≤ 16 ∧ gk = 16 - k ∧ i = .int .i64 k ∧ HsPart w wr T k u Q)
  case atStart => exact ⟨0, [], by omega, by omega, rfl, rfl, by simp, World.ownsRow_nil _ _ _ _, by simp, Below.refl _ _⟩
  case round =>
    obtain ⟨k, Q, hk, hgk, rfl, hP⟩ := hrel
    have Hgk := Lib.hid hgk
    have HP := Lib.hid hP
    clear hgk hP
    by_cases hlt : k < 16
    · obtain ⟨x, hx⟩ : ∃ x, T[k]? = some x := ⟨_, List.getElem?_eq_getElem (by rw [H16.out]; exact hlt)⟩
      have Hx := Lib.hid hx
      clear hx
      have hlx : x.segs.length ≤ 1000 := (HT.out.one x (List.mem_of_getElem? Hx.out)).2
      have hi40 := Lib.hid (size40 x)
      have hbs := HP.out.below.size
      go_wp2_with (first
        | (refine wpList_load_row rfl 40 _ rfl wr.heap.size rfl 40 ((x.withSv (.slice p4 x.segs.length c4'))).arr (0, 0) _ HA5.out hu40 rfl Hi5.out ?_)
        | (refine wpList_loadIn rfl 40 _ rfl W.lb (k * 10) rfl 40 _ (HT.out.below (Nat.le_refl _) HP.out.below).cells x.cells (HT.out.row Hx.out) _ rfl hu40 (size40l x) ?_)
        | (refine wpList_allocAt rfl 40 rfl zHouse zero40 ?_; intro w2 hz hk2 hs2; have HZ2 := Lib.hid hz; have HK2 := Lib.hid hk2; have Hs2 := Lib.hid hs2; clear hz hk2 hs2)
        | (refine wpList_storeRow rfl 40 _ _ rfl rfl wr.heap.size x.arr zHouse _ rfl rfl HZ2.out rfl (size40 x) (HV.arr_one ((HT.out.one x (List.mem_of_getElem? Hx.out)).1)) ?_; intro w3 hA hk3 hs3; have HA3 := Lib.hid hA
           have HB3 := Lib.hid (HK2.out.below.trans (hk3.belowOf (by have := Hs2.out; omega) (by intro b hb e; omega))); have c9 : w3.cell? ⟨wr.heap.size, 9, none⟩ = some x.sv := hA.cell 9; clear hA hk3 hs3)
        | (go_at_call 23; refine (clone_ok x.sv x.segs w.heap.size _ ((HT.out.below (Nat.le_refl _) (HP.out.below.trans (HB3.out.mono hbs))).ints x (List.mem_of_getElem? Hx.out)) hlx).mono ?_; rintro e w4 ⟨v4, rfl, hown4, hb4⟩; obtain ⟨p4, c4', rfl⟩ := ownsRow_slice hown4; have HO4 := Lib.hid hown4; have HB4 := Lib.hid (HB3.out.trans (hb4.mono HB3.out.size)); have HA4 := Lib.hid (Below.at hb4 HA3.out HA3.out.lt); have Hz4 := Lib.hid HB3.out.size; clear hown4 hb4 c9)
        | (refine wpList_storeCell rfl 38 _ _ rfl rfl wr.heap.size 9 (.slice p4 x.segs.length c4') x.arr 40 rfl rfl HA4.out (show 9 < 10 by omega) size38 rfl rfl ?_; intro w5 hA5 hk5 hs5; rw [HV.arr_sv] at hA5; have HA5 := Lib.hid hA5; have HK5 := Lib.hid hk5; have Hi5 := Lib.hid (size40 (x.withSv (.slice p4 x.segs.length c4'))); clear hA5 hk5 hs5)
        | (refine wpList_buildHouse rfl _ rfl (x.withSv (.slice p4 x.segs.length c4')) rfl ?_; intro w55 hL hkL hsL; have HL := Lib.hid hL; have HKL := Lib.hid hkL; have own5 := Lib.hid (hkL.ownsRow (HK5.out.ownsRow ((Keep.of_below HB4.out (fun _ => False)).ownsRow HP.out.own (fun _ _ h => h)) (fun b hb e => by have := (HP.out.own.lt b hb).2; omega)) (fun _ _ h => h)); clear hL hkL hsL)
        | (refine wpList_appendHouse rfl _ _ rfl w.heap.size u3 k (tcells Q) rfl own5.out w5.heap.size (x.withSv (.slice p4 x.segs.length c4')) rfl HL.out rfl (by omega) (by have := HB4.out.size; have := HK5.out.size; have := HKL.out.size; omega) ?_; intro v6 w6 hown6 hgrow6 hblk6))
      have k56 : Keep (fun b => u3.ownBlock = some b) w55 w6 := (Keep.refl _ w55).grown hgrow6 (fun j hj => .inl hj)
      go_roundg (16 - (k + 1))
      case measure => have := Hgk.out; omega
      case rel =>
        refine ⟨k + 1, Q ++ [(x.withSv (.slice p4 x.segs.length c4'))], by omega, rfl, by go_num, ?_⟩
        have b4 := HB4.out
        exact {
          len := by simp [HP.out.len]
          segs := fun i y hy => by
            rcases Nat.lt_or_ge i k with h1 | h1
            · rw [List.getElem?_append_left (by rw [HP.out.len]; exact h1)] at hy
              exact HP.out.segs i y hy
            · have hi : i = k := by
                have := (List.getElem?_eq_some_iff.1 hy).1
                simp [HP.out.len] at this; omega
              subst hi
              rw [List.getElem?_append_right (by rw [HP.out.len]; exact Nat.le_refl _), HP.out.len] at hy
              simp at hy
              exact ⟨x, Hx.out, by rw [← hy]; rfl⟩
          own := by rw [tcells_snoc]; exact hown6
          each := fun y hy => by
            rcases List.mem_append.1 hy with hy | hy
            · have o4 := (Keep.of_below b4 (fun _ => False)).ownsRow (HP.out.each y hy) (fun _ _ h => h)
              have o5 := HKL.out.ownsRow (HK5.out.ownsRow o4 (fun b hb e => by have := ((HP.out.each y hy).lt b hb).2; omega)) (fun _ _ h => h)
              exact k56.ownsRow o5 (fun b hb e => own_ne_own o5 own5.out (by decide) hb e)
            · simp at hy
              subst hy
              have o5 := HKL.out.ownsRow (HK5.out.ownsRow HO4.out (fun b hb e => own_ne_at HO4.out HA4.out (by decide) hb e)) (fun _ _ h => h)
              exact ownsRow_raise (k56.ownsRow o5 (fun b hb e => own_ne_own o5 own5.out (by decide) hb e)) (fun j hj => by have := (HO4.out.lt j hj).1; have := Hz4.out; omega)
          below := (((HP.out.below.trans (b4.mono hbs)).trans (HK5.out.belowOf (Nat.le_trans hbs b4.size) (by intro b hb e; omega))).trans (HKL.out.belowOf (by have := b4.size; have := HK5.out.size; omega) (fun _ _ h => h))).trans (k56.belowOf (by have := b4.size; have := HK5.out.size; have := HKL.out.size; omega) (fun b hb e => by have := (HP.out.own.lt b e).1; omega)) }
    · obtain rfl : k = 16 := by omega
      go_wp2
      go_ret
      exact ⟨_, Q, rfl, HP.out⟩
end Go.Proofs.YtnndkfhpifgaiaaGreat
namespace Go.Proofs.YtnndkfhpifgaiaaGreat
open Go.RowKit

theorem list_split {α : Type} {T : List α} {k : Nat} {x : α} (h : T[k]? = some x) : T = T.take k ++ x :: T.drop (k + 1) := by
  obtain ⟨a, b⟩ := List.getElem?_eq_some_iff.1 h
  rw [← b]; simp
theorem list_set {α : Type} {T : List α} {k : Nat} {x : α} (h : T[k]? = some x) (y : α) : T.set k y = T.take k ++ y :: T.drop (k + 1) := by
  obtain ⟨a, b⟩ := List.getElem?_eq_some_iff.1 h
  rw [List.set_eq_take_append_cons_drop, if_pos a]
theorem tcells_set {T : List HV} {k : Nat} {x : HV} (h : T[k]? = some x) (y : HV) : (tcells T).take (k * 10) ++ y.cells ++ (tcells T).drop (k * 10 + 10) = tcells (T.set k y) := by
  obtain ⟨a, b⟩ := List.getElem?_eq_some_iff.1 h
  have hl : (tcells (T.take k)).length = k * 10 := by rw [tcells_length, List.length_take]; omega
  have e1 : tcells T = tcells (T.take k) ++ (x.cells ++ tcells (T.drop (k + 1))) := by
    conv => lhs; rw [list_split h]
    simp [tcells]
  rw [list_set h y]
  have e2 : tcells (T.take k ++ y :: T.drop (k + 1)) = tcells (T.take k) ++ (y.cells ++ tcells (T.drop (k + 1))) := by simp [tcells]
  rw [e2, e1]
  have hx : x.cells.length = 10 := rfl
  rw [List.take_left' hl]
  rw [show k * 10 + 10 = (tcells (T.take k)).length + 10 from by omega, ← List.drop_drop, List.drop_left]
  rw [List.drop_left' hx]
  simp
theorem allSegs_set {T : List HV} {k : Nat} {x : HV} (h : T[k]? = some x) (y : HV) : allSegs (T.set k y) = allSegs (T.take k) ++ (y.segs ++ allSegs (T.drop (k + 1))) := by
  rw [list_set h y]; simp [allSegs]
theorem allSegs_get {T : List HV} {k : Nat} {x : HV} (h : T[k]? = some x) : allSegs T = allSegs (T.take k) ++ (x.segs ++ allSegs (T.drop (k + 1))) := by
  conv => lhs; rw [list_split h]
  simp [allSegs]
theorem mem_set_or {T : List HV} {k : Nat} {y z : HV} (h : z ∈ T.set k y) : z ∈ T ∨ z = y := (List.mem_or_eq_of_mem_set h)

def HVn (g : Int) : HV := ⟨0, g, 0, 0, 0, 0, 0, 0, 0, .slice none 0 0, []⟩
def HVf (g : Int) (sv : Value) (segs : List Int) : HV := ⟨1, g, segs.length, 100000, 100000, 255, 255, 5, 200, sv, segs⟩
theorem HVn_none (g : Int) (h0 : 0 ≤ g) (h1 : g ≤ 65535) : (HVn g).None := ⟨rfl, ⟨h0, h1⟩, rfl, rfl, rfl, rfl, rfl, rfl, rfl, rfl, rfl⟩

theorem TOk.none {T : List HV} {n k : Nat} {x : HV} (h : TOk T n) (hx : T[k]? = some x) (g : Int) (h0 : 0 ≤ g) (h1 : g ≤ 65535) : TOk (T.set k (HVn g)) n where
  len := by rw [List.length_set]; exact h.len
  each := fun z hz => by
    rcases mem_set_or hz with hz | rfl
    · exact h.each z hz
    · exact .inl (HVn_none g h0 h1)
  once := by
    rw [allSegs_set hx]
    have := h.once
    rw [allSegs_get hx] at this
    have hs : ((HVn g).segs ++ allSegs (T.drop (k + 1))).Sublist (x.segs ++ allSegs (T.drop (k + 1))) := List.sublist_append_right _ _
    exact this.sublist (List.Sublist.append_left hs _)
  lt := h.lt

theorem freeL_mem {n : Nat} {xs : List Int} {y : Int} : y ∈ freeL n xs ↔ (0 ≤ y ∧ y < n) ∧ y ∉ xs := by
  unfold freeL
  rw [List.mem_filter, List.mem_map]
  constructor
  · rintro ⟨⟨i, hi, rfl⟩, h⟩
    have : i < n := List.mem_range.1 hi
    exact ⟨⟨by simp, by simpa using this⟩, by simpa using h⟩
  · rintro ⟨⟨h0, h1⟩, h⟩
    exact ⟨⟨y.toNat, List.mem_range.2 (by omega), by simp; omega⟩, by simpa using h⟩
theorem freeL_up (n : Nat) (xs : List Int) : (freeL n xs).Pairwise (· < ·) := by
  unfold freeL
  refine List.Pairwise.filter _ ?_
  rw [List.pairwise_map]
  refine List.Pairwise.imp ?_ List.pairwise_lt_range
  intro a b hab
  simpa using hab
theorem up_nodup {xs : List Int} (h : xs.Pairwise (· < ·)) : xs.Nodup := List.Pairwise.imp (fun hab => by omega) h

theorem free_count {n : Nat} {xs : List Int} (hn : xs.Nodup) (hr : ∀ x ∈ xs, 0 ≤ x ∧ x < n) : (freeL n xs).length + xs.length = n := by
  have hN : ((List.range n).map Int.ofNat).Nodup := up_nodup (by
    rw [List.pairwise_map]
    refine List.Pairwise.imp ?_ List.pairwise_lt_range
    intro a b hab
    simpa using hab)
  have hp : List.Perm (((List.range n).map Int.ofNat).filter (fun x => decide (x ∈ xs))) xs := by
    refine (List.perm_ext_iff_of_nodup (hN.sublist List.filter_sublist) hn).2 fun y => ?_
    rw [List.mem_filter, List.mem_map]
    constructor
    · rintro ⟨_, h⟩; simpa using h
    · intro h
      have := hr y h
      exact ⟨⟨y.toNat, List.mem_range.2 (by omega), by simp; omega⟩, by simpa using h⟩
  have h1 := hp.length_eq
  have h2 : (freeL n xs).length + (((List.range n).map Int.ofNat).filter (fun x => decide (x ∈ xs))).length = ((List.range n).map Int.ofNat).length := by
    unfold freeL
    generalize (List.range n).map Int.ofNat = L
    induction L with
    | nil => rfl
    | cons a L ih => by_cases ha : a ∈ xs <;> simp [ha] at ih ⊢ <;> omega
  rw [h1] at h2
  simpa using h2

theorem TOk.rng {T : List HV} {n : Nat} (h : TOk T n) : ∀ x ∈ allSegs T, 0 ≤ x ∧ x < n := by
  intro x hx
  obtain ⟨y, hy, hx⟩ := List.mem_flatMap.1 hx
  rcases h.each y hy with e | e
  · rw [e.2.2.2.2.2.2.2.2.2.2] at hx; simp at hx
  · exact e.rng x hx
theorem TOk.count {T : List HV} {n : Nat} (h : TOk T n) : (freeL n (allSegs T)).length + (allSegs T).length = n := free_count h.once h.rng

theorem TOk.found {T : List HV} {n k m : Nat} {x : HV} (h : TOk T n) (hx : T[k]? = some x) (hn : x.segs = []) (g : Int) (sv : Value) (h0 : 0 < g) (h1 : g ≤ 65535) (hm : 8 ≤ m) (hm' : m ≤ 40) (hle : m ≤ (freeL n (allSegs T)).length) :
    TOk (T.set k (HVf g sv ((freeL n (allSegs T)).take m))) n where
  len := by rw [List.length_set]; exact h.len
  each := fun z hz => by
    rcases mem_set_or hz with hz | rfl
    · exact h.each z hz
    · refine .inr ⟨rfl, ⟨h0, h1⟩, rfl, rfl, rfl, rfl, rfl, rfl, rfl, ?_, ?_, ?_⟩
      · show 8 ≤ ((freeL n (allSegs T)).take m).length ∧ ((freeL n (allSegs T)).take m).length ≤ 40
        rw [List.length_take]; omega
      · exact (freeL_up n _).sublist (List.take_sublist _ _)
      · intro y hy
        exact (freeL_mem.1 (List.mem_of_mem_take hy)).1
  once := by
    rw [allSegs_set hx]
    have ho := h.once
    rw [allSegs_get hx, hn, List.nil_append] at ho
    obtain ⟨o1, o2, o3⟩ := List.nodup_append.1 ho
    have hd : ∀ y ∈ (freeL n (allSegs T)).take m, y ∉ allSegs (T.take k) ∧ y ∉ allSegs (T.drop (k + 1)) := by
      intro y hy
      have := (freeL_mem.1 (List.mem_of_mem_take hy)).2
      rw [allSegs_get hx] at this
      simp only [List.mem_append, not_or] at this
      exact ⟨this.1, this.2.2⟩
    refine List.nodup_append.2 ⟨o1, List.nodup_append.2 ⟨up_nodup ((freeL_up n _).sublist (List.take_sublist _ _)), o2, ?_⟩, ?_⟩
    · intro a ha b hb e
      exact (hd a ha).2 (e ▸ hb)
    · intro a ha b hb e
      rcases List.mem_append.1 hb with hb | hb
      · exact (hd b hb).1 (e ▸ ha)
      · exact o3 a ha b hb e
  lt := h.lt
end Go.Proofs.YtnndkfhpifgaiaaGreat
namespace Go.Proofs.YtnndkfhpifgaiaaGreat
open Go.RowKit

theorem WarAt.setT {w w' : World} {wp : Nat} {W : WarV} {T : List HV} {n dn Bd k : Nat} {F : Nat → Prop} (h : WarAt w wp W T n dn Bd F) (y : HV) (hok : TOk (T.set k y) n) (hI : IntsAt w y.sv y.segs w.heap.size) (h1 : y.sv.oneCell' = true) (hl : y.segs.length ≤ 1000)
    (hseg : ∀ b, y.sv.ownBlock = some b → ¬ F b ∧ b ≠ wp ∧ b ≠ W.lb ∧ b < w.heap.size) (hk : Keep (· = W.lb) w w') (hA : At w' W.lb (tcells (T.set k y)).toArray 40) : WarAt w' wp W (T.set k y) n dn Bd F where
  cells := hk.at h.cells (fun e => h.lbne e.symm)
  hl := h.hl
  tab := ⟨hA, fun z hz => by
    rcases mem_set_or hz with hz | rfl
    · exact ((h.tab.ints z hz).keepV hk (fun b hb => (h.seg z hz b hb).2.2.1)).mono hk.size
    · exact (hI.keepV hk (fun b hb => (hseg b hb).2.2.1)).mono hk.size, fun z hz => by
    rcases mem_set_or hz with hz | rfl
    · exact h.tab.one z hz
    · exact ⟨h1, hl⟩⟩
  ok := hok
  dk := h.dk.kept hk (fun b hf e => h.Fl (e ▸ hf))
  sct := h.sct
  dn := h.dn
  n0 := h.n0
  n1 := h.n1
  num := h.num
  Fw := h.Fw
  Fl := h.Fl
  seg := fun z hz b hb => by
    rcases mem_set_or hz with hz | rfl
    · obtain ⟨a1, a2, a3, a4⟩ := h.seg z hz b hb
      exact ⟨a1, a2, a3, Nat.lt_of_lt_of_le a4 hk.size⟩
    · obtain ⟨a1, a2, a3, a4⟩ := hseg b hb
      exact ⟨a1, a2, a3, Nat.lt_of_lt_of_le a4 hk.size⟩

theorem WarAt.tcell {w : World} {wp : Nat} {W : WarV} {T : List HV} {n dn Bd k : Nat} {F : Nat → Prop} {x : HV} (h : WarAt w wp W T n dn Bd F) (hx : T[k]? = some x) (j : Nat) (hj : j < 10) : w.cell? ⟨W.lb, k * 10 + j, none⟩ = x.cells[j]? := by
  rw [h.tab.cells.cell]
  have h1 := tcells_at T k x hx
  rw [← h1, List.getElem?_take, if_pos hj, List.getElem?_drop]
  simp

theorem tsize {T : List HV} {k : Nat} (h : T.length = 16) (hk : k < 16) (x : HV) : k * 10 + x.arr.size ≤ (tcells T).toArray.size := by
  have h1 : (tcells T).toArray.size = 160 := by rw [List.size_toArray, tcells_length, h]
  rw [h1]; show k * 10 + 10 ≤ 160; omega
theorem tset_at {w : World} {b k : Nat} {T : List HV} {x y : HV} (hx : T[k]? = some x) (hA : At w b ((tcells T).toArray.toList.take (k * 10) ++ y.arr.toList ++ (tcells T).toArray.toList.drop (k * 10 + y.arr.size)).toArray 40) : At w b (tcells (T.set k y)).toArray 40 := by
  rw [← tcells_set hx y]; exact hA

theorem WarAt.setH {w w' : World} {wp : Nat} {W : WarV} {T : List HV} {n dn Bd : Nat} {F : Nat → Prop} (h : WarAt w wp W T n dn Bd F) (k : Nat) (v : Value) (hk : Keep (· = wp) w w') (hA : At w' wp (W.cells.setIfInBounds (5 + k) v) 53) : WarAt w' wp { W with hs := W.hs.set k v } T n dn Bd F := by
  rw [WarV.cells_hs] at hA
  exact h.go rfl rfl rfl (by simp [h.hl]) h.num hk hA (h.dk.kept hk (fun k hf e => h.Fw (e ▸ hf))) h.lbne (fun x hx b hb => (h.seg x hx b hb).2.1) (fun _ e => .inl e)
theorem built40n (g : Int) : Tryz.prog.built 40 [(1, .int .i64 g)] = some (HVn g).arr := by kernel_rfl

/-- What gone leaves. -/
def GoneEnd (w : World) (wp : Nat) (W : WarV) (T : List HV) (k : Nat) (g : Int) (n dn Bd : Nat) (F : Nat → Prop) (e : Ending) (w' : World) : Prop := e = .returned (.bool true) ∧ ∃ F', WarAt w' wp { W with num := W.num + 1 } (T.set k (HVn g)) n dn (Bd + 8) F' ∧ (∀ k, F' k → F k ∨ w.heap.size ≤ k) ∧ Keep (fun k => F k ∨ k = wp ∨ k = W.lb) w w'

set_option maxRecDepth 100000 in
set_option maxHeartbeats 4000000 in
theorem gone_ok (wp : Nat) (W : WarV) (T : List HV) (k n dn Bd : Nat) (F : Nat → Prop) (x : HV) (w : World) (h : WarAt w wp W T n dn Bd F) (hx : T[k]? = some x) (hg : 0 ≤ x.gen ∧ x.gen ≤ 65535) (hB : Bd + 100 < 1000000000) (hN : W.num < 100000) :
    Calls Tryz.prog 28 #[.pointer (some ⟨wp, 0, none⟩), .int .i64 ((k : Int) + 1)] w (GoneEnd w wp W T k x.gen n dn Bd F) := by
  have H := Lib.hid h
  have Hx := Lib.hid hx
  have Hg := Lib.hid hg
  have hk16 : k < 16 := by have := h.ok.len; have := (List.getElem?_eq_some_iff.1 hx).1; omega
  have c4 := h.c4
  have g1 : w.cell? ⟨W.lb, k * 10 + 1, none⟩ = some (.int .i64 x.gen) := h.tcell hx 1 (by omega)
  have hw1 : IntKind.i64.wrap ((k : Int) + 1 - 1) = k := by rw [IntKind.wrap_i64]; omega
  have hw2 : IntKind.i64.wrap (k : Int) = k := by rw [IntKind.wrap_i64]; omega
  have i0 : (0 : Int) ≤ k := by omega
  have i1 : (k : Int) < 16 := by omega
  clear h hx hg
  go_enter Tryz.func28, Tryz.ntmps28
  go_wp2
  (try simp only [Act.put, List.setIfInBounds_toArray, List.set_cons_zero, List.set_cons_succ])
  refine wp_region_noPanic ?_
  refine T_region 17 (fun w' => w'.cell? ⟨wp, 4, none⟩ = some (.slice (some ⟨W.lb, 0, none⟩) 16 16) ∧ w'.cell? ⟨W.lb, k * 10 + 1, none⟩ = some (.int .i64 x.gen)) (by kernel_rfl) (by kernel_rfl) (by kernel_rfl) (by decide) (by kernel_rfl) ⟨c4, g1⟩ (fun hHeld hU => ?_)
  refine T_take (i := 0) hU 5 ?_ rfl rfl (by decide) (by kernel_rfl) (by kernel_rfl) (fun _ _ _ h => h) (Or.inl ⟨by rfl, ?_⟩) hHeld ?_; rotate_left; (intro w hSw; (try dsimp only at hSw); go_simp); (try with_reducible rfl); clear hU; intro hU; (try simp only [Act.put, List.setIfInBounds_toArray, List.set_cons_zero, List.set_cons_succ])
  refine T_take (i := 1) hU 6 ?_ rfl rfl (by decide) (by kernel_rfl) (by kernel_rfl) (fun _ _ _ h => h) (Or.inl ⟨by rfl, ?_⟩) hHeld ?_; rotate_left; (intro w hSw; (try dsimp only at hSw); go_simp); (try with_reducible rfl); clear hU; intro hU; (try simp only [Act.put, List.setIfInBounds_toArray, List.set_cons_zero, List.set_cons_succ])
  refine T_take (i := 2) hU 7 ?_ rfl rfl (by decide) (by kernel_rfl) (by kernel_rfl) (fun _ _ _ h => h) (Or.inl ⟨by rfl, ?_⟩) hHeld ?_; rotate_left; (intro w hSw; (try dsimp only at hSw); go_simp); (try with_reducible rfl); clear hU; intro hU; (try simp only [Act.put, List.setIfInBounds_toArray, List.set_cons_zero, List.set_cons_succ])
  refine T_take (i := 3) hU 8 ?_ rfl rfl (by decide) (by kernel_rfl) (by kernel_rfl) (fun _ _ _ h => h) (Or.inl ⟨by rfl, ?_⟩) hHeld ?_; rotate_left; (intro w hSw; (try dsimp only at hSw); go_simp); (try with_reducible rfl); clear hU; intro hU; (try simp only [Act.put, List.setIfInBounds_toArray, List.set_cons_zero, List.set_cons_succ])
  refine T_take (i := 4) hU 9 ?_ rfl rfl (by decide) (by kernel_rfl) (by kernel_rfl) (fun _ _ _ h => h) (Or.inl ⟨by rfl, ?_⟩) hHeld ?_; rotate_left; (intro w hSw; (try dsimp only at hSw); go_simp); (try with_reducible rfl); clear hU; intro hU; (try simp only [Act.put, List.setIfInBounds_toArray, List.set_cons_zero, List.set_cons_succ])
  refine T_take (i := 5) hU 10 ?_ rfl rfl (by decide) (by kernel_rfl) (by kernel_rfl) (fun _ _ _ h => h) (Or.inl ⟨by rfl, ?_⟩) hHeld ?_; rotate_left; (intro w hSw; (try dsimp only at hSw); go_simp); (try with_reducible rfl); clear hU; intro hU; (try simp only [Act.put, List.setIfInBounds_toArray, List.set_cons_zero, List.set_cons_succ])
  refine T_take (i := 6) hU 11 ?_ rfl rfl (by decide) (by kernel_rfl) (by kernel_rfl) (fun _ _ _ h => h) (Or.inl ⟨by rfl, ?_⟩) hHeld ?_; rotate_left; (intro w hSw; (try dsimp only at hSw); go_simp); (try with_reducible rfl); clear hU; intro hU; (try simp only [Act.put, List.setIfInBounds_toArray, List.set_cons_zero, List.set_cons_succ])
  refine T_take (i := 7) hU 12 ?_ rfl rfl (by decide) (by kernel_rfl) (by kernel_rfl) (fun _ _ _ h => h) (Or.inl ⟨by rfl, ?_⟩) hHeld ?_; rotate_left; (intro w hSw; (try dsimp only at hSw); go_simp); (try with_reducible rfl); clear hU; intro hU; (try simp only [Act.put, List.setIfInBounds_toArray, List.set_cons_zero, List.set_cons_succ])
  refine T_take (i := 8) hU 13 ?_ rfl rfl (by decide) (by kernel_rfl) (by kernel_rfl) (fun _ _ _ h => h) (Or.inl ⟨by rfl, ?_⟩) hHeld ?_; rotate_left; (intro w hSw; (try dsimp only at hSw); go_simp); (try with_reducible rfl); clear hU; intro hU; (try simp only [Act.put, List.setIfInBounds_toArray, List.set_cons_zero, List.set_cons_succ])
  refine T_take (i := 9) hU 14 ?_ rfl rfl (by decide) (by kernel_rfl) (by kernel_rfl) (fun _ _ _ h => h) (Or.inl ⟨by rfl, ?_⟩) hHeld ?_; rotate_left; (intro w hSw; (try dsimp only at hSw); go_simp); (try with_reducible rfl); clear hU; intro hU; (try simp only [Act.put, List.setIfInBounds_toArray, List.set_cons_zero, List.set_cons_succ])
  refine T_take (i := 10) hU 15 ?_ rfl rfl (by decide) (by kernel_rfl) (by kernel_rfl) (fun _ _ _ h => h) (Or.inl ⟨by rfl, ?_⟩) hHeld ?_; rotate_left; (intro w hSw; (try dsimp only at hSw); go_simp); (try with_reducible rfl); clear hU; intro hU; (try simp only [Act.put, List.setIfInBounds_toArray, List.set_cons_zero, List.set_cons_succ])
  refine T_take (i := 11) hU 16 ?_ rfl rfl (by decide) (by kernel_rfl) (by kernel_rfl) (fun _ _ _ h => h) (Or.inl ⟨by rfl, ?_⟩) hHeld ?_; rotate_left; (intro w hSw; (try dsimp only at hSw); go_simp); (try with_reducible rfl); clear hU; intro hU; (try simp only [Act.put, List.setIfInBounds_toArray, List.set_cons_zero, List.set_cons_succ])
  refine T_take (i := 12) hU 17 ?_ rfl rfl (by decide) (by kernel_rfl) (by kernel_rfl) (fun _ _ _ h => h) (Or.inl ⟨by rfl, ?_⟩) hHeld ?_; rotate_left; (intro w hSw; (try dsimp only at hSw); go_simp); (try with_reducible rfl); clear hU; intro hU; (try simp only [Act.put, List.setIfInBounds_toArray, List.set_cons_zero, List.set_cons_succ])
  refine T_take (i := 13) hU 18 ?_ rfl rfl (by decide) (by kernel_rfl) (by kernel_rfl) (fun _ _ _ h => h) (Or.inl ⟨by rfl, ?_⟩) hHeld ?_; rotate_left; (intro w hSw; (try dsimp only at hSw); go_simp); (try with_reducible rfl); clear hU; intro hU; (try simp only [Act.put, List.setIfInBounds_toArray, List.set_cons_zero, List.set_cons_succ])
  refine T_take (i := 14) hU 19 ?_ rfl rfl (by decide) (by kernel_rfl) (by kernel_rfl) (fun _ _ _ h => h) (Or.inl ⟨by rfl, ?_⟩) hHeld ?_; rotate_left; (intro w hSw; (try dsimp only at hSw); go_simp); (try with_reducible rfl); clear hU; intro hU; (try simp only [Act.put, List.setIfInBounds_toArray, List.set_cons_zero, List.set_cons_succ])
  refine T_take (i := 15) hU 20 (.agg (HVn x.gen).arr) rfl rfl (by decide) (by kernel_rfl) (by kernel_rfl) (fun _ _ _ h => h) (yields_build _ _ _ _ rfl _ _ rfl _ _ (built40n x.gen) rfl) hHeld ?_; clear hU; intro hU; (try simp only [Act.put, List.setIfInBounds_toArray, List.set_cons_zero, List.set_cons_succ])
  refine T_take (i := 16) hU 21 ?_ rfl rfl (by decide) (by kernel_rfl) (by kernel_rfl) (fun _ _ _ h => h) (Or.inl ⟨by rfl, ?_⟩) hHeld ?_; rotate_left; (intro w hSw; (try dsimp only at hSw); go_simp); (try with_reducible rfl); clear hU; intro hU; (try simp only [Act.put, List.setIfInBounds_toArray, List.set_cons_zero, List.set_cons_succ])
  refine T_last (N := 17) rfl (by kernel_rfl) (by kernel_rfl) (fun K hK => ?_); clear hU hHeld
  refine step_storeRow' rfl 40 _ _ rfl rfl W.lb (k * 10) (HVn x.gen).arr (tcells T).toArray 40 (by with_unfolding_all exact rfl) (by with_unfolding_all exact rfl) (show At w.drew _ _ _ from H.out.tab.cells) (tsize H.out.ok.len hk16 _) (size40 _) (HV.arr_one rfl) (fun w1 hA1 hk1 hs1 => ?_)
  refine hK.out _ _ (NoPanic.normal ?_); clear hK K
  have hk1' : Keep (· = W.lb) w w1 := Keep.ofDrew hk1
  have H1 := Lib.hid (H.out.setT (HVn x.gen) (H.out.ok.none Hx.out x.gen Hg.out.1 Hg.out.2) (IntsAt.nil _ _) rfl (Nat.zero_le _) (fun b hb => by simp [HVn, Value.ownBlock] at hb) hk1' (tset_at Hx.out hA1))
  clear hA1 hk1 hs1 c4 g1
  go_wp2_with (first
    | (go_at_call 20; refine (wsave_ok wp W _ n dn Bd F w1 H1.out hB hN).mono ?_; rintro e w2 ⟨rfl, F', hW, hF, hk2⟩))
  go_ret
  refine ⟨rfl, F', hW, fun k hf => (hF k hf).imp id (fun e => by have := hk1'.size; omega), (hk1'.mono (fun _ _ e => .inr (.inr e))).trans hk2 (fun _ _ e => e.elim .inl (fun e => .inr (.inl e)))⟩

set_option maxRecDepth 100000 in
set_option maxHeartbeats 4000000 in
theorem raze_ok (wp : Nat) (W : WarV) (T : List HV) (k n dn Bd : Nat) (F : Nat → Prop) (x : HV) (w : World) (h : WarAt w wp W T n dn Bd F) (hx : T[k]? = some x) (hst : x.st = 1) (hg : 0 ≤ x.gen ∧ x.gen ≤ 65535) (hB : Bd + 100 < 1000000000) (hN : W.num < 100000) :
    Calls Tryz.prog 11 #[.pointer (some ⟨wp, 0, none⟩), .int .i64 ((k : Int) + 1), .bool false] w fun e w' => e = .returned (.int .i64 0) ∧ ∃ W' F', WarAt w' wp W' (T.set k (HVn x.gen)) n dn (Bd + 8) F' ∧ W'.num = W.num + 1 ∧ W'.lb = W.lb ∧ (∀ k, F' k → F k ∨ w.heap.size ≤ k) ∧ Keep (fun k => F k ∨ k = wp ∨ k = W.lb) w w' := by
  have H := Lib.hid h
  have Hx := Lib.hid hx
  have Hg := Lib.hid hg
  have hk16 : k < 16 := by have := h.ok.len; have := (List.getElem?_eq_some_iff.1 hx).1; omega
  have c4 := h.c4
  have c0 := h.c0
  have s0 : w.cell? ⟨W.lb, k * 10, none⟩ = some (.int .i64 1) := by rw [← hst]; exact h.tcell hx 0 (by omega)
  have hw1 : IntKind.i64.wrap ((k : Int) + 1 - 1) = k := by rw [IntKind.wrap_i64]; omega
  have hw2 : IntKind.i64.wrap (k : Int) = k := by rw [IntKind.wrap_i64]; omega
  have i0 : (0 : Int) ≤ k := by omega
  have i1 : (k : Int) < 16 := by omega
  have d0 : decide ((k : Int) + 1 < 1) = false := by simp; omega
  have d1 : decide ((16 : Int) < (k : Int) + 1) = false := by simp; omega
  have j0 : (0 : Int) ≤ (k : Int) + 1 := by omega
  have j1 : (k : Int) + 1 < 17 := by omega
  clear h hx hg hst
  go_enter Tryz.func11, Tryz.ntmps11
  go_wp2_with (first
    | (go_at_call 25; refine (down_at W.d dn Bd F w H.out.dk).mono ?_; rintro e w1 ⟨rfl, rfl⟩)
    | (go_at_call 26; refine (forget_ok W.d dn Bd F ((k : Int) + 1) w H.out.dk (by omega) (by omega)).mono ?_; rintro e w1 ⟨rfl, hst⟩; obtain ⟨F1, hW1, hF1, hk1⟩ := H.out.step hst; have HW1 := Lib.hid hW1; have HF1 := Lib.hid hF1; have HK1 := Lib.hid hk1; clear hst hW1 hF1 hk1 c0 c4 s0)
    | (refine wpList_storeCell rfl 50 _ _ rfl rfl wp (5 + (k + 1)) (.pointer none) W.cells 53 rfl rfl HW1.out.cells (by rw [W.size HW1.out.hl]; omega) (by kernel_rfl) rfl rfl ?_; intro w2 hA2 hk2 hs2; have HW2 := Lib.hid (HW1.out.setH (k + 1) (.pointer none) hk2 hA2); have HK2 := Lib.hid hk2; clear hA2 hk2 hs2)
    | (go_at_call 28; refine (gone_ok wp _ T k n dn Bd F1 x w2 HW2.out Hx.out Hg.out hB hN).mono ?_; rintro e w3 ⟨rfl, F3, hW3, hF3, hk3⟩))
  go_ret
  refine ⟨rfl, _, F3, hW3, rfl, rfl, fun k hf => (hF3 k hf).elim (HF1.out k) (fun e => .inr (by have := HK1.out.size; have := HK2.out.size; omega)), ?_⟩
  have k1 : Keep (fun k => F k ∨ k = wp ∨ k = W.lb) w w1 := HK1.out.mono (fun _ _ e => .inl e)
  have k2 := k1.trans HK2.out (fun _ _ e => .inr (.inl e))
  exact k2.trans hk3 (fun k hk e => by
    rcases e with e | e | e
    · exact (HF1.out k e).imp id (fun e => by omega)
    · exact .inr (.inl e)
    · exact .inr (.inr e))
end Go.Proofs.YtnndkfhpifgaiaaGreat
