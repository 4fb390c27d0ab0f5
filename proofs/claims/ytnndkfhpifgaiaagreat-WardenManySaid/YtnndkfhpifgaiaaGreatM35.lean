/-
  file.write: the root becomes a chunk.
-/
import Derived.Test.YtnndkfhpifgaiaaGreatM34
import Derived.Test.YtnndkfhpifgaiaaGreatM21
set_option linter.unusedVariables false
set_option linter.unusedSimpArgs false
namespace Go.Proofs.YtnndkfhpifgaiaaGreat
open Go.RowKit

/-- What Commit hands to write. -/
def headV (f g h : Int) : Array Value := #[.int .i64 0, .int .i64 0, .int .i64 0, .int .i64 0, .int .i64 0, .int .i64 f, .int .i64 g, .int .i64 h, .slice none 0 0]
theorem size126l (f g h : Int) : (Tryz.prog.info? 126).map (·.size) = some (headV f g h).toList.length := size126
theorem built198 (f g h sec : Int) : Tryz.prog.built 198 [(0, .agg (headV f g h)), (2, .int .i64 sec)] = some (wrCells 0 0 0 0 0 f g h (.slice none 0 0) (.slice none 0 0) sec) := by kernel_rfl

theorem built141 (r : RootV) : Tryz.prog.built 141 [(0, rootV), (1, .int .i64 r.sector), (2, .map (some r.bl)), (3, .map (some r.ind))] = some r.cells := by kernel_rfl

theorem step_putM {P : Program} {o : Oper} {ops : Array Oper} {a : Act} {w : World} {Q : Exit → Act → World → Prop} (hgd : o.guard = none) (m x v : Operand) (t : TypeId) (ho : o.op = Op.mapUpdate t m x v) (hd : o.dst = none) (kt e : TypeId) (q : IntKind) (ht : P.underlying t = some (.map kt e)) (hk : P.underlying kt = some (.int q))
    (b : Nat) (l : List (Int × Value)) (hm : a.eval m = .map (some b)) (h : IMap w b l) (k : Int) (hx : a.eval x = .int .i64 k) (u : Value) (hv : a.eval v = u) {K : Act → World → Prop}
    (hK : ∀ w', IMap w' b (putL l k u) → Keep (· = b) w w' → w'.heap.size = w.heap.size → K a w') :
    if Region.wanted o (yielded ops a.tmps) = true then Oper.wp P o a w K Q else K (a.put o.dst undef) w := by
  rw [if_pos (by simp [Region.wanted, hgd])]
  obtain ⟨w', hrun, h1, h2, h3⟩ := run_putM ht hk h k u
  unfold Oper.wp execOp
  simp only [ho, hm, hx, hv, Sem.run_bind, hrun, Result.andThen_ok]
  have := hK w' h1 h2 h3
  exact (show K (a.put o.dst undef) _ from by rw [hd]; exact this)

/-- A store, its plan, its log. -/
structure WrEnv (w : World) (s : Nat) (S : StoreV) (segs : List Int) (G : Nat → Prop) (p : Nat) (V : PlanV) (sub B : Nat) (l : Nat) (L : LogV) (fs : List Int) (dn Bd : Nat) (F : Nat → Prop) : Prop where
  st : StoreAt w s S segs none true G
  pl : PlanAt w p V sub B
  lg : LogOf w S l L fs
  dk : DiskAt w L.d dn Bd F
theorem WrEnv.below {w w' : World} {s : Nat} {S : StoreV} {segs : List Int} {G : Nat → Prop} {p : Nat} {V : PlanV} {sub B : Nat} {l : Nat} {L : LogV} {fs : List Int} {dn Bd : Nat} {F : Nat → Prop} (h : WrEnv w s S segs G p V sub B l L fs dn Bd F) (hb : Below w.heap.size w w') : WrEnv w' s S segs G p V sub B l L fs dn Bd F :=
  ⟨h.st.below hb, h.pl.below hb, h.lg.below hb, h.dk.below hb⟩

/-- What is known of numbers: where the log stands. -/
structure WrNum (S : StoreV) (L : LogV) (n dn : Nat) : Prop where
  sct : S.sct = 48 + 32 * n
  lo : 8 ≤ n
  hi : n ≤ 137
  lsct : L.sct = S.sct
  dn : (dn : Int) = S.sct
  seg : 0 ≤ L.x.seg ∧ L.x.seg < n
  at_ : 0 ≤ L.x.at_ ∧ L.x.at_ ≤ 16
  h : 1 ≤ L.h ∧ L.h ≤ 16
  g : 1 ≤ L.g ∧ L.g ≤ 65535
  life : 1 ≤ L.x.life ∧ L.x.life ≤ 1048575
  seq : 1 ≤ L.x.seq ∧ L.x.seq ≤ 1099511627776
  next : 0 ≤ L.x.next ∧ L.x.next ≤ 65535

/-- What write leaves: the root stands on the disk. -/
def FWriteEnd (w : World) (s : Nat) (S : StoreV) (segs : List Int) (G : Nat → Prop) (sub l : Nat) (L : LogV) (dn Bd : Nat) (F : Nat → Prop) (f g h : Int) (e : Ending) (w' : World) : Prop := e = .returned (.bool true) ∧ ∃ st ind F',
  StoreAt w' s S segs (some ⟨st, sub, ind, 48 + L.x.seg * 32 + L.x.at_ + 1⟩) true (fun k => G k ∨ k = st ∨ k = sub ∨ k = ind) ∧ LogAt w' l (L.on 1 f g h) ∧ DiskAt w' L.d dn (Bd + 2) F' ∧ (∀ k, F' k → ¬ (G k ∨ k = st ∨ k = sub ∨ k = ind)) ∧ ¬ F' l ∧
  ¬ (G l ∨ l = st ∨ l = sub ∨ l = ind) ∧ (∀ k, F' k → F k ∨ w.heap.size ≤ k) ∧ w.heap.size ≤ st ∧ w.heap.size ≤ ind ∧ Keep (fun k => F k ∨ k = l ∨ k = S.base ∨ k = S.last) w w'

set_option maxRecDepth 100000 in
set_option maxHeartbeats 4000000 in
theorem fwrite_ok (s : Nat) (S : StoreV) (segs : List Int) (G : Nat → Prop) (p : Nat) (V : PlanV) (sub B : Nat) (l : Nat) (L : LogV) (fs : List Int) (n dn Bd : Nat) (F : Nat → Prop) (f g h : Int) (w : World)
    (hE : WrEnv w s S segs G p V sub B l L fs dn Bd F) (hN : WrNum S L n dn) (hGB : ∀ k, G k → k < B) (hFB : ∀ k, F k → k < B) (hlB : l < B) (hFG : ∀ k, F k → ¬ G k) (hFl : ¬ F l) (hGl : ¬ G l) (hBd : Bd + 200 < 1000000000)
    (hf : 0 ≤ f ∧ f ≤ 1099511627776) (hgg : 0 ≤ g ∧ g ≤ 1099511627777) (hhh : 0 ≤ h ∧ h ≤ 1099511627777) :
    Calls Tryz.prog 70 #[.pointer (some ⟨s, 0, none⟩), .pointer (some ⟨p, 0, none⟩), .agg (headV f g h)] w (FWriteEnd w s S segs G sub l L dn Bd F f g h) := by
  have hu82 := Tryz.underlying82
  have hu126 := Tryz.underlying126
  have hu25 := Tryz.underlying25
  have HE := Lib.hid hE
  have HN := Lib.hid hN
  have c6 : w.cell? ⟨s, 6, none⟩ = some (.pointer (some ⟨l, 0, none⟩)) := by rw [← hE.lg.lp]; exact hE.st.cells.cell 6
  clear hE hN
  go_enter Tryz.func70, Tryz.ntmps70
  go_wp2_with (first
    | (refine wpList_boxAt rfl 126 _ rfl (headV f g h) rfl ?_; intro w1 hA1 hk1 hs1; have HA1 := Lib.hid hA1; have HE1 := Lib.hid (HE.out.below hk1.below); have Hs1 := Lib.hid hs1; have c6' : w1.cell? ⟨s, 6, none⟩ = some (.pointer (some ⟨l, 0, none⟩)) := hk1.keepCell id c6; have HB1 := Lib.hid hk1.below; clear hA1 hk1 hs1 c6)
    | (go_at_call 75; refine (lplace_ok l L _ HE1.out.lg.at_).mono ?_; rintro e w2 ⟨rfl, hb2⟩; have HE2 := Lib.hid (HE1.out.below hb2); have HA2 := Lib.hid (Below.at hb2 HA1.out HA1.out.lt); have HB2 := Lib.hid (HB1.out.trans (hb2.mono HB1.out.size)); have HBw2 := Lib.hid HB2.out.size; clear hb2 c6' HE1 HA1 HB1)
    | (refine wpList_allocAt rfl 82 rfl zSlot zero82 ?_; intro w3 hz3 hk3 hs3; have HZ3 := Lib.hid hz3; have Hk3 := Lib.hid hk3; have Hs3 := Lib.hid hs3; clear hz3 hk3 hs3)
    | (refine wpList_storeRow rfl 82 _ _ rfl rfl w2.heap.size L.x.cells zSlot _ rfl rfl HZ3.out rfl (size82 _) (one82 _) ?_; intro w4 hA4 hk4 hs4; have b24 : Below w2.heap.size w2 w4 := Hk3.out.below.trans (hk4.belowOf (by have := Hs3.out; omega) (by intro b hb e; omega)); have HE4 := Lib.hid (HE2.out.below b24); have HA4 := Lib.hid (Below.at b24 HA2.out HA2.out.lt); have HB4 := Lib.hid (HB2.out.trans (b24.mono HB2.out.size)); have HX4 := Lib.hid hA4; have Hs4 := Lib.hid (show w4.heap.size = w2.heap.size + 1 by rw [hs4, Hs3.out]); clear hA4 hk4 hs4 b24 HE2 HA2 HB2 HZ3 Hk3 Hs3))
  have x3 : w4.cell? ⟨w2.heap.size, 3, none⟩ = some (.int .i64 L.x.seg) := HX4.out.cell 3
  have x4 : w4.cell? ⟨w2.heap.size, 4, none⟩ = some (.int .i64 L.x.at_) := HX4.out.cell 4
  (try simp only [Act.put, List.setIfInBounds_toArray, List.set_cons_zero, List.set_cons_succ])
  refine wp_region_noPanic ?_
  refine T_region 5 (fun w' => w'.cell? ⟨w2.heap.size, 3, none⟩ = some (.int .i64 L.x.seg) ∧ w'.cell? ⟨w2.heap.size, 4, none⟩ = some (.int .i64 L.x.at_)) (by kernel_rfl) (by kernel_rfl) (by kernel_rfl) (by decide) (by kernel_rfl) ⟨x3, x4⟩ (fun hHeld hU => ?_)
  refine T_take (i := 0) hU 41 ?_ rfl rfl (by decide) (by kernel_rfl) (by kernel_rfl) (fun _ _ _ h => h) (Or.inl ⟨by rfl, ?_⟩) hHeld ?_; rotate_left; (intro w hSw; (try dsimp only at hSw); go_simp); (try with_reducible rfl); clear hU; intro hU; (try simp only [Act.put, List.setIfInBounds_toArray, List.set_cons_zero, List.set_cons_succ])
  refine T_take (i := 1) hU 42 ?_ rfl rfl (by decide) (by kernel_rfl) (by kernel_rfl) (fun _ _ _ h => h) (Or.inl ⟨by rfl, ?_⟩) hHeld ?_; rotate_left; (intro w hSw; (try dsimp only at hSw); go_simp); (try with_reducible rfl); clear hU; intro hU; (try simp only [Act.put, List.setIfInBounds_toArray, List.set_cons_zero, List.set_cons_succ])
  refine T_take (i := 2) hU 43 ?_ rfl rfl (by decide) (by kernel_rfl) (by kernel_rfl) (fun _ _ _ h => h) (Or.inl ⟨by rfl, ?_⟩) hHeld ?_; rotate_left; (intro w hSw; (try dsimp only at hSw); go_simp); (try with_reducible rfl); clear hU; intro hU; (try simp only [Act.put, List.setIfInBounds_toArray, List.set_cons_zero, List.set_cons_succ])
  refine T_take (i := 3) hU 44 ?_ rfl rfl (by decide) (by kernel_rfl) (by kernel_rfl) (fun _ _ _ h => h) (Or.inl ⟨by rfl, ?_⟩) hHeld ?_; rotate_left; (intro w hSw; (try dsimp only at hSw); go_simp); (try with_reducible rfl); clear hU; intro hU; (try simp only [Act.put, List.setIfInBounds_toArray, List.set_cons_zero, List.set_cons_succ])
  refine T_take (i := 4) hU 8 ?_ rfl rfl (by decide) (by kernel_rfl) (by kernel_rfl) (fun _ _ _ h => h) (Or.inl ⟨by rfl, ?_⟩) hHeld ?_; rotate_left; (intro w hSw; (try dsimp only at hSw); go_simp); (try with_reducible rfl); clear hU; intro hU; (try simp only [Act.put, List.setIfInBounds_toArray, List.set_cons_zero, List.set_cons_succ])
  refine T_last (N := 5) rfl (by kernel_rfl) (by kernel_rfl) (fun K hK => ?_); clear hU hHeld
  go_simp
  refine hK.out _ _ (NoPanic.normal ?_); clear hK K
  have HE5 := Lib.hid (HE4.out.below (World.drew_below0 w4))
  have hw1 : IntKind.i64.wrap (L.x.at_ + 1) = L.x.at_ + 1 := by rw [IntKind.wrap_i64]; have := HN.out.at_; omega
  have hw2 : IntKind.i64.wrap (L.x.at_ + 1 + 1) = L.x.at_ + 2 := by rw [IntKind.wrap_i64]; have := HN.out.at_; omega
  have hlt : ¬ (32 < L.x.at_ + 2) := by have := HN.out.at_; omega
  have s2 : w4.drew.cell? ⟨s, 2, none⟩ = some (.int .i64 32) := HE5.out.st.cells.cell 2
  go_wp2_with fail
  (try simp only [Act.put, List.setIfInBounds_toArray, List.set_cons_zero, List.set_cons_succ])
  refine wp_region_noPanic ?_
  refine T_region 10 (fun w' => w'.cell? ⟨s, 2, none⟩ = some (.int .i64 32)) (by kernel_rfl) (by kernel_rfl) (by kernel_rfl) (by decide) (by kernel_rfl) s2 (fun hHeld hU => ?_)
  refine T_take (i := 0) hU 45 ?_ rfl rfl (by decide) (by kernel_rfl) (by kernel_rfl) (fun _ _ _ h => h) (Or.inl ⟨by rfl, ?_⟩) hHeld ?_; rotate_left; (intro w hSw; (try dsimp only at hSw); go_simp); (try with_reducible rfl); clear hU; intro hU; (try simp only [Act.put, List.setIfInBounds_toArray, List.set_cons_zero, List.set_cons_succ])
  refine T_take (i := 1) hU 46 ?_ rfl rfl (by decide) (by kernel_rfl) (by kernel_rfl) (fun _ _ _ h => h) (Or.inl ⟨by rfl, ?_⟩) hHeld ?_; rotate_left; (intro w hSw; (try dsimp only at hSw); go_simp); (try with_reducible rfl); clear hU; intro hU; (try simp only [Act.put, List.setIfInBounds_toArray, List.set_cons_zero, List.set_cons_succ])
  refine T_take (i := 2) hU 47 ?_ rfl rfl (by decide) (by kernel_rfl) (by kernel_rfl) (fun _ _ _ h => h) (Or.inl ⟨by rfl, ?_⟩) hHeld ?_; rotate_left; (intro w hSw; (try dsimp only at hSw); go_simp); (try with_reducible rfl); clear hU; intro hU; (try simp only [Act.put, List.setIfInBounds_toArray, List.set_cons_zero, List.set_cons_succ])
  refine T_take (i := 5) hU 50 ?_ rfl rfl (by decide) (by kernel_rfl) (by kernel_rfl) (fun _ _ _ h => h) (Or.inl ⟨by rfl, ?_⟩) hHeld ?_; rotate_left; (intro w hSw; (try dsimp only at hSw); go_simp); (try with_reducible rfl); clear hU; intro hU; (try simp only [Act.put, List.setIfInBounds_toArray, List.set_cons_zero, List.set_cons_succ])
  refine T_take (i := 6) hU 51 ?_ rfl rfl (by decide) (by kernel_rfl) (by kernel_rfl) (fun _ _ _ h => h) (Or.inl ⟨by rfl, ?_⟩) hHeld ?_; rotate_left; (intro w hSw; (try dsimp only at hSw); go_simp); (try with_reducible rfl); clear hU; intro hU; (try simp only [Act.put, List.setIfInBounds_toArray, List.set_cons_zero, List.set_cons_succ])
  refine T_take (i := 7) hU 52 ?_ rfl rfl (by decide) (by kernel_rfl) (by kernel_rfl) (fun _ _ _ h => h) (Or.inl ⟨by rfl, ?_⟩) hHeld ?_; rotate_left; (intro w hSw; (try dsimp only at hSw); go_simp); (try with_reducible rfl); clear hU; intro hU; (try simp only [Act.put, List.setIfInBounds_toArray, List.set_cons_zero, List.set_cons_succ])
  refine T_take (i := 8) hU 53 ?_ rfl rfl (by decide) (by kernel_rfl) (by kernel_rfl) (fun _ _ _ h => h) (Or.inl ⟨by rfl, ?_⟩) hHeld ?_; rotate_left; (intro w hSw; (try dsimp only at hSw); go_simp); (try with_reducible rfl); clear hU; intro hU; (try simp only [Act.put, List.setIfInBounds_toArray, List.set_cons_zero, List.set_cons_succ])
  refine T_take (i := 9) hU 54 ?_ rfl rfl (by decide) (by kernel_rfl) (by kernel_rfl) (fun _ _ _ h => h) (Or.inl ⟨by rfl, ?_⟩) hHeld ?_; rotate_left; (intro w hSw; (try dsimp only at hSw); go_simp); (try with_reducible rfl); clear hU; intro hU; (try simp only [Act.put, List.setIfInBounds_toArray, List.set_cons_zero, List.set_cons_succ])
  have hHeld3 := hHeld
  refine T_step (i := 3) hU rfl (by decide) (by kernel_rfl) (fun K hK => ?_); clear hU hHeld
  go_simp
  go_at_call 66
  refine (psize_ok p V sub B _ (HE5.out.below (World.drew_below0 _)).pl).mono ?_
  rintro e w5 ⟨rfl, hb5⟩
  refine hK.out _ _ (Below.keepCell hb5 hHeld3) (fun hHeld hU => ?_); clear hK K; (try simp only [Act.put, List.setIfInBounds_toArray, List.set_cons_zero, List.set_cons_succ])
  refine T_take (i := 4) hU 49 ?_ rfl rfl (by decide) (by kernel_rfl) (by kernel_rfl) (fun _ _ _ h => h) (Or.inl ⟨by rfl, ?_⟩) hHeld ?_; rotate_left; (intro w hSw; (try dsimp only at hSw); go_simp); (try with_reducible rfl); clear hU; intro hU; (try simp only [Act.put, List.setIfInBounds_toArray, List.set_cons_zero, List.set_cons_succ])
  refine T_last (N := 10) rfl (by kernel_rfl) (by kernel_rfl) (fun K hK => ?_); clear hU hHeld
  go_simp
  refine hK.out _ _ (NoPanic.normal ?_); clear hK K
  have b5 : Below w4.heap.size w4 w5 := (World.drew_below0 w4).trans ((World.drew_below0 w4.drew).trans hb5)
  have HE6 := Lib.hid (HE4.out.below b5)
  have HB6 := Lib.hid (HB4.out.trans (b5.mono HB4.out.size))
  have HA6 := Lib.hid (Below.at b5 HA4.out HA4.out.lt)
  have HX6 := Lib.hid (Below.at b5 HX4.out HX4.out.lt)
  have Hs6 := Lib.hid (show w2.heap.size < w5.heap.size by have := b5.size; have := Hs4.out; omega)
  clear hb5 b5 HE4 HB4 HA4 HX4 HE5 x3 x4 s2 hw1 hw2
  go_wp2_with fail
  have hseg := HN.out.seg
  have hat := HN.out.at_
  have hn2 := HN.out.hi
  have hwa : IntKind.i64.wrap (48 + L.x.seg * 32 + L.x.at_) = 48 + L.x.seg * 32 + L.x.at_ := by rw [IntKind.wrap_i64]; omega
  have hwb : IntKind.i64.wrap (48 + L.x.seg * 32 + L.x.at_ + 1) = 48 + L.x.seg * 32 + L.x.at_ + 1 := by rw [IntKind.wrap_i64]; omega
  have Hnum := Lib.hid (And.intro hseg (And.intro hat hn2))
  clear hseg hat hn2
  have rA : w5.rangeAt w.heap.size 0 (headV f g h).toList := HA6.out.range 0 9
  have rS : w5.rangeAt s 1 [.int .i64 S.sct, .int .i64 32] := HE6.out.st.cells.range 1 2
  (try simp only [Act.put, List.setIfInBounds_toArray, List.set_cons_zero, List.set_cons_succ])
  refine wp_region_noPanic ?_
  refine T_region 12 (fun w' => w'.rangeAt w.heap.size 0 (headV f g h).toList ∧ w'.rangeAt s 1 [.int .i64 S.sct, .int .i64 32]) (by kernel_rfl) (by kernel_rfl) (by kernel_rfl) (by decide) (by kernel_rfl) ⟨rA, rS⟩ (fun hHeld hU => ?_)
  refine T_take (i := 0) hU 58 (.agg (headV f g h)) rfl rfl (by decide) (by kernel_rfl) (by kernel_rfl) (fun _ _ _ h => h) (yields_load _ _ _ _ rfl _ _ rfl w.heap.size 0 rfl _ _ hu126 rfl (size126l f g h) (fun _ h => h.1)) hHeld ?_; clear hU; intro hU; (try simp only [Act.put, List.setIfInBounds_toArray, List.set_cons_zero, List.set_cons_succ])
  refine T_take (i := 1) hU 59 ?_ rfl rfl (by decide) (by kernel_rfl) (by kernel_rfl) (fun _ _ _ h => h) (Or.inl ⟨by rfl, ?_⟩) hHeld ?_; rotate_left; (intro w hSw; (try dsimp only at hSw); go_simp); (try with_reducible rfl); clear hU; intro hU; (try simp only [Act.put, List.setIfInBounds_toArray, List.set_cons_zero, List.set_cons_succ])
  refine T_take (i := 2) hU 60 ?_ rfl rfl (by decide) (by kernel_rfl) (by kernel_rfl) (fun _ _ _ h => h) (Or.inl ⟨by rfl, ?_⟩) hHeld ?_; rotate_left; (intro w hSw; (try dsimp only at hSw); go_simp); (try with_reducible rfl); clear hU; intro hU; (try simp only [Act.put, List.setIfInBounds_toArray, List.set_cons_zero, List.set_cons_succ])
  refine T_take (i := 3) hU 61 ?_ rfl rfl (by decide) (by kernel_rfl) (by kernel_rfl) (fun _ _ _ h => h) (Or.inl ⟨by rfl, ?_⟩) hHeld ?_; rotate_left; (intro w hSw; (try dsimp only at hSw); go_simp); (try with_reducible rfl); clear hU; intro hU; (try simp only [Act.put, List.setIfInBounds_toArray, List.set_cons_zero, List.set_cons_succ])
  refine T_take (i := 4) hU 62 (.agg #[.int .i64 S.sct, .int .i64 32]) rfl rfl (by decide) (by kernel_rfl) (by kernel_rfl) (fun _ _ _ h => h) (yields_load _ _ _ _ rfl _ _ rfl s 1 rfl _ _ hu25 rfl (size25 _ _) (fun _ h => h.2)) hHeld ?_; clear hU; intro hU; (try simp only [Act.put, List.setIfInBounds_toArray, List.set_cons_zero, List.set_cons_succ])
  refine T_take (i := 5) hU 63 ?_ rfl rfl (by decide) (by kernel_rfl) (by kernel_rfl) (fun _ _ _ h => h) (Or.inl ⟨by rfl, ?_⟩) hHeld ?_; rotate_left; (intro w hSw; (try dsimp only at hSw); go_simp); (try with_reducible rfl); clear hU; intro hU; (try simp only [Act.put, List.setIfInBounds_toArray, List.set_cons_zero, List.set_cons_succ])
  refine T_take (i := 7) hU 65 ?_ rfl rfl (by decide) (by kernel_rfl) (by kernel_rfl) (fun _ _ _ h => h) (Or.inl ⟨by rfl, ?_⟩) hHeld ?_; rotate_left; (intro w hSw; (try dsimp only at hSw); go_simp); (try with_reducible rfl); clear hU; intro hU; (try simp only [Act.put, List.setIfInBounds_toArray, List.set_cons_zero, List.set_cons_succ])
  have hHeld6 := hHeld
  refine T_step (i := 6) hU rfl (by decide) (by kernel_rfl) (fun K hK => ?_); clear hU hHeld
  go_simp
  go_at_call 55
  refine (start_ok S.sct L.x.seg n _ HN.out.sct HN.out.lo HN.out.hi HN.out.seg.1 HN.out.seg.2).mono ?_
  rintro e w6 ⟨rfl, hb6⟩
  have hb6 : Below w5.heap.size w5 w6 := (World.drew_below0 w5).trans hb6
  refine hK.out _ _ (⟨Below.keepRange hb6 hHeld6.1, Below.keepRange hb6 hHeld6.2⟩) (fun hHeld hU => ?_); clear hK K; (try simp only [Act.put, List.setIfInBounds_toArray, List.set_cons_zero, List.set_cons_succ])
  refine T_take (i := 8) hU 66 ?_ rfl rfl (by decide) (by kernel_rfl) (by kernel_rfl) (fun _ _ _ h => h) (Or.inl ⟨by rfl, ?_⟩) hHeld ?_; rotate_left; (intro w hSw; (try dsimp only at hSw); go_simp); (try with_reducible rfl); clear hU; intro hU; (try simp only [Act.put, List.setIfInBounds_toArray, List.set_cons_zero, List.set_cons_succ])
  refine T_take (i := 9) hU 67 ?_ rfl rfl (by decide) (by kernel_rfl) (by kernel_rfl) (fun _ _ _ h => h) (Or.inl ⟨by rfl, ?_⟩) hHeld ?_; rotate_left; (intro w hSw; (try dsimp only at hSw); go_simp); (try with_reducible rfl); clear hU; intro hU; (try simp only [Act.put, List.setIfInBounds_toArray, List.set_cons_zero, List.set_cons_succ])
  refine T_take (i := 10) hU 68 (.agg (wrCells 0 0 0 0 0 f g h (.slice none 0 0) (.slice none 0 0) (48 + L.x.seg * 32 + L.x.at_ + 1))) rfl rfl (by decide) (by kernel_rfl) (by kernel_rfl) (fun _ _ _ h => h) (yields_build _ _ _ _ rfl _ _ rfl _ _ (built198 f g h _) rfl) hHeld ?_; clear hU; intro hU; (try simp only [Act.put, List.setIfInBounds_toArray, List.set_cons_zero, List.set_cons_succ])
  have hHeld11 := hHeld
  refine T_step (i := 11) hU rfl (by decide) (by kernel_rfl) (fun K hK => ?_); clear hU hHeld
  refine step_boxN rfl _ _ rfl 69 rfl (wrCells 0 0 0 0 0 f g h (.slice none 0 0) (.slice none 0 0) (48 + L.x.seg * 32 + L.x.at_ + 1)) rfl (fun w7 q hq hq2 hA7 hk7 => ?_)
  refine hK.out _ _ (⟨hk7.keepRange id hHeld11.1, hk7.keepRange id hHeld11.2⟩) (fun hHeld hU => ?_); clear hK K; (try simp only [Act.put, List.setIfInBounds_toArray, List.set_cons_zero, List.set_cons_succ])
  refine T_last (N := 12) rfl (by kernel_rfl) (by kernel_rfl) (fun K hK => ?_); clear hU hHeld
  go_simp
  refine hK.out _ _ (NoPanic.normal ?_); clear hK K
  have b7 : Below w5.heap.size w5 w7 := hb6.trans (hk7.below.mono hb6.size)
  have HE7 := Lib.hid (HE6.out.below b7)
  have HB7 := Lib.hid (HB6.out.trans (b7.mono HB6.out.size))
  have HX7 := Lib.hid (Below.at b7 HX6.out HX6.out.lt)
  have HQ7 := Lib.hid hA7
  have Hq := Lib.hid (show w5.heap.size ≤ q from Nat.le_trans hb6.size hq)
  clear hb6 hk7 hA7 hq hq2 b7 HE6 HB6 HA6 HX6 rA rS hwa hwb
  have c0 : w7.cell? ⟨p, 0, none⟩ = some (.map (some V.data)) := HE7.out.pl.cells.cell 0
  go_wp2_with (first
    | (go_at_call 108; refine (sortedS V.data _ HE7.out.pl.data).mono ?_; rintro e w8 ⟨rfl, hb8⟩; have HE8 := Lib.hid (HE7.out.below hb8); have HQ8 := Lib.hid (Below.at hb8 HQ7.out HQ7.out.lt); have HX8 := Lib.hid (Below.at hb8 HX7.out HX7.out.lt); have HB8 := Lib.hid (HB7.out.trans (hb8.mono HB7.out.size)); have Hw8 := Lib.hid hb8.size; clear hb8))
  have Ho8 : Hid (w.heap.size ≤ w2.heap.size ∧ w2.heap.size < q ∧ q < w8.heap.size) := Lib.hid ⟨HBw2.out, by have := Hs6.out; have := Hq.out; omega, HQ8.out.lt⟩
  have c2 : w8.cell? ⟨p, 2, none⟩ = some (.map (some V.nodes)) := HE8.out.pl.cells.cell 2
  clear c0 HE7 HQ7 HX7 HB7 hHeld3 hHeld6 hHeld11 hu82 hu126 hu25 HE8 Hs6 Hs4 Hq Hw8
  refine wp_loop_rounds 1 ?_; rw [rounds_succ]
  go_wp2_with (first
    | (refine wpList_makeMapAt rfl 189 rfl ?_; intro w9 hm9 hk9 hs9; have HM9 := Lib.hid hm9; have HQ9 := Lib.hid (hk9.at HQ8.out id); have HX9 := Lib.hid (hk9.at HX8.out id); have HB9 := Lib.hid (HB8.out.trans (hk9.below.mono HB8.out.size)); have Hs9 := Lib.hid hs9; have c2' : w9.cell? ⟨p, 2, none⟩ = some (.map (some V.nodes)) := hk9.keepCell id c2; clear hm9 hk9 hs9 c2 HQ8 HX8 HB8)
    | (refine wpList_rangeM rfl _ 87 rfl 3 96 Tryz.underlying87 V.nodes [(1, rootV)] rfl (HE.out.below HB9.out).pl.nodes ?_; intro w10 hit hk hs; have HI10 := Lib.hid hit; have HM10 := Lib.hid (HM9.out.keep hk id); have HQ10 := Lib.hid (hk.at HQ9.out id); have HX10 := Lib.hid (hk.at HX9.out id); have HB10 := Lib.hid (HB9.out.trans (hk.below.mono HB9.out.size)); have Hs10 := Lib.hid hs; clear hit hk hs c2' HQ9 HX9 HB9 HM9))
  refine wp_loop_rounds 2 ?_; rw [rounds_succ]
  have Ho10 : Hid (w.heap.size ≤ w2.heap.size ∧ w2.heap.size < q ∧ q < w8.heap.size ∧ w8.heap.size < w9.heap.size ∧ w10.heap.size = w9.heap.size + 1) := Lib.hid (by
    have := Ho8.out; have := Hs9.out; have := Hs10.out; omega)
  have HeV : Hid (V.nodes < w.heap.size) := Lib.hid HE.out.pl.nodes.lt
  clear Hs9 Hs10 Ho8
  go_wp2_with (first
    | (refine wpList_nextOne rfl _ rfl w9.heap.size V.nodes [(1, rootV)] 1 rootV rfl HI10.out ?_; intro w11 hit hk hs hent; have HI11 := Lib.hid hit; have HM11 := Lib.hid (HM10.out.keep hk (by have := Ho10.out; omega)); have HQ11 := Lib.hid (hk.at HQ10.out (by have := Ho10.out; omega)); have HX11 := Lib.hid (hk.at HX10.out (by have := Ho10.out; omega)); have HB11 := Lib.hid (HB10.out.trans (hk.belowOf HB10.out.size (by intro b hb e; have := Ho10.out; omega))); have Hs11 := Lib.hid hs; clear hit hk hs)
    | (refine wpList_makeMapAt rfl 84 rfl ?_; intro w12 hm hk hs; have HN12 := Lib.hid hm; have HI12 := Lib.hid (HI11.out.keep hk id id); have HM12 := Lib.hid (HM11.out.keep hk id); have HQ12 := Lib.hid (hk.at HQ11.out id); have HX12 := Lib.hid (hk.at HX11.out id); have HB12 := Lib.hid (HB11.out.trans (hk.below.mono HB11.out.size)); have Hs12 := Lib.hid hs; clear hm hk hs)
    | (refine wpList_putM rfl _ _ _ 189 rfl 3 84 .i64 Tryz.underlying189 Tryz.underlying3 w8.heap.size [] rfl HM12.out 1 rfl (.map (some w11.heap.size)) rfl ?_; intro w13 hm hk hs; have HM13 := Lib.hid (show IMap w13 w8.heap.size [(1, .map (some w11.heap.size))] from hm); have HN13 := Lib.hid (HN12.out.keep hk (by have := Ho10.out; have := Hs11.out; omega)); have HI13 := Lib.hid (HI12.out.keep hk (by have := Ho10.out; omega) (by have := Ho10.out; have := HeV.out; omega)); have HQ13 := Lib.hid (hk.at HQ12.out (by have := Ho10.out; omega)); have HX13 := Lib.hid (hk.at HX12.out (by have := Ho10.out; omega)); have HB13 := Lib.hid (HB12.out.trans (hk.belowOf HB12.out.size (by intro b hb e; have := Ho10.out; omega))); have m12 : w13.cell? ⟨s, 12, none⟩ = some (.map (some S.base)) := (HE.out.below HB13.out).st.cells.cell 12; have Hs13 := Lib.hid hs; clear hm hk hs hent)
    | (refine wpList_look rfl _ _ 83 false rfl 3 139 .i64 Tryz.underlying83 Tryz.underlying3 (.pointer none) zeroPtr S.base [] rfl (HE.out.below HB13.out).st.base 1 rfl (.pointer none) rfl ?_))
  have Ho13 : Hid (w.heap.size ≤ w2.heap.size ∧ w2.heap.size < q ∧ q < w8.heap.size ∧ w8.heap.size < w9.heap.size ∧ w9.heap.size < w11.heap.size ∧ w13.heap.size = w11.heap.size + 1) := Lib.hid (by
    have := Ho10.out; have := Hs11.out; have := Hs12.out; have := Hs13.out; omega)
  clear Hs11 Hs12 Hs13 Ho10 m12 HI12 HI11 HI10 HM10 HM11 HM12 HN12 HQ10 HQ11 HQ12 HX10 HX11 HX12 HB10 HB11 HB12
  rw [rounds_succ]
  have c1 : w13.cell? ⟨p, 1, none⟩ = some (.map (some V.inds)) := (HE.out.below HB13.out).pl.cells.cell 1
  go_wp2_with (first
    | (refine wpList_nextDone rfl _ rfl w9.heap.size V.nodes [(1, rootV)] rfl HI13.out ?_)
    | (go_at_call 110; refine (sortedB V.inds _ (HE.out.below HB13.out).pl.inds).mono ?_; rintro e w14 ⟨rfl, hb⟩; have HM14 := Lib.hid (HM13.out.below hb HM13.out.lt); have HN14 := Lib.hid (HN13.out.below hb HN13.out.lt); have HQ14 := Lib.hid (Below.at hb HQ13.out HQ13.out.lt); have HX14 := Lib.hid (Below.at hb HX13.out HX13.out.lt); have HB14 := Lib.hid (HB13.out.trans (hb.mono HB13.out.size)); have Hs14 := Lib.hid hb.size; clear hb))
  have hA15 := At.new w14 #[.bool false, .bool true] 4
  have hk15 := (Keep.refl (fun _ => False) w14).alloc (.cells #[.bool false, .bool true] 4)
  have hs15 : (w14.alloc (.cells #[.bool false, .bool true] 4)).heap.size = w14.heap.size + 1 := by simp
  generalize w14.alloc (.cells #[.bool false, .bool true] 4) = w15 at hA15 hk15 hs15 ⊢
  have t0 : w15.cell? ⟨w14.heap.size, 0, none⟩ = some (.bool false) := hA15.cell 0
  have t1 : w15.cell? ⟨w14.heap.size, 1, none⟩ = some (.bool true) := hA15.cell 1
  have HM15 := Lib.hid (HM14.out.keep hk15 id)
  have HN15 := Lib.hid (HN14.out.keep hk15 id)
  have HQ15 := Lib.hid (hk15.at HQ14.out id)
  have HX15 := Lib.hid (hk15.at HX14.out id)
  have HB15 := Lib.hid (HB14.out.trans (hk15.below.mono HB14.out.size))
  have Ho15 : Hid (w.heap.size ≤ w2.heap.size ∧ w2.heap.size < q ∧ q < w8.heap.size ∧ w8.heap.size < w9.heap.size ∧ w9.heap.size < w11.heap.size ∧ w11.heap.size < w15.heap.size) := Lib.hid (by
    have := Ho13.out; have := Hs14.out; omega)
  clear hA15 hk15 hs15 HM14 HN14 HQ14 HX14 HB14 HI13 HM13 HN13 HQ13 HX13 Ho13 Hs14 c1
  refine wp_loop_rounds 3 ?_; rw [rounds_succ]
  go_wp2
  refine wp_loop_rounds 1 ?_; rw [rounds_succ]
  go_wp2
  rw [rounds_succ]
  go_wp2
  refine wp_loop_rounds 1 ?_; rw [rounds_succ]
  go_wp2
  rw [rounds_succ]
  clear t0 t1
  have Hx2 := Lib.hid ((HE.out.below HB15.out).pl.cells.cell 2 : w15.cell? ⟨p, 2, none⟩ = some (.map (some V.nodes)))
  go_wp2_with (first
    | (refine wpList_makeMapAt rfl 83 rfl ?_; intro w16 hm hk hs; have HK16 := Lib.hid hm; have HM16 := Lib.hid (HM15.out.keep hk id); have HN16 := Lib.hid (HN15.out.keep hk id); have HQ16 := Lib.hid (hk.at HQ15.out id); have HX16 := Lib.hid (hk.at HX15.out id); have HB16 := Lib.hid (HB15.out.trans (hk.below.mono HB15.out.size)); have Hs16 := Lib.hid hs; have c2 : w16.cell? ⟨p, 2, none⟩ = some (.map (some V.nodes)) := hk.keepCell id Hx2.out; clear hm hk hs HM15 HN15 HQ15 HX15 HB15 Hx2)
    | (go_at_call 113; refine (keysN_ok V.nodes _).mono ?_; rintro e w17 ⟨rfl, rfl⟩)
    | (go_at_call 112; refine (sortedN_ok V.nodes rootV w16 (HE.out.below HB16.out).pl.nodes).mono ?_; rintro e w18 ⟨u, rfl, hown, hb⟩; have b18 : Below w16.heap.size w16 w18 := ((Below.refl _ w16).alloc (Nat.le_refl _) _).trans (hb.mono (by omega)); obtain ⟨bu, ou, cu, hbu, hue, hcu, hcell⟩ := (IntsAt.of_own (xs := [1]) hown rfl).cells (by simp); subst hue; have cu0 : w18.cell? ⟨bu, ou, none⟩ = some (.int .i64 1) := hcell 0 1 rfl; have HK18 := Lib.hid (HK16.out.below b18 HK16.out.lt); have HM18 := Lib.hid (HM16.out.below b18 HM16.out.lt); have HN18 := Lib.hid (HN16.out.below b18 HN16.out.lt); have HQ18 := Lib.hid (Below.at b18 HQ16.out HQ16.out.lt); have HX18 := Lib.hid (Below.at b18 HX16.out HX16.out.lt); have HB18 := Lib.hid (HB16.out.trans (b18.mono HB16.out.size)); have Hs18 := Lib.hid b18.size; clear hown hb b18 hbu hcu hcell c2))
  have Ho18 : Hid (w.heap.size ≤ w2.heap.size ∧ w2.heap.size < q ∧ q < w8.heap.size ∧ w8.heap.size < w9.heap.size ∧ w9.heap.size < w11.heap.size ∧ w11.heap.size < w15.heap.size ∧ w15.heap.size < w18.heap.size) := Lib.hid (by
    have := Ho15.out; have := Hs16.out; have := Hs18.out; omega)
  clear Hs16 Hs18 Ho15 HK16 HM16 HN16 HQ16 HX16 HB16
  have c2 : w18.cell? ⟨p, 2, none⟩ = some (.map (some V.nodes)) := (HE.out.below HB18.out).pl.cells.cell 2
  refine wp_loop_rounds 2 ?_; rw [rounds_succ]
  go_wp2_with (first
    | (refine wpList_look rfl _ _ 87 false rfl 3 96 .i64 Tryz.underlying87 Tryz.underlying3 noneV zeroNode V.nodes [(1, rootV)] rfl (HE.out.below HB18.out).pl.nodes 1 rfl rootV rfl ?_)
    | (refine wpList_allocAt rfl 96 rfl noneCells zero96 ?_; intro w19 hz hk hs; have HZ19 := Lib.hid hz; have Hk19 := Lib.hid hk; have Hs19 := Lib.hid hs; clear hz hk hs)
    | (refine wpList_storeRow rfl 96 _ _ rfl rfl w18.heap.size rootCells noneCells _ rfl rfl HZ19.out rfl size96 one96 ?_; intro w20 hA hk hs; have b20 : Below w18.heap.size w18 w20 := Hk19.out.below.trans (hk.belowOf (by have := Hs19.out; omega) (by intro b hb e; omega)); have HY20 := Lib.hid hA; have HK20 := Lib.hid (HK18.out.below b20 HK18.out.lt); have HM20 := Lib.hid (HM18.out.below b20 HM18.out.lt); have HN20 := Lib.hid (HN18.out.below b20 HN18.out.lt); have HQ20 := Lib.hid (Below.at b20 HQ18.out HQ18.out.lt); have HX20 := Lib.hid (Below.at b20 HX18.out HX18.out.lt); have HB20 := Lib.hid (HB18.out.trans (b20.mono HB18.out.size)); have Hs20 := Lib.hid (show w20.heap.size = w18.heap.size + 1 by rw [hs, Hs19.out]); clear hA hk hs b20 c2 cu0 HZ19 Hk19 Hs19 HK18 HM18 HN18 HQ18 HX18 HB18))
  have hrs : ∀ k : Nat, k < 12 → rootCells.setIfInBounds (5 + k) (.int .i64 0) = rootCells := by
    intro k hk
    match k, hk with
    | 0, _ => rfl
    | 1, _ => rfl
    | 2, _ => rfl
    | 3, _ => rfl
    | 4, _ => rfl
    | 5, _ => rfl
    | 6, _ => rfl
    | 7, _ => rfl
    | 8, _ => rfl
    | 9, _ => rfl
    | 10, _ => rfl
    | 11, _ => rfl
  go_loopg [27, 223] 12 (fun gk u i wr => ∃ k : Nat, k ≤ 12 ∧ gk = 12 - k ∧ i = .int .i64 k ∧ At wr w18.heap.size rootCells 96 ∧ Keep (· = w18.heap.size) w20 wr ∧ wr.heap.size = w20.heap.size)
  case atStart => exact ⟨0, by omega, by omega, rfl, HY20.out, Keep.refl _ _, rfl⟩
  case round =>
    obtain ⟨k, hk, hgk, rfl, hA, hK, hs⟩ := hrel
    have Hgk := Lib.hid hgk
    have HYr := Lib.hid hA
    have HKr := Lib.hid hK
    have Hsr := Lib.hid hs
    have HBr := Lib.hid (HB20.out.trans (hK.belowOf HB20.out.size (by intro b hb e; have := Ho18.out; omega)))
    clear hgk hA hK hs
    by_cases hlt : k < 12
    · have c4 : wr.cell? ⟨p, 4, none⟩ = some (.map (some V.after)) := (HE.out.below HBr.out).pl.cells.cell 4
      have hwk : IntKind.i64.wrap ((k : Int) + 1) = k + 1 := by rw [IntKind.wrap_i64]; omega
      go_wp2_with (first
        | (refine wpList_look rfl _ _ 189 false rfl 3 84 .i64 Tryz.underlying189 Tryz.underlying3 (.map none) zeroMap84 V.after [(1, .map (some sub))] rfl (HE.out.below HBr.out).pl.after 1 rfl (.map (some sub)) rfl ?_)
        | (refine wpList_look rfl _ _ 84 false rfl 3 3 .i64 Tryz.underlying84 Tryz.underlying3 (.int .i64 0) zeroInt sub [] rfl (HE.out.below HBr.out).pl.subs k rfl (.int .i64 0) rfl ?_)
        | (refine wpList_storeCell rfl 3 _ _ rfl rfl w18.heap.size (5 + k) (.int .i64 0) _ _ rfl rfl HYr.out (show 5 + k < 19 by omega) size3 rfl rfl ?_; intro w21 hA21 hk21 hs21))
      go_roundg (12 - (k + 1))
      case measure => have := Hgk.out; omega
      case rel => exact ⟨k + 1, by omega, rfl, by go_num, by rw [← hrs k hlt]; exact hA21, HKr.out.trans hk21 (fun _ _ h => h), hs21.trans Hsr.out⟩
    · obtain rfl : k = 12 := by omega
      have HMr := Lib.hid (HM20.out.keep HKr.out (by have := Ho18.out; omega))
      have HNr := Lib.hid (HN20.out.keep HKr.out (by have := Ho18.out; omega))
      have HKKr := Lib.hid (HK20.out.keep HKr.out (by have := Ho18.out; omega))
      have HQr := Lib.hid (HKr.out.at HQ20.out (by have := Ho18.out; omega))
      have HXr := Lib.hid (HKr.out.at HX20.out (by have := Ho18.out; omega))
      clear HM20 HN20 HK20 HQ20 HX20 HY20 HKr hlt hrs
      have nn1 : ¬ (w8.heap.size = w18.heap.size) := by have := Ho18.out; omega
      have nn2 : ¬ (w11.heap.size = w18.heap.size) := by have := Ho18.out; omega
      have Nn := Lib.hid (And.intro nn1 nn2)
      clear nn1 nn2
      go_wp2_with fail
      have HMd : IMap wr w8.heap.size [(1, .map (some w11.heap.size))] := HMr.out
      have HNd : IMap wr w11.heap.size [] := HNr.out
      (try simp only [Act.put, List.setIfInBounds_toArray, List.set_cons_zero, List.set_cons_succ])
      refine wp_region_noPanic ?_
      refine T_region 13 (fun w' => IMap w' w8.heap.size [(1, .map (some w11.heap.size))] ∧ IMap w' w11.heap.size []) (by kernel_rfl) (by kernel_rfl) (by kernel_rfl) (by decide) (by kernel_rfl) ⟨HMd, HNd⟩ (fun hHeld hU => ?_)
      refine T_take (i := 0) hU 238 ?_ rfl rfl (by decide) (by kernel_rfl) (by kernel_rfl) (fun _ _ _ h => h) (Or.inl ⟨by rfl, ?_⟩) hHeld ?_; rotate_left; (intro w hSw; (try dsimp only at hSw); go_simp); (try with_reducible rfl); clear hU; intro hU; (try simp only [Act.put, List.setIfInBounds_toArray, List.set_cons_zero, List.set_cons_succ])
      refine T_take (i := 1) hU 239 ?_ rfl rfl (by decide) (by kernel_rfl) (by kernel_rfl) (fun _ _ _ h => h) (Or.inl ⟨by rfl, ?_⟩) hHeld ?_; rotate_left; (intro w hSw; (try dsimp only at hSw); go_simp); (try with_reducible rfl); clear hU; intro hU; (try simp only [Act.put, List.setIfInBounds_toArray, List.set_cons_zero, List.set_cons_succ])
      refine T_take (i := 2) hU 240 (.map (some w11.heap.size)) rfl rfl (by decide) (by kernel_rfl) (by kernel_rfl) (fun _ _ _ h => h) (yields_look _ _ _ _ rfl _ _ _ rfl 3 84 .i64 Tryz.underlying189 Tryz.underlying3 (.map none) zeroMap84 w8.heap.size _ 1 rfl rfl _ rfl (fun _ h => h.1)) hHeld ?_; clear hU; intro hU; (try simp only [Act.put, List.setIfInBounds_toArray, List.set_cons_zero, List.set_cons_succ])
      refine T_take (i := 3) hU 241 (.int .i64 0) rfl rfl (by decide) (by kernel_rfl) (by kernel_rfl) (fun _ _ _ h => h) (yields_look _ _ _ _ rfl _ _ _ rfl 3 3 .i64 Tryz.underlying84 Tryz.underlying3 (.int .i64 0) zeroInt w11.heap.size _ 0 rfl rfl _ rfl (fun _ h => h.2)) hHeld ?_; clear hU; intro hU; (try simp only [Act.put, List.setIfInBounds_toArray, List.set_cons_zero, List.set_cons_succ])
      refine T_take (i := 4) hU 242 ?_ rfl rfl (by decide) (by kernel_rfl) (by kernel_rfl) (fun _ _ _ h => h) (Or.inl ⟨by rfl, ?_⟩) hHeld ?_; rotate_left; (intro w hSw; (try dsimp only at hSw); go_simp); (try with_reducible rfl); clear hU; intro hU; (try simp only [Act.put, List.setIfInBounds_toArray, List.set_cons_zero, List.set_cons_succ])
      refine T_take (i := 5) hU 243 ?_ rfl rfl (by decide) (by kernel_rfl) (by kernel_rfl) (fun _ _ _ h => h) (Or.inl ⟨by rfl, ?_⟩) hHeld ?_; rotate_left; (intro w hSw; (try dsimp only at hSw); go_simp); (try with_reducible rfl); clear hU; intro hU; (try simp only [Act.put, List.setIfInBounds_toArray, List.set_cons_zero, List.set_cons_succ])
      refine T_take (i := 6) hU 244 (.map (some w11.heap.size)) rfl rfl (by decide) (by kernel_rfl) (by kernel_rfl) (fun _ _ _ h => h) (yields_look _ _ _ _ rfl _ _ _ rfl 3 84 .i64 Tryz.underlying189 Tryz.underlying3 (.map none) zeroMap84 w8.heap.size _ 1 rfl rfl _ rfl (fun _ h => h.1)) hHeld ?_; clear hU; intro hU; (try simp only [Act.put, List.setIfInBounds_toArray, List.set_cons_zero, List.set_cons_succ])
      refine T_take (i := 7) hU 245 (.int .i64 0) rfl rfl (by decide) (by kernel_rfl) (by kernel_rfl) (fun _ _ _ h => h) (yields_look _ _ _ _ rfl _ _ _ rfl 3 3 .i64 Tryz.underlying84 Tryz.underlying3 (.int .i64 0) zeroInt w11.heap.size _ 1 rfl rfl _ rfl (fun _ h => h.2)) hHeld ?_; clear hU; intro hU; (try simp only [Act.put, List.setIfInBounds_toArray, List.set_cons_zero, List.set_cons_succ])
      refine T_take (i := 8) hU 246 ?_ rfl rfl (by decide) (by kernel_rfl) (by kernel_rfl) (fun _ _ _ h => h) (Or.inl ⟨by rfl, ?_⟩) hHeld ?_; rotate_left; (intro w hSw; (try dsimp only at hSw); go_simp); (try with_reducible rfl); clear hU; intro hU; (try simp only [Act.put, List.setIfInBounds_toArray, List.set_cons_zero, List.set_cons_succ])
      refine T_take (i := 9) hU 247 ?_ rfl rfl (by decide) (by kernel_rfl) (by kernel_rfl) (fun _ _ _ h => h) (Or.inl ⟨by rfl, ?_⟩) hHeld ?_; rotate_left; (intro w hSw; (try dsimp only at hSw); go_simp); (try with_reducible rfl); clear hU; intro hU; (try simp only [Act.put, List.setIfInBounds_toArray, List.set_cons_zero, List.set_cons_succ])
      refine T_take (i := 11) hU 248 ?_ rfl rfl (by decide) (by kernel_rfl) (by kernel_rfl) (fun _ _ _ h => h) (Or.inl ⟨by rfl, ?_⟩) hHeld ?_; rotate_left; (intro w hSw; (try dsimp only at hSw); go_simp); (try with_reducible rfl); clear hU; intro hU; (try simp only [Act.put, List.setIfInBounds_toArray, List.set_cons_zero, List.set_cons_succ])
      have hHeld10 := hHeld
      refine T_step (i := 10) hU rfl (by decide) (by kernel_rfl) (fun K hK => ?_); clear hU hHeld
      refine step_storeCell rfl 3 _ _ rfl rfl w18.heap.size 17 (.int .i64 0) rootCells 96 (by with_unfolding_all exact rfl) (by with_unfolding_all exact rfl) (show At wr.drew w18.heap.size rootCells 96 from HYr.out) (show 17 < 19 by omega) size3 rfl rfl (fun w22 hA22 hk22 hs22 => ?_)
      refine hK.out _ _ (⟨hHeld10.1.keep hk22 Nn.out.1, hHeld10.2.keep hk22 Nn.out.2⟩) (fun hHeld hU => ?_); clear hK K; (try simp only [Act.put, List.setIfInBounds_toArray, List.set_cons_zero, List.set_cons_succ])
      refine T_take (i := 12) hU 249 ?_ rfl rfl (by decide) (by kernel_rfl) (by kernel_rfl) (fun _ _ _ h => h) (Or.inl ⟨by rfl, ?_⟩) hHeld ?_; rotate_left; (intro w hSw; (try dsimp only at hSw); go_simp); (try with_reducible rfl); clear hU; intro hU; (try simp only [Act.put, List.setIfInBounds_toArray, List.set_cons_zero, List.set_cons_succ])
      refine T_last (N := 13) rfl (by kernel_rfl) (by kernel_rfl) (fun K hK => ?_); clear hU hHeld
      refine step_storeCell rfl 3 _ _ rfl rfl w18.heap.size 18 (.int .i64 0) rootCells 96 rfl rfl hA22 (show 18 < 19 by omega) size3 rfl rfl (fun w23 hA23 hk23 hs23 => ?_)
      refine hK.out _ _ (NoPanic.normal ?_); clear hK K
      have KY : Keep (· = w18.heap.size) wr w23 := (Keep.ofDrew hk22).trans hk23 (fun _ _ h => h)
      have HY23 := Lib.hid (show At w23 w18.heap.size rootCells 96 from hA23)
      have HM23 := Lib.hid (HMr.out.keep KY Nn.out.1)
      have HN23 := Lib.hid (HNr.out.keep KY Nn.out.2)
      have HK23 := Lib.hid (HKKr.out.keep KY (by have := Ho18.out; omega))
      have HQ23 := Lib.hid (KY.at HQr.out (by have := Ho18.out; omega))
      have HX23 := Lib.hid (KY.at HXr.out (by have := Ho18.out; omega))
      have HB23 := Lib.hid (HBr.out.trans (KY.belowOf HBr.out.size (by intro b hb e; have := Ho18.out; omega)))
      have hz23 : w18.heap.size < w23.heap.size := hA23.lt
      have Ho23 : Hid (w.heap.size ≤ w2.heap.size ∧ w2.heap.size < q ∧ q < w8.heap.size ∧ w8.heap.size < w9.heap.size ∧ w9.heap.size < w11.heap.size ∧ w11.heap.size < w15.heap.size ∧ w15.heap.size < w18.heap.size ∧ w18.heap.size < w23.heap.size) := Lib.hid (by
        have := Ho18.out; omega)
      clear KY hA22 hk22 hs22 hA23 hk23 hs23 hz23 HMr HNr HKKr HQr HXr HBr HYr HMd HNd hHeld10 Nn Ho18
      have hu96 := Tryz.underlying96
      have hi96 := Lib.hid size96
      go_wp2_with (first
        | (refine wpList_load_row rfl 96 _ rfl w18.heap.size rfl 96 rootCells (0, 0) _ HY23.out hu96 rfl hi96.out ?_)
        | (go_at_call 114; refine (nput_ok _).mono ?_; rintro e w24 ⟨sb, hsb, rfl, hb⟩; have HM24 := Lib.hid (HM23.out.below hb HM23.out.lt); have HN24 := Lib.hid (HN23.out.below hb HN23.out.lt); have HK24 := Lib.hid (HK23.out.below hb HK23.out.lt); have HQ24 := Lib.hid (Below.at hb HQ23.out HQ23.out.lt); have HX24 := Lib.hid (Below.at hb HX23.out HX23.out.lt); have HB24 := Lib.hid (HB23.out.trans (hb.mono HB23.out.size)); have Hs24 := Lib.hid hb.size; have Hsb := Lib.hid hsb; clear hb hsb))
      have E24 := HE.out.below HB24.out
      have c2 : w24.cell? ⟨p, 2, none⟩ = some (.map (some V.nodes)) := E24.pl.cells.cell 2
      have c4 : w24.cell? ⟨p, 4, none⟩ = some (.map (some V.after)) := E24.pl.cells.cell 4
      have d1 : IMap w24 V.nodes [(1, rootV)] := E24.pl.nodes
      have d2 : IMap w24 V.after [(1, .map (some sub))] := E24.pl.after
      have d3 : IMap w24 w8.heap.size [(1, .map (some w11.heap.size))] := HM24.out
      have e0 := HE.out.pl.cells.lt
      have e1 := HE.out.pl.nodes.lt
      have e2 := HE.out.pl.after.lt
      have Hq1 : Hid (¬ p = q ∧ ¬ V.nodes = q ∧ ¬ V.after = q ∧ ¬ w8.heap.size = q) := Lib.hid (by have := Ho23.out; omega)
      have hs0 : 0 ≤ 48 + L.x.seg * 32 + L.x.at_ + 1 := by have := Hnum.out; omega
      have hs1 : 48 + L.x.seg * 32 + L.x.at_ + 1 ≤ 20000 := by have := Hnum.out; omega
      have Hsec := Lib.hid (And.intro hs0 hs1)
      clear E24 e0 e1 e2 HM23 HN23 HK23 HQ23 HX23 HB23 hs0 hs1
      (try simp only [Act.put, List.setIfInBounds_toArray, List.set_cons_zero, List.set_cons_succ])
      refine wp_region_noPanic ?_
      refine T_region 23 (fun w' => w'.cell? ⟨p, 2, none⟩ = some (.map (some V.nodes)) ∧ w'.cell? ⟨p, 4, none⟩ = some (.map (some V.after)) ∧ IMap w' V.nodes [(1, rootV)] ∧ IMap w' V.after [(1, .map (some sub))] ∧ IMap w' w8.heap.size [(1, .map (some w11.heap.size))]) (by kernel_rfl) (by kernel_rfl) (by kernel_rfl) (by decide) (by kernel_rfl) ⟨c2, c4, d1, d2, d3⟩ (fun hHeld hU => ?_)
      refine T_take (i := 0) hU 255 ?_ rfl rfl (by decide) (by kernel_rfl) (by kernel_rfl) (fun _ _ _ h => h) (Or.inl ⟨by rfl, ?_⟩) hHeld ?_; rotate_left; (intro w hSw; (try dsimp only at hSw); go_simp); (try with_reducible rfl); clear hU; intro hU; (try simp only [Act.put, List.setIfInBounds_toArray, List.set_cons_zero, List.set_cons_succ])
      refine T_take (i := 1) hU 256 ?_ rfl rfl (by decide) (by kernel_rfl) (by kernel_rfl) (fun _ _ _ h => h) (Or.inl ⟨by rfl, ?_⟩) hHeld ?_; rotate_left; (intro w hSw; (try dsimp only at hSw); go_simp); (try with_reducible rfl); clear hU; intro hU; (try simp only [Act.put, List.setIfInBounds_toArray, List.set_cons_zero, List.set_cons_succ])
      refine T_take (i := 2) hU 257 ?_ rfl rfl (by decide) (by kernel_rfl) (by kernel_rfl) (fun _ _ _ h => h) (Or.inl ⟨by rfl, ?_⟩) hHeld ?_; rotate_left; (intro w hSw; (try dsimp only at hSw); go_simp); (try with_reducible rfl); clear hU; intro hU; (try simp only [Act.put, List.setIfInBounds_toArray, List.set_cons_zero, List.set_cons_succ])
      refine T_take (i := 3) hU 258 ?_ rfl rfl (by decide) (by kernel_rfl) (by kernel_rfl) (fun _ _ _ h => h) (Or.inl ⟨by rfl, ?_⟩) hHeld ?_; rotate_left; (intro w hSw; (try dsimp only at hSw); go_simp); (try with_reducible rfl); clear hU; intro hU; (try simp only [Act.put, List.setIfInBounds_toArray, List.set_cons_zero, List.set_cons_succ])
      refine T_take (i := 4) hU 259 ?_ rfl rfl (by decide) (by kernel_rfl) (by kernel_rfl) (fun _ _ _ h => h) (Or.inl ⟨by rfl, ?_⟩) hHeld ?_; rotate_left; (intro w hSw; (try dsimp only at hSw); go_simp); (try with_reducible rfl); clear hU; intro hU; (try simp only [Act.put, List.setIfInBounds_toArray, List.set_cons_zero, List.set_cons_succ])
      refine T_take (i := 5) hU 260 ?_ rfl rfl (by decide) (by kernel_rfl) (by kernel_rfl) (fun _ _ _ h => h) (Or.inl ⟨by rfl, ?_⟩) hHeld ?_; rotate_left; (intro w hSw; (try dsimp only at hSw); go_simp); (try with_reducible rfl); clear hU; intro hU; (try simp only [Act.put, List.setIfInBounds_toArray, List.set_cons_zero, List.set_cons_succ])
      refine T_take (i := 6) hU 261 ?_ rfl rfl (by decide) (by kernel_rfl) (by kernel_rfl) (fun _ _ _ h => h) (Or.inl ⟨by rfl, ?_⟩) hHeld ?_; rotate_left; (intro w hSw; (try dsimp only at hSw); go_simp); (try with_reducible rfl); clear hU; intro hU; (try simp only [Act.put, List.setIfInBounds_toArray, List.set_cons_zero, List.set_cons_succ])
      refine T_take (i := 7) hU 262 (rootV) rfl rfl (by decide) (by kernel_rfl) (by kernel_rfl) (fun _ _ _ h => h) (yields_look _ _ _ _ rfl _ _ _ rfl 3 96 .i64 Tryz.underlying87 Tryz.underlying3 noneV zeroNode V.nodes _ 1 rfl rfl _ rfl (fun _ h => h.2.2.1)) hHeld ?_; clear hU; intro hU; (try simp only [Act.put, List.setIfInBounds_toArray, List.set_cons_zero, List.set_cons_succ])
      refine T_take (i := 8) hU 263 ?_ rfl rfl (by decide) (by kernel_rfl) (by kernel_rfl) (fun _ _ _ h => h) (Or.inl ⟨by rfl, ?_⟩) hHeld ?_; rotate_left; (intro w hSw; (try dsimp only at hSw); go_simp); (try with_reducible rfl); clear hU; intro hU; (try simp only [Act.put, List.setIfInBounds_toArray, List.set_cons_zero, List.set_cons_succ])
      refine T_take (i := 9) hU 264 ?_ rfl rfl (by decide) (by kernel_rfl) (by kernel_rfl) (fun _ _ _ h => h) (Or.inl ⟨by rfl, ?_⟩) hHeld ?_; rotate_left; (intro w hSw; (try dsimp only at hSw); go_simp); (try with_reducible rfl); clear hU; intro hU; (try simp only [Act.put, List.setIfInBounds_toArray, List.set_cons_zero, List.set_cons_succ])
      refine T_take (i := 10) hU 265 ?_ rfl rfl (by decide) (by kernel_rfl) (by kernel_rfl) (fun _ _ _ h => h) (Or.inl ⟨by rfl, ?_⟩) hHeld ?_; rotate_left; (intro w hSw; (try dsimp only at hSw); go_simp); (try with_reducible rfl); clear hU; intro hU; (try simp only [Act.put, List.setIfInBounds_toArray, List.set_cons_zero, List.set_cons_succ])
      refine T_take (i := 12) hU 267 ?_ rfl rfl (by decide) (by kernel_rfl) (by kernel_rfl) (fun _ _ _ h => h) (Or.inl ⟨by rfl, ?_⟩) hHeld ?_; rotate_left; (intro w hSw; (try dsimp only at hSw); go_simp); (try with_reducible rfl); clear hU; intro hU; (try simp only [Act.put, List.setIfInBounds_toArray, List.set_cons_zero, List.set_cons_succ])
      refine T_take (i := 13) hU 268 ?_ rfl rfl (by decide) (by kernel_rfl) (by kernel_rfl) (fun _ _ _ h => h) (Or.inl ⟨by rfl, ?_⟩) hHeld ?_; rotate_left; (intro w hSw; (try dsimp only at hSw); go_simp); (try with_reducible rfl); clear hU; intro hU; (try simp only [Act.put, List.setIfInBounds_toArray, List.set_cons_zero, List.set_cons_succ])
      refine T_take (i := 14) hU 269 ?_ rfl rfl (by decide) (by kernel_rfl) (by kernel_rfl) (fun _ _ _ h => h) (Or.inl ⟨by rfl, ?_⟩) hHeld ?_; rotate_left; (intro w hSw; (try dsimp only at hSw); go_simp); (try with_reducible rfl); clear hU; intro hU; (try simp only [Act.put, List.setIfInBounds_toArray, List.set_cons_zero, List.set_cons_succ])
      refine T_take (i := 15) hU 270 ?_ rfl rfl (by decide) (by kernel_rfl) (by kernel_rfl) (fun _ _ _ h => h) (Or.inl ⟨by rfl, ?_⟩) hHeld ?_; rotate_left; (intro w hSw; (try dsimp only at hSw); go_simp); (try with_reducible rfl); clear hU; intro hU; (try simp only [Act.put, List.setIfInBounds_toArray, List.set_cons_zero, List.set_cons_succ])
      refine T_take (i := 16) hU 271 ?_ rfl rfl (by decide) (by kernel_rfl) (by kernel_rfl) (fun _ _ _ h => h) (Or.inl ⟨by rfl, ?_⟩) hHeld ?_; rotate_left; (intro w hSw; (try dsimp only at hSw); go_simp); (try with_reducible rfl); clear hU; intro hU; (try simp only [Act.put, List.setIfInBounds_toArray, List.set_cons_zero, List.set_cons_succ])
      refine T_take (i := 17) hU 272 (.map (some sub)) rfl rfl (by decide) (by kernel_rfl) (by kernel_rfl) (fun _ _ _ h => h) (yields_look _ _ _ _ rfl _ _ _ rfl 3 84 .i64 Tryz.underlying189 Tryz.underlying3 (.map none) zeroMap84 V.after _ 1 rfl rfl _ rfl (fun _ h => h.2.2.2.1)) hHeld ?_; clear hU; intro hU; (try simp only [Act.put, List.setIfInBounds_toArray, List.set_cons_zero, List.set_cons_succ])
      refine T_take (i := 18) hU 273 ?_ rfl rfl (by decide) (by kernel_rfl) (by kernel_rfl) (fun _ _ _ h => h) (Or.inl ⟨by rfl, ?_⟩) hHeld ?_; rotate_left; (intro w hSw; (try dsimp only at hSw); go_simp); (try with_reducible rfl); clear hU; intro hU; (try simp only [Act.put, List.setIfInBounds_toArray, List.set_cons_zero, List.set_cons_succ])
      refine T_take (i := 19) hU 274 ?_ rfl rfl (by decide) (by kernel_rfl) (by kernel_rfl) (fun _ _ _ h => h) (Or.inl ⟨by rfl, ?_⟩) hHeld ?_; rotate_left; (intro w hSw; (try dsimp only at hSw); go_simp); (try with_reducible rfl); clear hU; intro hU; (try simp only [Act.put, List.setIfInBounds_toArray, List.set_cons_zero, List.set_cons_succ])
      refine T_take (i := 20) hU 275 (.map (some w11.heap.size)) rfl rfl (by decide) (by kernel_rfl) (by kernel_rfl) (fun _ _ _ h => h) (yields_look _ _ _ _ rfl _ _ _ rfl 3 84 .i64 Tryz.underlying189 Tryz.underlying3 (.map none) zeroMap84 w8.heap.size _ 1 rfl rfl _ rfl (fun _ h => h.2.2.2.2)) hHeld ?_; clear hU; intro hU; (try simp only [Act.put, List.setIfInBounds_toArray, List.set_cons_zero, List.set_cons_succ])
      have hHeld11 := hHeld
      refine T_step (i := 11) hU rfl (by decide) (by kernel_rfl) (fun K hK => ?_); clear hU hHeld
      go_simp
      go_at_call 109
      refine (wput_ok q 0 0 0 0 0 f g h (48 + L.x.seg * 32 + L.x.at_ + 1) 3 1 0 sb w24.drew HQ24.out Hsec.out.1 Hsec.out.2).mono ?_
      rintro e w25 ⟨rfl, lv, bv, hQ25, hlv, hbv, hk25⟩
      refine hK.out _ _ (⟨hk25.keepCell Hq1.out.1 hHeld11.1, hk25.keepCell Hq1.out.1 hHeld11.2.1, hHeld11.2.2.1.keep hk25 Hq1.out.2.1, hHeld11.2.2.2.1.keep hk25 Hq1.out.2.2.1, hHeld11.2.2.2.2.keep hk25 Hq1.out.2.2.2⟩) (fun hHeld hU => ?_); clear hK K; (try simp only [Act.put, List.setIfInBounds_toArray, List.set_cons_zero, List.set_cons_succ])
      refine T_take (i := 21) hU 276 (.agg (RootV.cells ⟨0, sub, w11.heap.size, 48 + L.x.seg * 32 + L.x.at_ + 1⟩)) rfl rfl (by decide) (by kernel_rfl) (by kernel_rfl) (fun _ _ _ h => h) (yields_build _ _ _ _ rfl _ _ rfl _ _ (built141 ⟨0, sub, w11.heap.size, 48 + L.x.seg * 32 + L.x.at_ + 1⟩) rfl) hHeld ?_; clear hU; intro hU; (try simp only [Act.put, List.setIfInBounds_toArray, List.set_cons_zero, List.set_cons_succ])
      have hHeld22 := hHeld
      refine T_step (i := 22) hU rfl (by decide) (by kernel_rfl) (fun K hK => ?_); clear hU hHeld
      refine step_boxN rfl _ _ rfl 277 rfl (RootV.cells ⟨0, sub, w11.heap.size, 48 + L.x.seg * 32 + L.x.at_ + 1⟩) rfl (fun w26 st hst0 hst1 hA26 hk26 => ?_)
      refine hK.out _ _ (⟨hk26.keepCell id hHeld22.1, hk26.keepCell id hHeld22.2.1, hHeld22.2.2.1.keep hk26 id, hHeld22.2.2.2.1.keep hk26 id, hHeld22.2.2.2.2.keep hk26 id⟩) (fun hHeld hU => ?_); clear hK K; (try simp only [Act.put, List.setIfInBounds_toArray, List.set_cons_zero, List.set_cons_succ])
      refine T_last (N := 23) rfl (by kernel_rfl) (by kernel_rfl) (fun K hK => ?_); clear hU hHeld
      refine step_putM rfl _ _ _ 83 rfl rfl 3 139 .i64 Tryz.underlying83 Tryz.underlying3 w15.heap.size [] (by with_unfolding_all exact rfl) ((show IMap w25 w15.heap.size [] from HK24.out.drew.keep hk25 (by have := Ho23.out; omega)).keep hk26 id) 1 (by with_unfolding_all exact rfl) (.pointer (some ⟨st, 0, none⟩)) (by with_unfolding_all exact rfl) (fun w27 hm27 hk27 hs27 => ?_)
      refine hK.out _ _ (NoPanic.normal ?_); clear hK K
      have K2427 : Keep (fun k => k = q ∨ k = w15.heap.size) w24 w27 := (((Keep.ofDrew hk25).mono (fun _ _ h => .inl h)).trans (hk26.mono (fun _ _ h => h.elim)) (fun _ _ h => h)).trans hk27 (fun _ _ h => .inr h)
      have HB27 := Lib.hid (HB24.out.trans (K2427.belowOf HB24.out.size (by intro b hb e; have := Ho23.out; omega)))
      have HN27 := Lib.hid (HN24.out.keep K2427 (by have := Ho23.out; omega))
      have HX27 := Lib.hid (K2427.at HX24.out (by have := Ho23.out; omega))
      have k2627 := (hk26.mono (F := fun _ => False) (G := (· = w15.heap.size)) (fun _ _ h => h.elim)).trans hk27 (fun _ _ h => h)
      have HQ27 := Lib.hid (k2627.at hQ25 (by have := Ho23.out; omega))
      have hK25 : w24.heap.size ≤ w25.heap.size := (Keep.ofDrew hk25).size
      have HLv := Lib.hid (k2627.ownsRow hlv (fun b hb e => by have := (hlv.lt b hb).1; have hd : w24.drew.heap.size = w24.heap.size := rfl; have := Hs24.out; have := Ho23.out; omega))
      have HBv := Lib.hid (k2627.ownsRow hbv (fun b hb e => by have := (hbv.lt b hb).1; have hd : w24.drew.heap.size = w24.heap.size := rfl; have := Hs24.out; have := Ho23.out; omega))
      have HS27 := Lib.hid (hk27.at hA26 (by have := Ho23.out; have := Hs24.out; omega))
      have HMk := Lib.hid (show IMap w27 w15.heap.size [(1, .pointer (some ⟨st, 0, none⟩))] from hm27)
      have Ho27 : Hid (w.heap.size ≤ w2.heap.size ∧ w2.heap.size < q ∧ q < w11.heap.size ∧ w11.heap.size < w15.heap.size ∧ w15.heap.size < st ∧ st < w27.heap.size) := Lib.hid (by
        have := Ho23.out; have := Hs24.out; have := HS27.out.lt; omega)
      obtain ⟨plv, clv, rfl⟩ := ownsRow_slice hlv
      obtain ⟨pbv, cbv, rfl⟩ := ownsRow_slice hbv
      clear K2427 k2627 hk25 hk26 hk27 hs27 hm27 hA26 hQ25 hlv hbv hst0 hst1 hK25 HB24 HM24 HN24 HK24 HQ24 HX24 Ho23 Hs24 d1 d2 d3 c2 c4 Hq1 hHeld11 hHeld22
      go_wp2_with fail
      rw [rounds_succ]
      have c3 : w27.cell? ⟨p, 3, none⟩ = some (.slice none 0 0) := (HE.out.below HB27.out).pl.cells.cell 3
      go_wp2
      refine wp_loop_rounds 1 ?_; rw [rounds_succ]
      go_wp2_with fail
      have E27 := HE.out.below (HB27.out.trans ((World.drew_below0 w27).mono HB27.out.size))
      have hBp : B ≤ w.heap.size := by have := HE.out.pl.ge.1; have := HE.out.pl.cells.lt; omega
      have hGs := HE.out.st.gs
      have Hns : Hid (¬ (F s ∨ s = l)) := Lib.hid (fun e => e.elim (fun hf => hFG s hf hGs) (fun e => hGl (e ▸ hGs)))
      have Hnq : Hid (∀ k, w.heap.size ≤ k → ¬ (F k ∨ k = l)) := Lib.hid (fun k hk e => e.elim (fun hf => by have := hFB k hf; omega) (fun e => by omega))
      have Hnp : Hid (∀ k, B ≤ k → ¬ (F k ∨ k = l)) := Lib.hid (fun k hk e => e.elim (fun hf => by have := hFB k hf; omega) (fun e => by omega))
      have HnG : Hid (∀ k, G k → ¬ (F k ∨ k = l)) := Lib.hid (fun k hg e => e.elim (fun hf => hFG k hf hg) (fun e => hGl (e ▸ hg)))
      have c6 : w27.cell? ⟨s, 6, none⟩ = some (.pointer (some ⟨l, 0, none⟩)) := by rw [← E27.lg.lp]; exact (HE.out.below HB27.out).st.cells.cell 6
      have rQ : w27.rangeAt q 0 [.int .i64 0, .int .i64 0, .int .i64 0, .int .i64 0, .int .i64 0, .int .i64 f, .int .i64 g, .int .i64 h, .slice plv 1 clv] := HQ27.out.range 0 9
      have cQ : w27.cell? ⟨q, 9, none⟩ = some (.slice pbv 1 cbv) := HQ27.out.cell 9
      have hu126 := Tryz.underlying126
      have hi126 : (Tryz.prog.info? 126).map (·.size) = some ([.int .i64 0, .int .i64 0, .int .i64 0, .int .i64 0, .int .i64 0, .int .i64 f, .int .i64 g, .int .i64 h, .slice plv 1 clv] : List Value).length := size126
      have hEn : EntriesAt EntryOk w27.drew (.slice plv 1 clv) 1 w27.drew.heap.size := entries_of_list (es := [(3, 1, 0)]) (show w27.drew.ownsRow _ 146 3 (.slice plv 1 clv) 1 [.int .i64 3, .int .i64 1, .int .i64 0] from HLv.out) rfl (by intro e he; simp at he; subst he; exact .inl ⟨rfl, by decide, by decide, rfl⟩)
      have hBl : BlocksAt w27.drew (.slice pbv 1 cbv) 1 w27.drew.heap.size := blocks_of_list (ss := [sb]) (show w27.drew.ownsRow _ 9 1 (.slice pbv 1 cbv) 1 [.string sb] from HBv.out) rfl (by intro x hx; simp at hx; subst hx; exact Hsb.out)
      obtain ⟨pf, cf, hfv⟩ := E27.lg.free.slice
      have Happ := Lib.hid (append_ok l dn Bd n F L 0 0 0 0 0 f g h (.slice plv 1 clv) (.slice pbv 1 cbv) 1 w27.drew E27.dk E27.lg.at_ hFl hEn hBl (by decide) (HN.out.lsct.trans HN.out.sct) (HN.out.dn.trans HN.out.lsct.symm) HN.out.lo HN.out.hi HN.out.seg ⟨HN.out.at_.1, by have := HN.out.at_; omega⟩ HN.out.h HN.out.g HN.out.life HN.out.seq HN.out.next hf hgg hhh (by omega) ⟨pf, _, cf, hfv⟩)
      clear E27 hEn hBl hfv
      (try simp only [Act.put, List.setIfInBounds_toArray, List.set_cons_zero, List.set_cons_succ])
      refine wp_region_noPanic ?_
      refine T_region 17 (fun w' => w'.cell? ⟨s, 6, none⟩ = some (.pointer (some ⟨l, 0, none⟩)) ∧ w'.rangeAt q 0 [.int .i64 0, .int .i64 0, .int .i64 0, .int .i64 0, .int .i64 0, .int .i64 f, .int .i64 g, .int .i64 h, .slice plv 1 clv] ∧ w'.cell? ⟨q, 9, none⟩ = some (.slice pbv 1 cbv)) (by kernel_rfl) (by kernel_rfl) (by kernel_rfl) (by decide) (by kernel_rfl) ⟨c6, rQ, cQ⟩ (fun hHeld hU => ?_)
      refine T_take (i := 0) hU 294 ?_ rfl rfl (by decide) (by kernel_rfl) (by kernel_rfl) (fun _ _ _ h => h) (Or.inl ⟨by rfl, ?_⟩) hHeld ?_; rotate_left; (intro w hSw; (try dsimp only at hSw); go_simp); (try with_reducible rfl); clear hU; intro hU; (try simp only [Act.put, List.setIfInBounds_toArray, List.set_cons_zero, List.set_cons_succ])
      refine T_take (i := 1) hU 295 ?_ rfl rfl (by decide) (by kernel_rfl) (by kernel_rfl) (fun _ _ _ h => h) (Or.inl ⟨by rfl, ?_⟩) hHeld ?_; rotate_left; (intro w hSw; (try dsimp only at hSw); go_simp); (try with_reducible rfl); clear hU; intro hU; (try simp only [Act.put, List.setIfInBounds_toArray, List.set_cons_zero, List.set_cons_succ])
      refine T_take (i := 2) hU 296 ?_ rfl rfl (by decide) (by kernel_rfl) (by kernel_rfl) (fun _ _ _ h => h) (Or.inl ⟨by rfl, ?_⟩) hHeld ?_; rotate_left; (intro w hSw; (try dsimp only at hSw); go_simp); (try with_reducible rfl); clear hU; intro hU; (try simp only [Act.put, List.setIfInBounds_toArray, List.set_cons_zero, List.set_cons_succ])
      refine T_take (i := 3) hU 297 ?_ rfl rfl (by decide) (by kernel_rfl) (by kernel_rfl) (fun _ _ _ h => h) (Or.inl ⟨by rfl, ?_⟩) hHeld ?_; rotate_left; (intro w hSw; (try dsimp only at hSw); go_simp); (try with_reducible rfl); clear hU; intro hU; (try simp only [Act.put, List.setIfInBounds_toArray, List.set_cons_zero, List.set_cons_succ])
      refine T_take (i := 4) hU 298 ?_ rfl rfl (by decide) (by kernel_rfl) (by kernel_rfl) (fun _ _ _ h => h) (Or.inl ⟨by rfl, ?_⟩) hHeld ?_; rotate_left; (intro w hSw; (try dsimp only at hSw); go_simp); (try with_reducible rfl); clear hU; intro hU; (try simp only [Act.put, List.setIfInBounds_toArray, List.set_cons_zero, List.set_cons_succ])
      refine T_take (i := 5) hU 299 ?_ rfl rfl (by decide) (by kernel_rfl) (by kernel_rfl) (fun _ _ _ h => h) (Or.inl ⟨by rfl, ?_⟩) hHeld ?_; rotate_left; (intro w hSw; (try dsimp only at hSw); go_simp); (try with_reducible rfl); clear hU; intro hU; (try simp only [Act.put, List.setIfInBounds_toArray, List.set_cons_zero, List.set_cons_succ])
      refine T_take (i := 6) hU 300 ?_ rfl rfl (by decide) (by kernel_rfl) (by kernel_rfl) (fun _ _ _ h => h) (Or.inl ⟨by rfl, ?_⟩) hHeld ?_; rotate_left; (intro w hSw; (try dsimp only at hSw); go_simp); (try with_reducible rfl); clear hU; intro hU; (try simp only [Act.put, List.setIfInBounds_toArray, List.set_cons_zero, List.set_cons_succ])
      refine T_take (i := 7) hU 301 (.agg #[.int .i64 0, .int .i64 0, .int .i64 0, .int .i64 0, .int .i64 0, .int .i64 f, .int .i64 g, .int .i64 h, .slice plv 1 clv]) rfl rfl (by decide) (by kernel_rfl) (by kernel_rfl) (fun _ _ _ h => h) (yields_load _ _ _ _ rfl _ _ rfl q 0 rfl _ _ hu126 rfl hi126 (fun _ h => h.2.1)) hHeld ?_; clear hU; intro hU; (try simp only [Act.put, List.setIfInBounds_toArray, List.set_cons_zero, List.set_cons_succ])
      refine T_take (i := 8) hU 302 ?_ rfl rfl (by decide) (by kernel_rfl) (by kernel_rfl) (fun _ _ _ h => h) (Or.inl ⟨by rfl, ?_⟩) hHeld ?_; rotate_left; (intro w hSw; (try dsimp only at hSw); go_simp); (try with_reducible rfl); clear hU; intro hU; (try simp only [Act.put, List.setIfInBounds_toArray, List.set_cons_zero, List.set_cons_succ])
      refine T_take (i := 9) hU 303 ?_ rfl rfl (by decide) (by kernel_rfl) (by kernel_rfl) (fun _ _ _ h => h) (Or.inl ⟨by rfl, ?_⟩) hHeld ?_; rotate_left; (intro w hSw; (try dsimp only at hSw); go_simp); (try with_reducible rfl); clear hU; intro hU; (try simp only [Act.put, List.setIfInBounds_toArray, List.set_cons_zero, List.set_cons_succ])
      refine T_take (i := 10) hU 304 ?_ rfl rfl (by decide) (by kernel_rfl) (by kernel_rfl) (fun _ _ _ h => h) (Or.inl ⟨by rfl, ?_⟩) hHeld ?_; rotate_left; (intro w hSw; (try dsimp only at hSw); go_simp); (try with_reducible rfl); clear hU; intro hU; (try simp only [Act.put, List.setIfInBounds_toArray, List.set_cons_zero, List.set_cons_succ])
      refine T_take (i := 11) hU 305 ?_ rfl rfl (by decide) (by kernel_rfl) (by kernel_rfl) (fun _ _ _ h => h) (Or.inl ⟨by rfl, ?_⟩) hHeld ?_; rotate_left; (intro w hSw; (try dsimp only at hSw); go_simp); (try with_reducible rfl); clear hU; intro hU; (try simp only [Act.put, List.setIfInBounds_toArray, List.set_cons_zero, List.set_cons_succ])
      have hHeld12 := hHeld
      refine T_step (i := 12) hU rfl (by decide) (by kernel_rfl) (fun K hK => ?_); clear hU hHeld
      go_simp
      go_at_call 77
      refine Happ.out.mono ?_
      rintro e w28 ⟨vs, F', rfl, hd28, hF28, hk28, hl28, hvs⟩
      obtain ⟨pvs, cvs, rfl⟩ := ownsRow_slice hvs
      have hnq := Hnq.out q (by have := Ho27.out; omega)
      refine hK.out _ _ (⟨hk28.keepCell Hns.out hHeld12.1, hk28.keepRange hnq hHeld12.2.1, hk28.keepCell hnq hHeld12.2.2⟩) (fun hHeld hU => ?_); clear hK K; (try simp only [Act.put, List.setIfInBounds_toArray, List.set_cons_zero, List.set_cons_succ])
      refine T_take (i := 13) hU 293 ?_ rfl rfl (by decide) (by kernel_rfl) (by kernel_rfl) (fun _ _ _ h => h) (Or.inl ⟨by rfl, ?_⟩) hHeld ?_; rotate_left; (intro w hSw; (try dsimp only at hSw); go_simp); (try with_reducible rfl); clear hU; intro hU; (try simp only [Act.put, List.setIfInBounds_toArray, List.set_cons_zero, List.set_cons_succ])
      refine T_take (i := 14) hU 307 ?_ rfl rfl (by decide) (by kernel_rfl) (by kernel_rfl) (fun _ _ _ h => h) (Or.inl ⟨by rfl, ?_⟩) hHeld ?_; rotate_left; (intro w hSw; (try dsimp only at hSw); go_simp); (try with_reducible rfl); clear hU; intro hU; (try simp only [Act.put, List.setIfInBounds_toArray, List.set_cons_zero, List.set_cons_succ])
      refine T_take (i := 15) hU 308 ?_ rfl rfl (by decide) (by kernel_rfl) (by kernel_rfl) (fun _ _ _ h => h) (Or.inl ⟨by rfl, ?_⟩) hHeld ?_; rotate_left; (intro w hSw; (try dsimp only at hSw); go_simp); (try with_reducible rfl); clear hU; intro hU; (try simp only [Act.put, List.setIfInBounds_toArray, List.set_cons_zero, List.set_cons_succ])
      refine T_take (i := 16) hU 32 ?_ rfl rfl (by decide) (by kernel_rfl) (by kernel_rfl) (fun _ _ _ h => h) (Or.inl ⟨by rfl, ?_⟩) hHeld ?_; rotate_left; (intro w hSw; (try dsimp only at hSw); go_simp); (try with_reducible rfl); clear hU; intro hU; (try simp only [Act.put, List.setIfInBounds_toArray, List.set_cons_zero, List.set_cons_succ])
      refine T_last (N := 17) rfl (by kernel_rfl) (by kernel_rfl) (fun K hK => ?_); clear hU hHeld
      go_simp
      refine hK.out _ _ (NoPanic.normal ?_); clear hK K
      have k28 : Keep (fun k => F k ∨ k = l) w27 w28 := Keep.ofDrew hk28
      have hSt := (HE.out.below HB27.out).st
      have hbase : IMap w28 S.base [] := hSt.base.keep k28 (HnG.out _ hSt.gb.1)
      have hmade := HMk.out.keep k28 (Hnq.out _ (by have := Ho27.out; omega))
      have hne : S.base ≠ w15.heap.size := fun e => by have := HE.out.st.lt _ HE.out.st.gb.1; have := Ho27.out; omega
      have m12 : w28.cell? ⟨s, 12, none⟩ = some (.map (some S.base)) := k28.keepCell Hns.out (hSt.cells.cell 12)
      have m13 : w28.cell? ⟨s, 13, none⟩ = some (.map (some S.last)) := k28.keepCell Hns.out (hSt.cells.cell 13)
      have m3 : w28.cell? ⟨p, 3, none⟩ = some (.slice none 0 0) := k28.keepCell (Hnp.out _ HE.out.pl.ge.1) ((HE.out.below HB27.out).pl.cells.cell 3)
      have x6 : w28.cell? ⟨w2.heap.size, 6, none⟩ = some (.int .i64 L.x.seq) := k28.keepCell (Hnq.out _ (by have := Ho27.out; omega)) (HX27.out.cell 6)
      have nsb : ¬ s = S.base := fun e => imap_ne_at hSt.base hSt.cells e.symm
      have npb : ¬ p = S.base := fun e => by have := hGB _ HE.out.st.gb.1; have := HE.out.pl.ge.1; omega
      have nxb : ¬ w2.heap.size = S.base := fun e => by have := HE.out.st.lt _ HE.out.st.gb.1; have := Ho27.out; omega
      have Hne := Lib.hid (And.intro nsb (And.intro npb nxb))
      have HCopy := Lib.hid (copy_one S.base w15.heap.size _ w28 hbase hmade hne)
      obtain ⟨ll, hll⟩ := hSt.last
      have Hll := Lib.hid (hll.keep k28 (HnG.out _ hSt.gb.2.1))
      have Hk28 := Lib.hid k28
      have HSt := Lib.hid hSt
      have M3 := Lib.hid m3
      have M13 := Lib.hid m13
      have X6 := Lib.hid x6
      clear hk28 k28 hSt hbase hmade hne m3 m13 x6 nsb npb nxb hll c6 rQ cQ c3 hnq hHeld12
      go_wp2_with (first
        | (go_at_call 115; refine HCopy.out.mono ?_; rintro e w29 ⟨rfl, hm29, hk29⟩; have HBs := Lib.hid hm29; have HK29 := Lib.hid hk29; have m3 : w29.cell? ⟨p, 3, none⟩ = some (.slice none 0 0) := hk29.keepCell Hne.out.2.1 M3.out; clear hm29 hk29 m12))
      refine wp_loop_rounds 1 ?_; rw [rounds_succ]
      go_wp2_with fail
      have m13 : w29.cell? ⟨s, 13, none⟩ = some (.map (some S.last)) := HK29.out.keepCell Hne.out.1 M13.out
      have x6 : w29.cell? ⟨w2.heap.size, 6, none⟩ = some (.int .i64 L.x.seq) := HK29.out.keepCell Hne.out.2.2 X6.out
      have hlast : IMap w29 S.last ll := Hll.out.keep HK29.out (fun e => HSt.out.ne.2.2.2.2.2.2.2.1 e.symm)
      (try simp only [Act.put, List.setIfInBounds_toArray, List.set_cons_zero, List.set_cons_succ])
      refine wp_region_noPanic ?_
      refine T_region 7 (fun w' => w'.cell? ⟨s, 13, none⟩ = some (.map (some S.last)) ∧ w'.cell? ⟨w2.heap.size, 6, none⟩ = some (.int .i64 L.x.seq)) (by kernel_rfl) (by kernel_rfl) (by kernel_rfl) (by decide) (by kernel_rfl) ⟨m13, x6⟩ (fun hHeld hU => ?_)
      refine T_take (i := 0) hU 332 ?_ rfl rfl (by decide) (by kernel_rfl) (by kernel_rfl) (fun _ _ _ h => h) (Or.inl ⟨by rfl, ?_⟩) hHeld ?_; rotate_left; (intro w hSw; (try dsimp only at hSw); go_simp); (try with_reducible rfl); clear hU; intro hU; (try simp only [Act.put, List.setIfInBounds_toArray, List.set_cons_zero, List.set_cons_succ])
      refine T_take (i := 1) hU 333 ?_ rfl rfl (by decide) (by kernel_rfl) (by kernel_rfl) (fun _ _ _ h => h) (Or.inl ⟨by rfl, ?_⟩) hHeld ?_; rotate_left; (intro w hSw; (try dsimp only at hSw); go_simp); (try with_reducible rfl); clear hU; intro hU; (try simp only [Act.put, List.setIfInBounds_toArray, List.set_cons_zero, List.set_cons_succ])
      refine T_take (i := 2) hU 334 ?_ rfl rfl (by decide) (by kernel_rfl) (by kernel_rfl) (fun _ _ _ h => h) (Or.inl ⟨by rfl, ?_⟩) hHeld ?_; rotate_left; (intro w hSw; (try dsimp only at hSw); go_simp); (try with_reducible rfl); clear hU; intro hU; (try simp only [Act.put, List.setIfInBounds_toArray, List.set_cons_zero, List.set_cons_succ])
      refine T_take (i := 3) hU 335 ?_ rfl rfl (by decide) (by kernel_rfl) (by kernel_rfl) (fun _ _ _ h => h) (Or.inl ⟨by rfl, ?_⟩) hHeld ?_; rotate_left; (intro w hSw; (try dsimp only at hSw); go_simp); (try with_reducible rfl); clear hU; intro hU; (try simp only [Act.put, List.setIfInBounds_toArray, List.set_cons_zero, List.set_cons_succ])
      refine T_take (i := 4) hU 336 ?_ rfl rfl (by decide) (by kernel_rfl) (by kernel_rfl) (fun _ _ _ h => h) (Or.inl ⟨by rfl, ?_⟩) hHeld ?_; rotate_left; (intro w hSw; (try dsimp only at hSw); go_simp); (try with_reducible rfl); clear hU; intro hU; (try simp only [Act.put, List.setIfInBounds_toArray, List.set_cons_zero, List.set_cons_succ])
      refine T_take (i := 5) hU 337 ?_ rfl rfl (by decide) (by kernel_rfl) (by kernel_rfl) (fun _ _ _ h => h) (Or.inl ⟨by rfl, ?_⟩) hHeld ?_; rotate_left; (intro w hSw; (try dsimp only at hSw); go_simp); (try with_reducible rfl); clear hU; intro hU; (try simp only [Act.put, List.setIfInBounds_toArray, List.set_cons_zero, List.set_cons_succ])
      refine T_take (i := 6) hU 338 ?_ rfl rfl (by decide) (by kernel_rfl) (by kernel_rfl) (fun _ _ _ h => h) (Or.inl ⟨by rfl, ?_⟩) hHeld ?_; rotate_left; (intro w hSw; (try dsimp only at hSw); go_simp); (try with_reducible rfl); clear hU; intro hU; (try simp only [Act.put, List.setIfInBounds_toArray, List.set_cons_zero, List.set_cons_succ])
      refine T_last (N := 7) rfl (by kernel_rfl) (by kernel_rfl) (fun K hK => ?_); clear hU hHeld
      refine step_putM rfl _ _ _ 84 rfl rfl 3 3 .i64 Tryz.underlying84 Tryz.underlying3 S.last ll (by with_unfolding_all exact rfl) hlast.drew L.x.seg (by with_unfolding_all exact rfl) (.int .i64 L.x.seq) (by with_unfolding_all exact rfl) (fun w30 hm30 hk30 hs30 => ?_)
      refine hK.out _ _ (NoPanic.normal ?_); clear hK K
      go_wp2
      go_ret
      have k30 : Keep (· = S.last) w29 w30 := Keep.ofDrew hk30
      have KC : Keep (fun k => F k ∨ k = l ∨ k = S.base ∨ k = S.last) w27 w30 := ((Hk28.out.mono (fun _ _ h => h.elim .inl (fun h => .inr (.inl h)))).trans HK29.out (fun _ _ h => .inr (.inr (.inl h)))).trans k30 (fun _ _ h => .inr (.inr (.inr h)))
      have hst := HSt.out
      have nG : ∀ k, G k → k ≠ S.base → k ≠ S.last → ¬ (F k ∨ k = l ∨ k = S.base ∨ k = S.last) := fun k hg n1 n2 e => by
        rcases e with e | e | e | e
        · exact hFG k e hg
        · exact hGl (e ▸ hg)
        · exact n1 e
        · exact n2 e
      have nB : ∀ k, B ≤ k → ¬ (F k ∨ k = l ∨ k = S.base ∨ k = S.last) := fun k hk e => by
        rcases e with e | e | e | e
        · have := hFB k e; omega
        · omega
        · have := hGB _ hst.gb.1; omega
        · have := hGB _ hst.gb.2.1; omega
      have hBst : B ≤ st ∧ B ≤ w11.heap.size ∧ B ≤ sub := ⟨by have := Ho27.out; omega, by have := Ho27.out; omega, HE.out.pl.ge.2.2.2.2.2.2⟩
      have hsubw : sub < w.heap.size := HE.out.pl.subs.lt
      have n1 : s ≠ S.base := Hne.out.1
      have n2 : s ≠ S.last := fun e => imap_ne_at Hll.out (Hk28.out.at hst.cells Hns.out) e.symm
      have hord := Ho27.out
      have hz27 := HB27.out.size
      refine ⟨rfl, st, w11.heap.size, F', ?_, k30.at (HK29.out.at hl28 (fun e => hGl (e ▸ hst.gb.1))) (fun e => hGl (e ▸ hst.gb.2.1)), ?_, ?_, ?_, ?_, ?_, by omega, by omega, ?_⟩
      · exact {
          cells := KC.at hst.cells (nG s hst.gs n1 n2)
          segs := ⟨KC.ownsRow hst.segs.1 (fun b hb => nG b (hst.segs.2 b hb) (fun e => imap_ne_own (e ▸ hst.base) hst.segs.1 hb) (fun e => by obtain ⟨l1, h1⟩ := hst.last; exact imap_ne_own (e ▸ h1) hst.segs.1 hb)), fun b hb => .inl (hst.segs.2 b hb)⟩
          base := HBs.out.keep k30 hst.ne.2.2.2.2.2.2.2.1
          last := ⟨_, hm30⟩
          set := hst.set.keep KC (nG _ hst.gb.2.2.1 (fun e => hst.ne.2.2.2.2.2.2.2.2.2.2.2.2.1 e.symm) (fun e => hst.ne.2.2.2.2.2.2.2.2.2.2.2.2.2.2.2.1 e.symm))
          touch := hst.touch.keep KC (nG _ hst.gb.2.2.2.1 (fun e => hst.ne.2.2.2.2.2.2.2.2.2.2.2.2.2.1 e.symm) (fun e => hst.ne.2.2.2.2.2.2.2.2.2.2.2.2.2.2.2.2.1 e.symm))
          nodes := hst.nodes.keep KC (nG _ hst.gb.2.2.2.2.1 (fun e => hst.ne.2.2.2.2.2.2.2.2.1 e.symm) (fun e => hst.ne.2.2.2.2.2.2.2.2.2.2.1 e.symm))
          turn := hst.turn.keep KC (nG _ hst.gb.2.2.2.2.2.1 (fun e => hst.ne.2.2.2.2.2.2.2.2.2.1 e.symm) (fun e => hst.ne.2.2.2.2.2.2.2.2.2.2.2.1 e.symm))
          gone := hst.gone.keep KC (nG _ hst.gb.2.2.2.2.2.2 (fun e => hst.ne.2.2.2.2.2.2.2.2.2.2.2.2.2.2.1 e.symm) (fun e => hst.ne.2.2.2.2.2.2.2.2.2.2.2.2.2.2.2.2.2 e.symm))
          root := fun r hr => by
            obtain rfl := Option.some.inj hr
            exact ⟨KC.at HS27.out (nB _ hBst.1), (HE.out.below HB27.out).pl.subs.keep KC (nB _ hBst.2.2), HN27.out.keep KC (nB _ hBst.2.1), .inr (.inl rfl), .inr (.inr (.inl rfl)), .inr (.inr (.inr rfl))⟩
          gs := .inl hst.gs
          gb := ⟨.inl hst.gb.1, .inl hst.gb.2.1, .inl hst.gb.2.2.1, .inl hst.gb.2.2.2.1, .inl hst.gb.2.2.2.2.1, .inl hst.gb.2.2.2.2.2.1, .inl hst.gb.2.2.2.2.2.2⟩
          ne := hst.ne
          neR := fun r hr => by
            obtain rfl := Option.some.inj hr
            have a1 := hGB _ hst.gb.1
            have a2 := hGB _ hst.gb.2.1
            exact ⟨by simp only; omega, by simp only; omega, by simp only; omega, by simp only; omega⟩
          lt := fun k hk => by
            have hz := KC.size
            rcases hk with hk | rfl | rfl | rfl
            · have := HE.out.st.lt k hk; omega
            · omega
            · omega
            · omega }
      · have hz : w27.drew.heap.size = w27.heap.size := rfl
        have nb : ∀ k, F' k → ¬ (k = S.base) := fun k hk e => by
          have hg : G k := e ▸ hst.gb.1
          have := hGB k hg
          rcases hF28 k hk with h1 | h1
          · exact hFG k h1 hg
          · omega
        have nl : ∀ k, F' k → ¬ (k = S.last) := fun k hk e => by
          have hg : G k := e ▸ hst.gb.2.1
          have := hGB k hg
          rcases hF28 k hk with h1 | h1
          · exact hFG k h1 hg
          · omega
        exact (hd28.kept HK29.out nb).kept k30 nl
      · intro k hk e
        have hd : w27.drew.heap.size = w27.heap.size := rfl
        rcases hF28 k hk with h1 | h1
        · have := hFB k h1
          rcases e with e | e | e | e
          · exact hFG k h1 e
          · omega
          · omega
          · omega
        · rcases e with e | e | e | e
          · have := hGB k e; omega
          · omega
          · omega
          · omega
      · intro hk
        rcases hF28 l hk with h1 | h1
        · exact hFl h1
        · have hd : w27.drew.heap.size = w27.heap.size := rfl; omega
      · rintro (e | e | e | e)
        · exact hGl e
        · omega
        · omega
        · omega
      · intro k hk
        have hd : w27.drew.heap.size = w27.heap.size := rfl
        rcases hF28 k hk with h1 | h1
        · exact .inl h1
        · exact .inr (by omega)
      · exact (Keep.of_below HB27.out _).trans KC (fun _ _ h => h)
end Go.Proofs.YtnndkfhpifgaiaaGreat
