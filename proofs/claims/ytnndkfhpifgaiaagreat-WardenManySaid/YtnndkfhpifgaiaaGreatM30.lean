/-
  file.plan: what a chunk is to carry, where the root alone was set.
-/
import Derived.Test.YtnndkfhpifgaiaaGreatM29
set_option linter.unusedVariables false
set_option linter.unusedSimpArgs false
namespace Go.Proofs.YtnndkfhpifgaiaaGreat
open Go.RowKit

/-- A plan's maps. -/
structure PlanV where
  (data inds nodes after fresh : Nat)
def PlanV.cells (V : PlanV) : Array Value := #[.map (some V.data), .map (some V.inds), .map (some V.nodes), .slice none 0 0, .map (some V.after), .map (some V.fresh)]

/-- Block p is a plan of nothing, all of it new. -/
structure PlanNew (w : World) (p : Nat) (V : PlanV) (B : Nat) : Prop where
  cells : At w p V.cells 191
  data : IMap w V.data []
  inds : IMap w V.inds []
  nodes : IMap w V.nodes []
  after : IMap w V.after []
  fresh : IMap w V.fresh []
  ge : B ≤ p ∧ B ≤ V.data ∧ B ≤ V.inds ∧ B ≤ V.nodes ∧ B ≤ V.after ∧ B ≤ V.fresh
  ne : V.data ≠ V.nodes ∧ V.data ≠ V.after ∧ V.data ≠ V.fresh ∧ V.inds ≠ V.nodes ∧ V.inds ≠ V.after ∧ V.inds ≠ V.fresh ∧ V.nodes ≠ V.after ∧ V.nodes ≠ V.fresh ∧ V.after ≠ V.fresh
  neP : p ≠ V.nodes ∧ p ≠ V.after ∧ p ≠ V.fresh

theorem PlanNew.keep {F : Nat → Prop} {w w' : World} {p B : Nat} {V : PlanV} (h : PlanNew w p V B) (hk : Keep F w w') (hF : ∀ k, B ≤ k → k < w.heap.size → ¬ F k) : PlanNew w' p V B where
  cells := hk.at h.cells (hF _ h.ge.1 h.cells.lt)
  data := h.data.keep hk (hF _ h.ge.2.1 h.data.lt)
  inds := h.inds.keep hk (hF _ h.ge.2.2.1 h.inds.lt)
  nodes := h.nodes.keep hk (hF _ h.ge.2.2.2.1 h.nodes.lt)
  after := h.after.keep hk (hF _ h.ge.2.2.2.2.1 h.after.lt)
  fresh := h.fresh.keep hk (hF _ h.ge.2.2.2.2.2 h.fresh.lt)
  ge := h.ge
  ne := h.ne
  neP := h.neP
theorem PlanNew.below {w w' : World} {p B : Nat} {V : PlanV} (h : PlanNew w p V B) (hb : Below w.heap.size w w') : PlanNew w' p V B := h.keep (Keep.of_below hb (fun _ => False)) (fun _ _ _ => id)

/-- The plan that writes the root. -/
structure PlanAt (w : World) (p : Nat) (V : PlanV) (sub B : Nat) : Prop where
  cells : At w p V.cells 191
  data : IMap w V.data []
  inds : IMap w V.inds []
  nodes : IMap w V.nodes [(1, rootV)]
  after : IMap w V.after [(1, .map (some sub))]
  fresh : IMap w V.fresh [(1, .bool false)]
  subs : IMap w sub []
  ge : B ≤ p ∧ B ≤ V.data ∧ B ≤ V.inds ∧ B ≤ V.nodes ∧ B ≤ V.after ∧ B ≤ V.fresh ∧ B ≤ sub

theorem PlanAt.keep {F : Nat → Prop} {w w' : World} {p sub B : Nat} {V : PlanV} (h : PlanAt w p V sub B) (hk : Keep F w w') (hF : ∀ k, B ≤ k → k < w.heap.size → ¬ F k) : PlanAt w' p V sub B where
  cells := hk.at h.cells (hF _ h.ge.1 h.cells.lt)
  data := h.data.keep hk (hF _ h.ge.2.1 h.data.lt)
  inds := h.inds.keep hk (hF _ h.ge.2.2.1 h.inds.lt)
  nodes := h.nodes.keep hk (hF _ h.ge.2.2.2.1 h.nodes.lt)
  after := h.after.keep hk (hF _ h.ge.2.2.2.2.1 h.after.lt)
  fresh := h.fresh.keep hk (hF _ h.ge.2.2.2.2.2.1 h.fresh.lt)
  subs := h.subs.keep hk (hF _ h.ge.2.2.2.2.2.2 h.subs.lt)
  ge := h.ge
theorem PlanAt.below {w w' : World} {p sub B : Nat} {V : PlanV} (h : PlanAt w p V sub B) (hb : Below w.heap.size w w') : PlanAt w' p V sub B := h.keep (Keep.of_below hb (fun _ => False)) (fun _ _ _ => id)

theorem built191 (a b c d e : Nat) : Tryz.prog.built 191 [(0, .map (some a)), (1, .map (some b)), (2, .map (some c)), (3, .slice none 0 0), (4, .map (some d)), (5, .map (some e))] = some #[.map (some a), .map (some b), .map (some c), .slice none 0 0, .map (some d), .map (some e)] := by kernel_rfl

set_option maxRecDepth 100000 in
theorem empties_ok (w : World) : Calls Tryz.prog 98 #[] w fun e w' => ∃ p V, e = .returned (.pointer (some ⟨p, 0, none⟩)) ∧ PlanNew w' p V w.heap.size ∧ Below w.heap.size w w' := by
  have hmm := @run_makeMap Tryz.prog
  obtain ⟨i0, i1, i2, i3, i4, hk, hz⟩ := maps5 w
  have I0 := Lib.hid i0
  have I1 := Lib.hid i1
  have I2 := Lib.hid i2
  have I3 := Lib.hid i3
  have I4 := Lib.hid i4
  have Hz := Lib.hid hz
  clear i0 i1 i2 i3 i4 hz
  go_enter Tryz.func98, Tryz.ntmps98
  go_wp2_with (first
    | (refine wpList_buildL rfl 191 _ rfl _ _ (built191 w.heap.size (w.heap.size + 1) (w.heap.size + 2) (w.heap.size + 3) (w.heap.size + 4)) rfl ?_)
    | (refine Great.wpList_boxTo rfl 191 _ rfl (w5maps w) rfl _ rfl _ rfl ?_))
  go_ret
  have hk2 : Keep (fun _ => False) (w5maps w) ((w5maps w).alloc (.cells #[.map (some w.heap.size), .map (some (w.heap.size + 1)), .map (some (w.heap.size + 2)), .slice none 0 0, .map (some (w.heap.size + 3)), .map (some (w.heap.size + 4))] 191)) := (Keep.refl _ _).alloc _
  have h5 := Hz.out
  refine ⟨w.heap.size + 5, ⟨w.heap.size, w.heap.size + 1, w.heap.size + 2, w.heap.size + 3, w.heap.size + 4⟩, ?_, ⟨?_, I0.out.keep hk2 id, I1.out.keep hk2 id, I2.out.keep hk2 id, I3.out.keep hk2 id, I4.out.keep hk2 id, by simp only; omega, by simp only; omega, by simp only; omega⟩, (hk.trans hk2 (fun _ _ h => h)).below⟩
  · rfl
  · have := At.new (w5maps w) #[.map (some w.heap.size), .map (some (w.heap.size + 1)), .map (some (w.heap.size + 2)), .slice none 0 0, .map (some (w.heap.size + 3)), .map (some (w.heap.size + 4))] 191
    rw [h5] at this
    exact this

theorem copy_none (a b : Nat) (w : World) (hb : IMap w b []) : Calls Tryz.prog 99 #[.map (some a), .map (some b)] w (Ans (.tuple #[]) w) := by
  obtain ⟨clk, hb⟩ := hb.empty
  go_enter Tryz.func99, Tryz.ntmps99
  go_wp2_with (first
    | (refine wpList_rangeE rfl _ 85 rfl 170 9 Tryz.underlying85 b clk rfl hb ?_; intro w1 hit1 hk1 hs1; have HI1 := Lib.hid hit1; clear hit1))
  refine wp_loop_rounds 1 ?_; rw [rounds_succ]
  go_wp2_with (first
    | (refine wpList_nextDone rfl _ rfl w.heap.size b [] rfl HI1.out ?_))
  go_end0
  exact ⟨rfl, hk1.below⟩

theorem zeroMap84 (w : World) : (zeroValue 84).run Tryz.prog w = .ok (.map none) w := by kernel_rfl

/-- What a lookup yields in each world that has the map. -/
theorem yields_look {P : Program} (ops : Array Oper) (S : World → Prop) (op : Oper) (a : Act) (hgd : op.guard = none) (t : TypeId) (m x : Operand) (ho : op.op = .lookup t m x false) (kt e : TypeId) (q : IntKind) (ht : P.underlying t = some (.map kt e)) (hk : P.underlying kt = some (.int q))
    (z : Value) (hz : ∀ w, (zeroValue e).run P w = .ok z w) (b : Nat) (l : List (Int × Value)) (k : Int) (hm : a.eval m = .map (some b)) (hx : a.eval x = .int .i64 k) (r : Value) (hr : (lookL l k).getD z = r) (hS : ∀ w, S w → IMap w b l) : YieldsIf P ops S op r a :=
  Or.inl ⟨by simp [Region.wanted, hgd], fun w hw => by
    unfold execOp
    simp only [ho, hm, hx, Sem.run_bind, run_look ht hk (hz w) (hS w hw) k false, Result.andThen_ok, hr]
    simp⟩

/-- The three entries are laid. -/
def PlanMid (w : World) (V : PlanV) (B : Nat) (u : Value) (w' : World) : Prop := ∃ n, u = .map (some n) ∧ IMap w' V.nodes [(1, rootV)] ∧ IMap w' V.after [(1, .map (some n))] ∧ IMap w' V.fresh [(1, .bool false)] ∧ IMap w' n [] ∧ B ≤ n ∧ w.heap.size ≤ n ∧
  Keep (fun k => k = V.nodes ∨ k = V.after ∨ k = V.fresh) w w'

set_option maxRecDepth 100000 in
set_option maxHeartbeats 2000000 in
theorem plan_ok (s : Nat) (S : StoreV) (segs : List Int) (R : Option RootV) (G : Nat → Prop) (w : World) (h : StoreAt w s S segs R true G) :
    Calls Tryz.prog 65 #[.pointer (some ⟨s, 0, none⟩)] w fun e w' => ∃ p V sub, e = .returned (.pointer (some ⟨p, 0, none⟩)) ∧ PlanAt w' p V sub w.heap.size ∧ Below w.heap.size w w' := by
  have HS := Lib.hid h
  clear h
  go_enter Tryz.func65, Tryz.ntmps65
  go_wp2_with (first
    | (go_at_call 98; refine (empties_ok _).mono ?_; rintro e w1 ⟨p, V, rfl, hP1, hb1⟩))
  have HS1 := Lib.hid (HS.out.below hb1)
  have HP1 := Lib.hid hP1
  have c0 : w1.cell? ⟨p, 0, none⟩ = some (.map (some V.data)) := hP1.cells.cell 0
  have c14 : w1.cell? ⟨s, 14, none⟩ = some (.map (some S.mset)) := HS1.out.cells.cell 14
  clear hP1
  (try simp only [Act.put, List.setIfInBounds_toArray, List.set_cons_zero, List.set_cons_succ])
  refine wp_region_noPanic ?_
  refine T_region 9 (fun w' => w'.cell? ⟨p, 0, none⟩ = some (.map (some V.data)) ∧ w'.cell? ⟨s, 14, none⟩ = some (.map (some S.mset))) (by kernel_rfl) (by kernel_rfl) (by kernel_rfl) (by decide) (by kernel_rfl) ⟨c0, c14⟩ (fun hHeld hU => ?_)
  refine T_take (i := 0) hU 13 ?_ rfl rfl (by decide) (by kernel_rfl) (by kernel_rfl) (fun _ _ _ h => h) (Or.inl ⟨by rfl, ?_⟩) hHeld ?_; rotate_left; (intro w hSw; (try dsimp only at hSw); go_simp); (try with_reducible rfl); clear hU; intro hU; (try simp only [Act.put, List.setIfInBounds_toArray, List.set_cons_zero, List.set_cons_succ])
  refine T_take (i := 1) hU 14 ?_ rfl rfl (by decide) (by kernel_rfl) (by kernel_rfl) (fun _ _ _ h => h) (Or.inl ⟨by rfl, ?_⟩) hHeld ?_; rotate_left; (intro w hSw; (try dsimp only at hSw); go_simp); (try with_reducible rfl); clear hU; intro hU; (try simp only [Act.put, List.setIfInBounds_toArray, List.set_cons_zero, List.set_cons_succ])
  refine T_take (i := 2) hU 15 ?_ rfl rfl (by decide) (by kernel_rfl) (by kernel_rfl) (fun _ _ _ h => h) (Or.inl ⟨by rfl, ?_⟩) hHeld ?_; rotate_left; (intro w hSw; (try dsimp only at hSw); go_simp); (try with_reducible rfl); clear hU; intro hU; (try simp only [Act.put, List.setIfInBounds_toArray, List.set_cons_zero, List.set_cons_succ])
  refine T_take (i := 3) hU 16 ?_ rfl rfl (by decide) (by kernel_rfl) (by kernel_rfl) (fun _ _ _ h => h) (Or.inl ⟨by rfl, ?_⟩) hHeld ?_; rotate_left; (intro w hSw; (try dsimp only at hSw); go_simp); (try with_reducible rfl); clear hU; intro hU; (try simp only [Act.put, List.setIfInBounds_toArray, List.set_cons_zero, List.set_cons_succ])
  refine T_take (i := 4) hU 17 ?_ rfl rfl (by decide) (by kernel_rfl) (by kernel_rfl) (fun _ _ _ h => h) (Or.inl ⟨by rfl, ?_⟩) hHeld ?_; rotate_left; (intro w hSw; (try dsimp only at hSw); go_simp); (try with_reducible rfl); clear hU; intro hU; (try simp only [Act.put, List.setIfInBounds_toArray, List.set_cons_zero, List.set_cons_succ])
  refine T_take (i := 5) hU 18 ?_ rfl rfl (by decide) (by kernel_rfl) (by kernel_rfl) (fun _ _ _ h => h) (Or.inl ⟨by rfl, ?_⟩) hHeld ?_; rotate_left; (intro w hSw; (try dsimp only at hSw); go_simp); (try with_reducible rfl); clear hU; intro hU; (try simp only [Act.put, List.setIfInBounds_toArray, List.set_cons_zero, List.set_cons_succ])
  refine T_take (i := 6) hU 19 ?_ rfl rfl (by decide) (by kernel_rfl) (by kernel_rfl) (fun _ _ _ h => h) (Or.inl ⟨by rfl, ?_⟩) hHeld ?_; rotate_left; (intro w hSw; (try dsimp only at hSw); go_simp); (try with_reducible rfl); clear hU; intro hU; (try simp only [Act.put, List.setIfInBounds_toArray, List.set_cons_zero, List.set_cons_succ])
  refine T_take (i := 7) hU 20 ?_ rfl rfl (by decide) (by kernel_rfl) (by kernel_rfl) (fun _ _ _ h => h) (Or.inl ⟨by rfl, ?_⟩) hHeld ?_; rotate_left; (intro w hSw; (try dsimp only at hSw); go_simp); (try with_reducible rfl); clear hU; intro hU; (try simp only [Act.put, List.setIfInBounds_toArray, List.set_cons_zero, List.set_cons_succ])
  refine T_take (i := 8) hU 21 ?_ rfl rfl (by decide) (by kernel_rfl) (by kernel_rfl) (fun _ _ _ h => h) (Or.inl ⟨by rfl, ?_⟩) hHeld ?_; rotate_left; (intro w hSw; (try dsimp only at hSw); go_simp); (try with_reducible rfl); clear hU; intro hU; (try simp only [Act.put, List.setIfInBounds_toArray, List.set_cons_zero, List.set_cons_succ])
  refine T_last (N := 9) rfl (by kernel_rfl) (by kernel_rfl) (fun K hK => ?_); clear hU hHeld
  go_simp
  go_at_call 99
  refine (copy_none _ _ _ HS1.out.drew.set).mono ?_
  rintro e w2 ⟨rfl, hb2⟩
  have HS2 := Lib.hid (HS1.out.drew.below hb2)
  have HP2 := Lib.hid (HP1.out.below (World.drew_below0 w1 |>.trans hb2))
  have HB2 := Lib.hid (hb1.trans ((World.drew_below0 w1 |>.trans hb2).mono hb1.size))
  refine hK.out _ _ (NoPanic.normal ?_); clear hK K
  clear HS1 HP1 c0 c14 hb1 hb2
  have m17 : w2.cell? ⟨s, 17, none⟩ = some (.map (some S.mturn)) := HS2.out.cells.cell 17
  go_wp2_with (first
    | (refine wpList_rangeM rfl _ 88 rfl 3 4 Tryz.underlying88 S.mturn [(1, .bool true)] rfl HS2.out.turn ?_; intro w3 hit3 hk3 hs3; have HI3 := Lib.hid hit3; clear hit3))
  have Hs3 := Lib.hid hs3
  have Hk3 := Lib.hid hk3
  clear hs3 hk3 m17
  refine wp_loop_rounds 2 ?_; rw [rounds_succ]
  go_wp2_with (first
    | (refine wpList_nextOne rfl _ rfl w2.heap.size S.mturn [(1, .bool true)] 1 (.bool true) rfl HI3.out ?_; intro w4 hit4 hk4 hs4 hent; have HI4 := Lib.hid hit4; have K24 : Keep (· = w2.heap.size) w2 w4 := (Hk3.out.mono (fun _ _ h => h.elim)).trans hk4 (fun _ _ h => h); have HS4 := Lib.hid (HS2.out.keep K24 (fun k hg e => by have := HS2.out.lt k hg; omega)); have HP4 := Lib.hid (HP2.out.keep K24 (fun k _ hg e => by omega)); have HK24 := Lib.hid K24; clear hit4 hs4 K24 hk4)
    | (go_at_call 50; refine (node_any s S segs R true G 1 _ HS4.out (.inl rfl)).mono ?_; rintro e w5 ⟨rfl, hb5⟩; rw [show nodeA 1 = .tuple #[rootV, .bool true] from rfl])
    | (refine wpList_allocAt rfl 96 rfl noneCells zero96 ?_; intro w6 hz6 hk6 hs6; have HZ6 := Lib.hid hz6; clear hz6)
    | (refine wpList_storeRow rfl 96 _ _ rfl rfl w5.heap.size rootCells noneCells _ rfl rfl HZ6.out rfl size96 one96 ?_; intro w7 hA7 hk7 hs7))
  have B45 := hb5.trans (hk6.below.mono hb5.size)
  have B47 : Below w4.heap.size w4 w7 := B45.trans (hk7.belowOf B45.size (by intro b hb e; have := hb5.size; omega))
  have HS7 := Lib.hid (HS4.out.below B47)
  have HP7 := Lib.hid (HP4.out.below B47)
  have HI7 := Lib.hid (HI4.out.keep (Keep.of_below B47 (fun _ => False)) id id)
  have hs27 : w2.heap.size < w7.heap.size := by have := HI7.out.lt; omega
  have c2 : w7.cell? ⟨p, 2, none⟩ = some (.map (some V.nodes)) := HP7.out.cells.cell 2
  have c4 : w7.cell? ⟨p, 4, none⟩ = some (.map (some V.after)) := HP7.out.cells.cell 4
  have c5 : w7.cell? ⟨p, 5, none⟩ = some (.map (some V.fresh)) := HP7.out.cells.cell 5
  have c18 : w7.cell? ⟨s, 18, none⟩ = some (.map (some S.mgone)) := HS7.out.cells.cell 18
  have rg : w7.rangeAt w5.heap.size 0 rootCells.toList := hA7.range 0 19
  have hi96l : (Tryz.prog.info? 96).map (·.size) = some rootCells.toList.length := size96
  have hu96 := Tryz.underlying96
  have mg : IMap w7 S.mgone [] := HS7.out.gone
  have l1 := HP7.out.nodes.lt
  have l2 := HP7.out.after.lt
  have l3 := HP7.out.fresh.lt
  obtain ⟨e1, e2, e3⟩ := HP7.out.neP
  have f1 := HP7.out.ne.2.2.2.2.2.2.1
  have f2 := HP7.out.ne.2.2.2.2.2.2.2.1
  have f3 := HP7.out.ne.2.2.2.2.2.2.2.2
  have g1 : s ≠ V.nodes := fun e => by have := HS.out.lt s HS.out.gs; have := HP7.out.ge.2.2.2.1; omega
  have g2 : s ≠ V.after := fun e => by have := HS.out.lt s HS.out.gs; have := HP7.out.ge.2.2.2.2.1; omega
  have g3 : s ≠ V.fresh := fun e => by have := HS.out.lt s HS.out.gs; have := HP7.out.ge.2.2.2.2.2; omega
  have j1 : S.mgone ≠ V.nodes := fun e => by have := HS.out.lt _ HS.out.gb.2.2.2.2.2.2; have := HP7.out.ge.2.2.2.1; omega
  have j2 : S.mgone ≠ V.after := fun e => by have := HS.out.lt _ HS.out.gb.2.2.2.2.2.2; have := HP7.out.ge.2.2.2.2.1; omega
  have j3 : S.mgone ≠ V.fresh := fun e => by have := HS.out.lt _ HS.out.gb.2.2.2.2.2.2; have := HP7.out.ge.2.2.2.2.2; omega
  have hw5 : V.nodes < w5.heap.size ∧ V.after < w5.heap.size ∧ V.fresh < w5.heap.size := by
    have a1 := HP4.out.nodes.lt; have a2 := HP4.out.after.lt; have a3 := HP4.out.fresh.lt; have := hb5.size; omega
  have k1 : w5.heap.size ≠ V.nodes := by omega
  have k2 : w5.heap.size ≠ V.after := by omega
  have k3 : w5.heap.size ≠ V.fresh := by omega
  have hB7 : w.heap.size ≤ w7.heap.size := by have := HP7.out.ge.1; have := HP7.out.cells.lt; omega
  go_cut [67] (fun u w' => PlanMid w7 V w.heap.size u w')
  case first =>
    have FN : IMap w7.drew V.nodes [] := HP7.out.nodes
    have FA : IMap w7.drew V.after [] := HP7.out.after
    have FF : IMap w7.drew V.fresh [] := HP7.out.fresh
    have KK : Keep (fun k => k = V.nodes ∨ k = V.after ∨ k = V.fresh) w7 w7.drew := (Keep.refl _ w7).drew
    (try simp only [Act.put, List.setIfInBounds_toArray, List.set_cons_zero, List.set_cons_succ])
    refine wp_region_noPanic ?_
    refine T_region 32 (fun w' => w'.cell? ⟨p, 2, none⟩ = some (.map (some V.nodes)) ∧ w'.cell? ⟨p, 4, none⟩ = some (.map (some V.after)) ∧ w'.cell? ⟨p, 5, none⟩ = some (.map (some V.fresh)) ∧ w'.cell? ⟨s, 18, none⟩ = some (.map (some S.mgone)) ∧ w'.rangeAt w5.heap.size 0 rootCells.toList ∧ IMap w' S.mgone []) (by kernel_rfl) (by kernel_rfl) (by kernel_rfl) (by decide) (by kernel_rfl) ⟨c2, c4, c5, c18, rg, mg⟩ (fun hHeld hU => ?_)
    refine T_take (i := 0) hU 51 ?_ rfl rfl (by decide) (by kernel_rfl) (by kernel_rfl) (fun _ _ _ h => h) (Or.inl ⟨by rfl, ?_⟩) hHeld ?_; rotate_left; (intro w hSw; (try dsimp only at hSw); go_simp); (try with_reducible rfl); clear hU; intro hU; (try simp only [Act.put, List.setIfInBounds_toArray, List.set_cons_zero, List.set_cons_succ])
    refine T_take (i := 1) hU 52 ?_ rfl rfl (by decide) (by kernel_rfl) (by kernel_rfl) (fun _ _ _ h => h) (Or.inl ⟨by rfl, ?_⟩) hHeld ?_; rotate_left; (intro w hSw; (try dsimp only at hSw); go_simp); (try with_reducible rfl); clear hU; intro hU; (try simp only [Act.put, List.setIfInBounds_toArray, List.set_cons_zero, List.set_cons_succ])
    refine T_take (i := 2) hU 53 ?_ rfl rfl (by decide) (by kernel_rfl) (by kernel_rfl) (fun _ _ _ h => h) (Or.inl ⟨by rfl, ?_⟩) hHeld ?_; rotate_left; (intro w hSw; (try dsimp only at hSw); go_simp); (try with_reducible rfl); clear hU; intro hU; (try simp only [Act.put, List.setIfInBounds_toArray, List.set_cons_zero, List.set_cons_succ])
    refine T_take (i := 3) hU 54 ?_ rfl rfl (by decide) (by kernel_rfl) (by kernel_rfl) (fun _ _ _ h => h) (Or.inl ⟨by rfl, ?_⟩) hHeld ?_; rotate_left; (intro w hSw; (try dsimp only at hSw); go_simp); (try with_reducible rfl); clear hU; intro hU; (try simp only [Act.put, List.setIfInBounds_toArray, List.set_cons_zero, List.set_cons_succ])
    refine T_take (i := 4) hU 55 ?_ rfl rfl (by decide) (by kernel_rfl) (by kernel_rfl) (fun _ _ _ h => h) (Or.inl ⟨by rfl, ?_⟩) hHeld ?_; rotate_left; (intro w hSw; (try dsimp only at hSw); go_simp); (try with_reducible rfl); clear hU; intro hU; (try simp only [Act.put, List.setIfInBounds_toArray, List.set_cons_zero, List.set_cons_succ])
    refine T_take (i := 5) hU 56 ?_ rfl rfl (by decide) (by kernel_rfl) (by kernel_rfl) (fun _ _ _ h => h) (Or.inl ⟨by rfl, ?_⟩) hHeld ?_; rotate_left; (intro w hSw; (try dsimp only at hSw); go_simp); (try with_reducible rfl); clear hU; intro hU; (try simp only [Act.put, List.setIfInBounds_toArray, List.set_cons_zero, List.set_cons_succ])
    refine T_take (i := 6) hU 57 ?_ rfl rfl (by decide) (by kernel_rfl) (by kernel_rfl) (fun _ _ _ h => h) (Or.inl ⟨by rfl, ?_⟩) hHeld ?_; rotate_left; (intro w hSw; (try dsimp only at hSw); go_simp); (try with_reducible rfl); clear hU; intro hU; (try simp only [Act.put, List.setIfInBounds_toArray, List.set_cons_zero, List.set_cons_succ])
    refine T_take (i := 7) hU 58 ?_ rfl rfl (by decide) (by kernel_rfl) (by kernel_rfl) (fun _ _ _ h => h) (Or.inl ⟨by rfl, ?_⟩) hHeld ?_; rotate_left; (intro w hSw; (try dsimp only at hSw); go_simp); (try with_reducible rfl); clear hU; intro hU; (try simp only [Act.put, List.setIfInBounds_toArray, List.set_cons_zero, List.set_cons_succ])
    refine T_take (i := 8) hU 59 ?_ rfl rfl (by decide) (by kernel_rfl) (by kernel_rfl) (fun _ _ _ h => h) (Or.inl ⟨by rfl, ?_⟩) hHeld ?_; rotate_left; (intro w hSw; (try dsimp only at hSw); go_simp); (try with_reducible rfl); clear hU; intro hU; (try simp only [Act.put, List.setIfInBounds_toArray, List.set_cons_zero, List.set_cons_succ])
    refine T_take (i := 9) hU 60 ?_ rfl rfl (by decide) (by kernel_rfl) (by kernel_rfl) (fun _ _ _ h => h) (Or.inl ⟨by rfl, ?_⟩) hHeld ?_; rotate_left; (intro w hSw; (try dsimp only at hSw); go_simp); (try with_reducible rfl); clear hU; intro hU; (try simp only [Act.put, List.setIfInBounds_toArray, List.set_cons_zero, List.set_cons_succ])
    refine T_take (i := 10) hU 61 ?_ rfl rfl (by decide) (by kernel_rfl) (by kernel_rfl) (fun _ _ _ h => h) (Or.inl ⟨by rfl, ?_⟩) hHeld ?_; rotate_left; (intro w hSw; (try dsimp only at hSw); go_simp); (try with_reducible rfl); clear hU; intro hU; (try simp only [Act.put, List.setIfInBounds_toArray, List.set_cons_zero, List.set_cons_succ])
    refine T_take (i := 11) hU 62 ?_ rfl rfl (by decide) (by kernel_rfl) (by kernel_rfl) (fun _ _ _ h => h) (Or.inl ⟨by rfl, ?_⟩) hHeld ?_; rotate_left; (intro w hSw; (try dsimp only at hSw); go_simp); (try with_reducible rfl); clear hU; intro hU; (try simp only [Act.put, List.setIfInBounds_toArray, List.set_cons_zero, List.set_cons_succ])
    refine T_take (i := 12) hU 63 ?_ rfl rfl (by decide) (by kernel_rfl) (by kernel_rfl) (fun _ _ _ h => h) (Or.inl ⟨by rfl, ?_⟩) hHeld ?_; rotate_left; (intro w hSw; (try dsimp only at hSw); go_simp); (try with_reducible rfl); clear hU; intro hU; (try simp only [Act.put, List.setIfInBounds_toArray, List.set_cons_zero, List.set_cons_succ])
    refine T_take (i := 13) hU 64 ?_ rfl rfl (by decide) (by kernel_rfl) (by kernel_rfl) (fun _ _ _ h => h) (Or.inl ⟨by rfl, ?_⟩) hHeld ?_; rotate_left; (intro w hSw; (try dsimp only at hSw); go_simp); (try with_reducible rfl); clear hU; intro hU; (try simp only [Act.put, List.setIfInBounds_toArray, List.set_cons_zero, List.set_cons_succ])
    refine T_take (i := 14) hU 65 ?_ rfl rfl (by decide) (by kernel_rfl) (by kernel_rfl) (fun _ _ _ h => h) (Or.inl ⟨by rfl, ?_⟩) hHeld ?_; rotate_left; (intro w hSw; (try dsimp only at hSw); go_simp); (try with_reducible rfl); clear hU; intro hU; (try simp only [Act.put, List.setIfInBounds_toArray, List.set_cons_zero, List.set_cons_succ])
    refine T_take (i := 15) hU 66 (rootV) rfl rfl (by decide) (by kernel_rfl) (by kernel_rfl) (fun _ _ _ h => h) (yields_load _ _ _ _ rfl _ _ rfl w5.heap.size 0 rfl _ _ hu96 rfl hi96l (fun _ h => h.2.2.2.2.1)) hHeld ?_; clear hU; intro hU; (try simp only [Act.put, List.setIfInBounds_toArray, List.set_cons_zero, List.set_cons_succ])
    refine T_take (i := 17) hU 68 ?_ rfl rfl (by decide) (by kernel_rfl) (by kernel_rfl) (fun _ _ _ h => h) (Or.inl ⟨by rfl, ?_⟩) hHeld ?_; rotate_left; (intro w hSw; (try dsimp only at hSw); go_simp); (try with_reducible rfl); clear hU; intro hU; (try simp only [Act.put, List.setIfInBounds_toArray, List.set_cons_zero, List.set_cons_succ])
    refine T_take (i := 18) hU 69 ?_ rfl rfl (by decide) (by kernel_rfl) (by kernel_rfl) (fun _ _ _ h => h) (Or.inl ⟨by rfl, ?_⟩) hHeld ?_; rotate_left; (intro w hSw; (try dsimp only at hSw); go_simp); (try with_reducible rfl); clear hU; intro hU; (try simp only [Act.put, List.setIfInBounds_toArray, List.set_cons_zero, List.set_cons_succ])
    refine T_take (i := 19) hU 70 ?_ rfl rfl (by decide) (by kernel_rfl) (by kernel_rfl) (fun _ _ _ h => h) (Or.inl ⟨by rfl, ?_⟩) hHeld ?_; rotate_left; (intro w hSw; (try dsimp only at hSw); go_simp); (try with_reducible rfl); clear hU; intro hU; (try simp only [Act.put, List.setIfInBounds_toArray, List.set_cons_zero, List.set_cons_succ])
    refine T_take (i := 20) hU 71 ?_ rfl rfl (by decide) (by kernel_rfl) (by kernel_rfl) (fun _ _ _ h => h) (Or.inl ⟨by rfl, ?_⟩) hHeld ?_; rotate_left; (intro w hSw; (try dsimp only at hSw); go_simp); (try with_reducible rfl); clear hU; intro hU; (try simp only [Act.put, List.setIfInBounds_toArray, List.set_cons_zero, List.set_cons_succ])
    refine T_take (i := 21) hU 72 ?_ rfl rfl (by decide) (by kernel_rfl) (by kernel_rfl) (fun _ _ _ h => h) (Or.inl ⟨by rfl, ?_⟩) hHeld ?_; rotate_left; (intro w hSw; (try dsimp only at hSw); go_simp); (try with_reducible rfl); clear hU; intro hU; (try simp only [Act.put, List.setIfInBounds_toArray, List.set_cons_zero, List.set_cons_succ])
    refine T_take (i := 22) hU 73 ?_ rfl rfl (by decide) (by kernel_rfl) (by kernel_rfl) (fun _ _ _ h => h) (Or.inl ⟨by rfl, ?_⟩) hHeld ?_; rotate_left; (intro w hSw; (try dsimp only at hSw); go_simp); (try with_reducible rfl); clear hU; intro hU; (try simp only [Act.put, List.setIfInBounds_toArray, List.set_cons_zero, List.set_cons_succ])
    refine T_take (i := 23) hU 74 (.bool false) rfl rfl (by decide) (by kernel_rfl) (by kernel_rfl) (fun _ _ _ h => h) (yields_look _ _ _ _ rfl _ _ _ rfl 3 4 .i64 Tryz.underlying88 Tryz.underlying3 (.bool false) zeroBool S.mgone [] 1 rfl rfl _ rfl (fun _ h => h.2.2.2.2.2)) hHeld ?_; clear hU; intro hU; (try simp only [Act.put, List.setIfInBounds_toArray, List.set_cons_zero, List.set_cons_succ])
    refine T_ways2 (i := 16) (j := 24) (by kernel_rfl) (T_way (i := 16) hU rfl (by decide) (by kernel_rfl) (fun K hK => ?_)) (T_way (i := 24) hU rfl (by decide) (by kernel_rfl) (fun K hK => ?_))
    · have hHeld16 := hHeld
      clear hU hHeld
      refine step_makeMapN rfl _ rfl 67 rfl (fun x n hge hlt FI hk => ?_)
      have hn0 : w7.heap.size ≤ n := Nat.le_trans KK.size hge
      replace FN := FN.keep hk id
      replace FA := FA.keep hk id
      replace FF := FF.keep hk id
      replace KK := KK.trans (hk.mono (fun _ _ h => h.elim)) (fun _ _ h => h)
      refine hK.out _ _ (⟨hk.keepCell id hHeld16.1, hk.keepCell id hHeld16.2.1, hk.keepCell id hHeld16.2.2.1, hk.keepCell id hHeld16.2.2.2.1, hk.keepRange id hHeld16.2.2.2.2.1, hHeld16.2.2.2.2.2.keep hk id⟩) (fun hHeld hU => ?_); clear hK K; (try simp only [Act.put, List.setIfInBounds_toArray, List.set_cons_zero, List.set_cons_succ])
      have hHeld24 := hHeld
      refine T_step (i := 24) hU rfl (by decide) (by kernel_rfl) (fun K hK => ?_); clear hU hHeld
      refine step_mapEntry1 rfl _ _ _ rfl 75 rfl 3 96 .i64 Tryz.underlying87 Tryz.underlying3 noneV zeroNode V.nodes rfl FN 1 rfl (fun x q24 EN hk hs => ?_)
      replace FN := EN
      replace FA := FA.keep hk (fun e => f1 e.symm)
      replace FF := FF.keep hk (fun e => f2 e.symm)
      (try replace FI := FI.keep hk (by omega))
      replace KK := KK.trans (hk.mono (fun _ _ h => .inl h)) (fun _ _ h => h)
      refine hK.out _ _ (⟨hk.keepCell e1 hHeld24.1, hk.keepCell e1 hHeld24.2.1, hk.keepCell e1 hHeld24.2.2.1, hk.keepCell g1 hHeld24.2.2.2.1, hk.keepRange k1 hHeld24.2.2.2.2.1, hHeld24.2.2.2.2.2.keep hk j1⟩) (fun hHeld hU => ?_); clear hK K; (try simp only [Act.put, List.setIfInBounds_toArray, List.set_cons_zero, List.set_cons_succ])
      refine T_take (i := 25) hU 76 ?_ rfl rfl (by decide) (by kernel_rfl) (by kernel_rfl) (fun _ _ _ h => h) (Or.inl ⟨by rfl, ?_⟩) hHeld ?_; rotate_left; (intro w hSw; (try dsimp only at hSw); go_simp); (try with_reducible rfl); clear hU; intro hU; (try simp only [Act.put, List.setIfInBounds_toArray, List.set_cons_zero, List.set_cons_succ])
      have hHeld26 := hHeld
      refine T_step (i := 26) hU rfl (by decide) (by kernel_rfl) (fun K hK => ?_); clear hU hHeld
      refine step_entryStore1 rfl _ _ _ _ rfl rfl V.nodes q24 1 noneV rfl rfl FN rootV rfl (fun x EN hk hs => ?_)
      replace FN := EN
      replace FA := FA.keep hk (fun e => f1 e.symm)
      replace FF := FF.keep hk (fun e => f2 e.symm)
      (try replace FI := FI.keep hk (by omega))
      replace KK := KK.trans (hk.mono (fun _ _ h => .inl h)) (fun _ _ h => h)
      refine hK.out _ _ (⟨hk.keepCell e1 hHeld26.1, hk.keepCell e1 hHeld26.2.1, hk.keepCell e1 hHeld26.2.2.1, hk.keepCell g1 hHeld26.2.2.2.1, hk.keepRange k1 hHeld26.2.2.2.2.1, hHeld26.2.2.2.2.2.keep hk j1⟩) (fun hHeld hU => ?_); clear hK K; (try simp only [Act.put, List.setIfInBounds_toArray, List.set_cons_zero, List.set_cons_succ])
      have hHeld27 := hHeld
      refine T_step (i := 27) hU rfl (by decide) (by kernel_rfl) (fun K hK => ?_); clear hU hHeld
      refine step_mapEntry1 rfl _ _ _ rfl 77 rfl 3 84 .i64 Tryz.underlying189 Tryz.underlying3 (.map none) zeroMap84 V.after rfl FA 1 rfl (fun x q27 EA hk hs => ?_)
      replace FA := EA
      replace FN := FN.keep hk f1
      replace FF := FF.keep hk (fun e => f3 e.symm)
      (try replace FI := FI.keep hk (by omega))
      replace KK := KK.trans (hk.mono (fun _ _ h => .inr (.inl h))) (fun _ _ h => h)
      refine hK.out _ _ (⟨hk.keepCell e2 hHeld27.1, hk.keepCell e2 hHeld27.2.1, hk.keepCell e2 hHeld27.2.2.1, hk.keepCell g2 hHeld27.2.2.2.1, hk.keepRange k2 hHeld27.2.2.2.2.1, hHeld27.2.2.2.2.2.keep hk j2⟩) (fun hHeld hU => ?_); clear hK K; (try simp only [Act.put, List.setIfInBounds_toArray, List.set_cons_zero, List.set_cons_succ])
      refine T_take (i := 28) hU 78 ?_ rfl rfl (by decide) (by kernel_rfl) (by kernel_rfl) (fun _ _ _ h => h) (Or.inl ⟨by rfl, ?_⟩) hHeld ?_; rotate_left; (intro w hSw; (try dsimp only at hSw); go_simp); (try with_reducible rfl); clear hU; intro hU; (try simp only [Act.put, List.setIfInBounds_toArray, List.set_cons_zero, List.set_cons_succ])
      have hHeld29 := hHeld
      refine T_step (i := 29) hU rfl (by decide) (by kernel_rfl) (fun K hK => ?_); clear hU hHeld
      refine step_entryStore1 rfl _ _ _ _ rfl rfl V.after q27 1 (.map none) rfl rfl FA (.map (some n)) rfl (fun x EA hk hs => ?_)
      replace FA := EA
      replace FN := FN.keep hk f1
      replace FF := FF.keep hk (fun e => f3 e.symm)
      replace FI := FI.keep hk (by omega)
      replace KK := KK.trans (hk.mono (fun _ _ h => .inr (.inl h))) (fun _ _ h => h)
      refine hK.out _ _ (⟨hk.keepCell e2 hHeld29.1, hk.keepCell e2 hHeld29.2.1, hk.keepCell e2 hHeld29.2.2.1, hk.keepCell g2 hHeld29.2.2.2.1, hk.keepRange k2 hHeld29.2.2.2.2.1, hHeld29.2.2.2.2.2.keep hk j2⟩) (fun hHeld hU => ?_); clear hK K; (try simp only [Act.put, List.setIfInBounds_toArray, List.set_cons_zero, List.set_cons_succ])
      have hHeld30 := hHeld
      refine T_step (i := 30) hU rfl (by decide) (by kernel_rfl) (fun K hK => ?_); clear hU hHeld
      refine step_mapEntry1 rfl _ _ _ rfl 79 rfl 3 4 .i64 Tryz.underlying88 Tryz.underlying3 (.bool false) zeroBool V.fresh rfl FF 1 rfl (fun x q30 EF hk hs => ?_)
      replace FF := EF
      replace FN := FN.keep hk f2
      replace FA := FA.keep hk f3
      replace FI := FI.keep hk (by omega)
      replace KK := KK.trans (hk.mono (fun _ _ h => .inr (.inr h))) (fun _ _ h => h)
      refine hK.out _ _ (⟨hk.keepCell e3 hHeld30.1, hk.keepCell e3 hHeld30.2.1, hk.keepCell e3 hHeld30.2.2.1, hk.keepCell g3 hHeld30.2.2.2.1, hk.keepRange k3 hHeld30.2.2.2.2.1, hHeld30.2.2.2.2.2.keep hk j3⟩) (fun hHeld hU => ?_); clear hK K; (try simp only [Act.put, List.setIfInBounds_toArray, List.set_cons_zero, List.set_cons_succ])
      refine T_take (i := 31) hU 80 ?_ rfl rfl (by decide) (by kernel_rfl) (by kernel_rfl) (fun _ _ _ h => h) (Or.inl ⟨by rfl, ?_⟩) hHeld ?_; rotate_left; (intro w hSw; (try dsimp only at hSw); go_simp); (try with_reducible rfl); clear hU; intro hU; (try simp only [Act.put, List.setIfInBounds_toArray, List.set_cons_zero, List.set_cons_succ])
      refine T_last (N := 32) rfl (by kernel_rfl) (by kernel_rfl) (fun K hK => ?_); clear hU hHeld
      refine step_entryStore1 rfl _ _ _ _ rfl rfl V.fresh q30 1 (.bool false) rfl rfl FF (.bool false) rfl (fun x EF hk hs => ?_)
      replace FF := EF
      replace FN := FN.keep hk f2
      replace FA := FA.keep hk f3
      replace FI := FI.keep hk (by omega)
      replace KK := KK.trans (hk.mono (fun _ _ h => .inr (.inr h))) (fun _ _ h => h)
      refine hK.out _ _ (NoPanic.normal ?_); clear hK K
      go_wp2_with fail
      go_meet
      exact ⟨n, rfl, FN, FA, FF, FI, by omega, hn0, KK⟩
    · have hHeld24 := hHeld
      clear hU hHeld
      refine step_mapEntry1 rfl _ _ _ rfl 75 rfl 3 96 .i64 Tryz.underlying87 Tryz.underlying3 noneV zeroNode V.nodes rfl FN 1 rfl (fun x q24 EN hk hs => ?_)
      replace FN := EN
      replace FA := FA.keep hk (fun e => f1 e.symm)
      replace FF := FF.keep hk (fun e => f2 e.symm)
      (try replace FI := FI.keep hk (by omega))
      replace KK := KK.trans (hk.mono (fun _ _ h => .inl h)) (fun _ _ h => h)
      refine hK.out _ _ (⟨hk.keepCell e1 hHeld24.1, hk.keepCell e1 hHeld24.2.1, hk.keepCell e1 hHeld24.2.2.1, hk.keepCell g1 hHeld24.2.2.2.1, hk.keepRange k1 hHeld24.2.2.2.2.1, hHeld24.2.2.2.2.2.keep hk j1⟩) (fun hHeld hU => ?_); clear hK K; (try simp only [Act.put, List.setIfInBounds_toArray, List.set_cons_zero, List.set_cons_succ])
      refine T_take (i := 25) hU 76 ?_ rfl rfl (by decide) (by kernel_rfl) (by kernel_rfl) (fun _ _ _ h => h) (Or.inl ⟨by rfl, ?_⟩) hHeld ?_; rotate_left; (intro w hSw; (try dsimp only at hSw); go_simp); (try with_reducible rfl); clear hU; intro hU; (try simp only [Act.put, List.setIfInBounds_toArray, List.set_cons_zero, List.set_cons_succ])
      refine T_ways2 (i := 16) (j := 26) (by kernel_rfl) (T_way (i := 16) hU rfl (by decide) (by kernel_rfl) (fun K hK => ?_)) (T_way (i := 26) hU rfl (by decide) (by kernel_rfl) (fun K hK => ?_))
      · have hHeld16 := hHeld
        clear hU hHeld
        refine step_makeMapN rfl _ rfl 67 rfl (fun x n hge hlt FI hk => ?_)
        have hn0 : w7.heap.size ≤ n := Nat.le_trans KK.size hge
        replace FN := FN.keep hk id
        replace FA := FA.keep hk id
        replace FF := FF.keep hk id
        replace KK := KK.trans (hk.mono (fun _ _ h => h.elim)) (fun _ _ h => h)
        refine hK.out _ _ (⟨hk.keepCell id hHeld16.1, hk.keepCell id hHeld16.2.1, hk.keepCell id hHeld16.2.2.1, hk.keepCell id hHeld16.2.2.2.1, hk.keepRange id hHeld16.2.2.2.2.1, hHeld16.2.2.2.2.2.keep hk id⟩) (fun hHeld hU => ?_); clear hK K; (try simp only [Act.put, List.setIfInBounds_toArray, List.set_cons_zero, List.set_cons_succ])
        have hHeld26 := hHeld
        refine T_step (i := 26) hU rfl (by decide) (by kernel_rfl) (fun K hK => ?_); clear hU hHeld
        refine step_entryStore1 rfl _ _ _ _ rfl rfl V.nodes q24 1 noneV rfl rfl FN rootV rfl (fun x EN hk hs => ?_)
        replace FN := EN
        replace FA := FA.keep hk (fun e => f1 e.symm)
        replace FF := FF.keep hk (fun e => f2 e.symm)
        (try replace FI := FI.keep hk (by omega))
        replace KK := KK.trans (hk.mono (fun _ _ h => .inl h)) (fun _ _ h => h)
        refine hK.out _ _ (⟨hk.keepCell e1 hHeld26.1, hk.keepCell e1 hHeld26.2.1, hk.keepCell e1 hHeld26.2.2.1, hk.keepCell g1 hHeld26.2.2.2.1, hk.keepRange k1 hHeld26.2.2.2.2.1, hHeld26.2.2.2.2.2.keep hk j1⟩) (fun hHeld hU => ?_); clear hK K; (try simp only [Act.put, List.setIfInBounds_toArray, List.set_cons_zero, List.set_cons_succ])
        have hHeld27 := hHeld
        refine T_step (i := 27) hU rfl (by decide) (by kernel_rfl) (fun K hK => ?_); clear hU hHeld
        refine step_mapEntry1 rfl _ _ _ rfl 77 rfl 3 84 .i64 Tryz.underlying189 Tryz.underlying3 (.map none) zeroMap84 V.after rfl FA 1 rfl (fun x q27 EA hk hs => ?_)
        replace FA := EA
        replace FN := FN.keep hk f1
        replace FF := FF.keep hk (fun e => f3 e.symm)
        (try replace FI := FI.keep hk (by omega))
        replace KK := KK.trans (hk.mono (fun _ _ h => .inr (.inl h))) (fun _ _ h => h)
        refine hK.out _ _ (⟨hk.keepCell e2 hHeld27.1, hk.keepCell e2 hHeld27.2.1, hk.keepCell e2 hHeld27.2.2.1, hk.keepCell g2 hHeld27.2.2.2.1, hk.keepRange k2 hHeld27.2.2.2.2.1, hHeld27.2.2.2.2.2.keep hk j2⟩) (fun hHeld hU => ?_); clear hK K; (try simp only [Act.put, List.setIfInBounds_toArray, List.set_cons_zero, List.set_cons_succ])
        refine T_take (i := 28) hU 78 ?_ rfl rfl (by decide) (by kernel_rfl) (by kernel_rfl) (fun _ _ _ h => h) (Or.inl ⟨by rfl, ?_⟩) hHeld ?_; rotate_left; (intro w hSw; (try dsimp only at hSw); go_simp); (try with_reducible rfl); clear hU; intro hU; (try simp only [Act.put, List.setIfInBounds_toArray, List.set_cons_zero, List.set_cons_succ])
        have hHeld29 := hHeld
        refine T_step (i := 29) hU rfl (by decide) (by kernel_rfl) (fun K hK => ?_); clear hU hHeld
        refine step_entryStore1 rfl _ _ _ _ rfl rfl V.after q27 1 (.map none) rfl rfl FA (.map (some n)) rfl (fun x EA hk hs => ?_)
        replace FA := EA
        replace FN := FN.keep hk f1
        replace FF := FF.keep hk (fun e => f3 e.symm)
        replace FI := FI.keep hk (by omega)
        replace KK := KK.trans (hk.mono (fun _ _ h => .inr (.inl h))) (fun _ _ h => h)
        refine hK.out _ _ (⟨hk.keepCell e2 hHeld29.1, hk.keepCell e2 hHeld29.2.1, hk.keepCell e2 hHeld29.2.2.1, hk.keepCell g2 hHeld29.2.2.2.1, hk.keepRange k2 hHeld29.2.2.2.2.1, hHeld29.2.2.2.2.2.keep hk j2⟩) (fun hHeld hU => ?_); clear hK K; (try simp only [Act.put, List.setIfInBounds_toArray, List.set_cons_zero, List.set_cons_succ])
        have hHeld30 := hHeld
        refine T_step (i := 30) hU rfl (by decide) (by kernel_rfl) (fun K hK => ?_); clear hU hHeld
        refine step_mapEntry1 rfl _ _ _ rfl 79 rfl 3 4 .i64 Tryz.underlying88 Tryz.underlying3 (.bool false) zeroBool V.fresh rfl FF 1 rfl (fun x q30 EF hk hs => ?_)
        replace FF := EF
        replace FN := FN.keep hk f2
        replace FA := FA.keep hk f3
        replace FI := FI.keep hk (by omega)
        replace KK := KK.trans (hk.mono (fun _ _ h => .inr (.inr h))) (fun _ _ h => h)
        refine hK.out _ _ (⟨hk.keepCell e3 hHeld30.1, hk.keepCell e3 hHeld30.2.1, hk.keepCell e3 hHeld30.2.2.1, hk.keepCell g3 hHeld30.2.2.2.1, hk.keepRange k3 hHeld30.2.2.2.2.1, hHeld30.2.2.2.2.2.keep hk j3⟩) (fun hHeld hU => ?_); clear hK K; (try simp only [Act.put, List.setIfInBounds_toArray, List.set_cons_zero, List.set_cons_succ])
        refine T_take (i := 31) hU 80 ?_ rfl rfl (by decide) (by kernel_rfl) (by kernel_rfl) (fun _ _ _ h => h) (Or.inl ⟨by rfl, ?_⟩) hHeld ?_; rotate_left; (intro w hSw; (try dsimp only at hSw); go_simp); (try with_reducible rfl); clear hU; intro hU; (try simp only [Act.put, List.setIfInBounds_toArray, List.set_cons_zero, List.set_cons_succ])
        refine T_last (N := 32) rfl (by kernel_rfl) (by kernel_rfl) (fun K hK => ?_); clear hU hHeld
        refine step_entryStore1 rfl _ _ _ _ rfl rfl V.fresh q30 1 (.bool false) rfl rfl FF (.bool false) rfl (fun x EF hk hs => ?_)
        replace FF := EF
        replace FN := FN.keep hk f2
        replace FA := FA.keep hk f3
        replace FI := FI.keep hk (by omega)
        replace KK := KK.trans (hk.mono (fun _ _ h => .inr (.inr h))) (fun _ _ h => h)
        refine hK.out _ _ (NoPanic.normal ?_); clear hK K
        go_wp2_with fail
        go_meet
        exact ⟨n, rfl, FN, FA, FF, FI, by omega, hn0, KK⟩
      · have hHeld26 := hHeld
        clear hU hHeld
        refine step_entryStore1 rfl _ _ _ _ rfl rfl V.nodes q24 1 noneV rfl rfl FN rootV rfl (fun x EN hk hs => ?_)
        replace FN := EN
        replace FA := FA.keep hk (fun e => f1 e.symm)
        replace FF := FF.keep hk (fun e => f2 e.symm)
        (try replace FI := FI.keep hk (by omega))
        replace KK := KK.trans (hk.mono (fun _ _ h => .inl h)) (fun _ _ h => h)
        refine hK.out _ _ (⟨hk.keepCell e1 hHeld26.1, hk.keepCell e1 hHeld26.2.1, hk.keepCell e1 hHeld26.2.2.1, hk.keepCell g1 hHeld26.2.2.2.1, hk.keepRange k1 hHeld26.2.2.2.2.1, hHeld26.2.2.2.2.2.keep hk j1⟩) (fun hHeld hU => ?_); clear hK K; (try simp only [Act.put, List.setIfInBounds_toArray, List.set_cons_zero, List.set_cons_succ])
        refine T_ways2 (i := 16) (j := 27) (by kernel_rfl) (T_way (i := 16) hU rfl (by decide) (by kernel_rfl) (fun K hK => ?_)) (T_way (i := 27) hU rfl (by decide) (by kernel_rfl) (fun K hK => ?_))
        · have hHeld16 := hHeld
          clear hU hHeld
          refine step_makeMapN rfl _ rfl 67 rfl (fun x n hge hlt FI hk => ?_)
          have hn0 : w7.heap.size ≤ n := Nat.le_trans KK.size hge
          replace FN := FN.keep hk id
          replace FA := FA.keep hk id
          replace FF := FF.keep hk id
          replace KK := KK.trans (hk.mono (fun _ _ h => h.elim)) (fun _ _ h => h)
          refine hK.out _ _ (⟨hk.keepCell id hHeld16.1, hk.keepCell id hHeld16.2.1, hk.keepCell id hHeld16.2.2.1, hk.keepCell id hHeld16.2.2.2.1, hk.keepRange id hHeld16.2.2.2.2.1, hHeld16.2.2.2.2.2.keep hk id⟩) (fun hHeld hU => ?_); clear hK K; (try simp only [Act.put, List.setIfInBounds_toArray, List.set_cons_zero, List.set_cons_succ])
          have hHeld27 := hHeld
          refine T_step (i := 27) hU rfl (by decide) (by kernel_rfl) (fun K hK => ?_); clear hU hHeld
          refine step_mapEntry1 rfl _ _ _ rfl 77 rfl 3 84 .i64 Tryz.underlying189 Tryz.underlying3 (.map none) zeroMap84 V.after rfl FA 1 rfl (fun x q27 EA hk hs => ?_)
          replace FA := EA
          replace FN := FN.keep hk f1
          replace FF := FF.keep hk (fun e => f3 e.symm)
          (try replace FI := FI.keep hk (by omega))
          replace KK := KK.trans (hk.mono (fun _ _ h => .inr (.inl h))) (fun _ _ h => h)
          refine hK.out _ _ (⟨hk.keepCell e2 hHeld27.1, hk.keepCell e2 hHeld27.2.1, hk.keepCell e2 hHeld27.2.2.1, hk.keepCell g2 hHeld27.2.2.2.1, hk.keepRange k2 hHeld27.2.2.2.2.1, hHeld27.2.2.2.2.2.keep hk j2⟩) (fun hHeld hU => ?_); clear hK K; (try simp only [Act.put, List.setIfInBounds_toArray, List.set_cons_zero, List.set_cons_succ])
          refine T_take (i := 28) hU 78 ?_ rfl rfl (by decide) (by kernel_rfl) (by kernel_rfl) (fun _ _ _ h => h) (Or.inl ⟨by rfl, ?_⟩) hHeld ?_; rotate_left; (intro w hSw; (try dsimp only at hSw); go_simp); (try with_reducible rfl); clear hU; intro hU; (try simp only [Act.put, List.setIfInBounds_toArray, List.set_cons_zero, List.set_cons_succ])
          have hHeld29 := hHeld
          refine T_step (i := 29) hU rfl (by decide) (by kernel_rfl) (fun K hK => ?_); clear hU hHeld
          refine step_entryStore1 rfl _ _ _ _ rfl rfl V.after q27 1 (.map none) rfl rfl FA (.map (some n)) rfl (fun x EA hk hs => ?_)
          replace FA := EA
          replace FN := FN.keep hk f1
          replace FF := FF.keep hk (fun e => f3 e.symm)
          replace FI := FI.keep hk (by omega)
          replace KK := KK.trans (hk.mono (fun _ _ h => .inr (.inl h))) (fun _ _ h => h)
          refine hK.out _ _ (⟨hk.keepCell e2 hHeld29.1, hk.keepCell e2 hHeld29.2.1, hk.keepCell e2 hHeld29.2.2.1, hk.keepCell g2 hHeld29.2.2.2.1, hk.keepRange k2 hHeld29.2.2.2.2.1, hHeld29.2.2.2.2.2.keep hk j2⟩) (fun hHeld hU => ?_); clear hK K; (try simp only [Act.put, List.setIfInBounds_toArray, List.set_cons_zero, List.set_cons_succ])
          have hHeld30 := hHeld
          refine T_step (i := 30) hU rfl (by decide) (by kernel_rfl) (fun K hK => ?_); clear hU hHeld
          refine step_mapEntry1 rfl _ _ _ rfl 79 rfl 3 4 .i64 Tryz.underlying88 Tryz.underlying3 (.bool false) zeroBool V.fresh rfl FF 1 rfl (fun x q30 EF hk hs => ?_)
          replace FF := EF
          replace FN := FN.keep hk f2
          replace FA := FA.keep hk f3
          replace FI := FI.keep hk (by omega)
          replace KK := KK.trans (hk.mono (fun _ _ h => .inr (.inr h))) (fun _ _ h => h)
          refine hK.out _ _ (⟨hk.keepCell e3 hHeld30.1, hk.keepCell e3 hHeld30.2.1, hk.keepCell e3 hHeld30.2.2.1, hk.keepCell g3 hHeld30.2.2.2.1, hk.keepRange k3 hHeld30.2.2.2.2.1, hHeld30.2.2.2.2.2.keep hk j3⟩) (fun hHeld hU => ?_); clear hK K; (try simp only [Act.put, List.setIfInBounds_toArray, List.set_cons_zero, List.set_cons_succ])
          refine T_take (i := 31) hU 80 ?_ rfl rfl (by decide) (by kernel_rfl) (by kernel_rfl) (fun _ _ _ h => h) (Or.inl ⟨by rfl, ?_⟩) hHeld ?_; rotate_left; (intro w hSw; (try dsimp only at hSw); go_simp); (try with_reducible rfl); clear hU; intro hU; (try simp only [Act.put, List.setIfInBounds_toArray, List.set_cons_zero, List.set_cons_succ])
          refine T_last (N := 32) rfl (by kernel_rfl) (by kernel_rfl) (fun K hK => ?_); clear hU hHeld
          refine step_entryStore1 rfl _ _ _ _ rfl rfl V.fresh q30 1 (.bool false) rfl rfl FF (.bool false) rfl (fun x EF hk hs => ?_)
          replace FF := EF
          replace FN := FN.keep hk f2
          replace FA := FA.keep hk f3
          replace FI := FI.keep hk (by omega)
          replace KK := KK.trans (hk.mono (fun _ _ h => .inr (.inr h))) (fun _ _ h => h)
          refine hK.out _ _ (NoPanic.normal ?_); clear hK K
          go_wp2_with fail
          go_meet
          exact ⟨n, rfl, FN, FA, FF, FI, by omega, hn0, KK⟩
        · have hHeld27 := hHeld
          clear hU hHeld
          refine step_mapEntry1 rfl _ _ _ rfl 77 rfl 3 84 .i64 Tryz.underlying189 Tryz.underlying3 (.map none) zeroMap84 V.after rfl FA 1 rfl (fun x q27 EA hk hs => ?_)
          replace FA := EA
          replace FN := FN.keep hk f1
          replace FF := FF.keep hk (fun e => f3 e.symm)
          (try replace FI := FI.keep hk (by omega))
          replace KK := KK.trans (hk.mono (fun _ _ h => .inr (.inl h))) (fun _ _ h => h)
          refine hK.out _ _ (⟨hk.keepCell e2 hHeld27.1, hk.keepCell e2 hHeld27.2.1, hk.keepCell e2 hHeld27.2.2.1, hk.keepCell g2 hHeld27.2.2.2.1, hk.keepRange k2 hHeld27.2.2.2.2.1, hHeld27.2.2.2.2.2.keep hk j2⟩) (fun hHeld hU => ?_); clear hK K; (try simp only [Act.put, List.setIfInBounds_toArray, List.set_cons_zero, List.set_cons_succ])
          refine T_take (i := 28) hU 78 ?_ rfl rfl (by decide) (by kernel_rfl) (by kernel_rfl) (fun _ _ _ h => h) (Or.inl ⟨by rfl, ?_⟩) hHeld ?_; rotate_left; (intro w hSw; (try dsimp only at hSw); go_simp); (try with_reducible rfl); clear hU; intro hU; (try simp only [Act.put, List.setIfInBounds_toArray, List.set_cons_zero, List.set_cons_succ])
          have hHeld16 := hHeld
          refine T_step (i := 16) hU rfl (by decide) (by kernel_rfl) (fun K hK => ?_); clear hU hHeld
          refine step_makeMapN rfl _ rfl 67 rfl (fun x n hge hlt FI hk => ?_)
          have hn0 : w7.heap.size ≤ n := Nat.le_trans KK.size hge
          replace FN := FN.keep hk id
          replace FA := FA.keep hk id
          replace FF := FF.keep hk id
          replace KK := KK.trans (hk.mono (fun _ _ h => h.elim)) (fun _ _ h => h)
          refine hK.out _ _ (⟨hk.keepCell id hHeld16.1, hk.keepCell id hHeld16.2.1, hk.keepCell id hHeld16.2.2.1, hk.keepCell id hHeld16.2.2.2.1, hk.keepRange id hHeld16.2.2.2.2.1, hHeld16.2.2.2.2.2.keep hk id⟩) (fun hHeld hU => ?_); clear hK K; (try simp only [Act.put, List.setIfInBounds_toArray, List.set_cons_zero, List.set_cons_succ])
          have hHeld29 := hHeld
          refine T_step (i := 29) hU rfl (by decide) (by kernel_rfl) (fun K hK => ?_); clear hU hHeld
          refine step_entryStore1 rfl _ _ _ _ rfl rfl V.after q27 1 (.map none) rfl rfl FA (.map (some n)) rfl (fun x EA hk hs => ?_)
          replace FA := EA
          replace FN := FN.keep hk f1
          replace FF := FF.keep hk (fun e => f3 e.symm)
          replace FI := FI.keep hk (by omega)
          replace KK := KK.trans (hk.mono (fun _ _ h => .inr (.inl h))) (fun _ _ h => h)
          refine hK.out _ _ (⟨hk.keepCell e2 hHeld29.1, hk.keepCell e2 hHeld29.2.1, hk.keepCell e2 hHeld29.2.2.1, hk.keepCell g2 hHeld29.2.2.2.1, hk.keepRange k2 hHeld29.2.2.2.2.1, hHeld29.2.2.2.2.2.keep hk j2⟩) (fun hHeld hU => ?_); clear hK K; (try simp only [Act.put, List.setIfInBounds_toArray, List.set_cons_zero, List.set_cons_succ])
          have hHeld30 := hHeld
          refine T_step (i := 30) hU rfl (by decide) (by kernel_rfl) (fun K hK => ?_); clear hU hHeld
          refine step_mapEntry1 rfl _ _ _ rfl 79 rfl 3 4 .i64 Tryz.underlying88 Tryz.underlying3 (.bool false) zeroBool V.fresh rfl FF 1 rfl (fun x q30 EF hk hs => ?_)
          replace FF := EF
          replace FN := FN.keep hk f2
          replace FA := FA.keep hk f3
          replace FI := FI.keep hk (by omega)
          replace KK := KK.trans (hk.mono (fun _ _ h => .inr (.inr h))) (fun _ _ h => h)
          refine hK.out _ _ (⟨hk.keepCell e3 hHeld30.1, hk.keepCell e3 hHeld30.2.1, hk.keepCell e3 hHeld30.2.2.1, hk.keepCell g3 hHeld30.2.2.2.1, hk.keepRange k3 hHeld30.2.2.2.2.1, hHeld30.2.2.2.2.2.keep hk j3⟩) (fun hHeld hU => ?_); clear hK K; (try simp only [Act.put, List.setIfInBounds_toArray, List.set_cons_zero, List.set_cons_succ])
          refine T_take (i := 31) hU 80 ?_ rfl rfl (by decide) (by kernel_rfl) (by kernel_rfl) (fun _ _ _ h => h) (Or.inl ⟨by rfl, ?_⟩) hHeld ?_; rotate_left; (intro w hSw; (try dsimp only at hSw); go_simp); (try with_reducible rfl); clear hU; intro hU; (try simp only [Act.put, List.setIfInBounds_toArray, List.set_cons_zero, List.set_cons_succ])
          refine T_last (N := 32) rfl (by kernel_rfl) (by kernel_rfl) (fun K hK => ?_); clear hU hHeld
          refine step_entryStore1 rfl _ _ _ _ rfl rfl V.fresh q30 1 (.bool false) rfl rfl FF (.bool false) rfl (fun x EF hk hs => ?_)
          replace FF := EF
          replace FN := FN.keep hk f2
          replace FA := FA.keep hk f3
          replace FI := FI.keep hk (by omega)
          replace KK := KK.trans (hk.mono (fun _ _ h => .inr (.inr h))) (fun _ _ h => h)
          refine hK.out _ _ (NoPanic.normal ?_); clear hK K
          go_wp2_with fail
          go_meet
          exact ⟨n, rfl, FN, FA, FF, FI, by omega, hn0, KK⟩
  case rest =>
    obtain ⟨n, rfl, mN, mA, mF, mI, hnB, hn7, KC⟩ := hcut
    have hgeP := HP7.out.ge
    have hneP := HP7.out.ne
    have hnePP := HP7.out.neP
    have hsz := HS.out.lt
    have HSc := Lib.hid (HS7.out.keep KC (fun k hg e => by have := hsz k hg; omega))
    have HIc := Lib.hid (HI7.out.keep KC (by have h1 := HP2.out.nodes.lt; have h2 := HP2.out.after.lt; have h3 := HP2.out.fresh.lt; omega) (by have := hsz _ HS.out.gb.2.2.2.2.2.1; omega))
    have HPc : Hid (PlanAt wc p V n w.heap.size) := Lib.hid {
      cells := KC.at HP7.out.cells (by omega)
      data := HP7.out.data.keep KC (by omega)
      inds := HP7.out.inds.keep KC (by omega)
      nodes := mN
      after := mA
      fresh := mF
      subs := mI
      ge := ⟨hgeP.1, hgeP.2.1, hgeP.2.2.1, hgeP.2.2.2.1, hgeP.2.2.2.2.1, hgeP.2.2.2.2.2, hnB⟩ }
    have HBc : Hid (Below w.heap.size w wc) := Lib.hid (by
      have b1 := HB2.out.trans (HK24.out.belowOf HB2.out.size (by intro b hb e; have := HB2.out.size; omega))
      exact (b1.trans (B47.mono b1.size)).trans (KC.belowOf hB7 (by intro b hb e; omega)))
    clear mN mA mF mI KC hgeP hneP hnePP hsz HS7 HP7 HI7 HP4 HS4 HI4 HP2 HS2 HB2 HK24 B45 B47 hk6 hk7 hs6 hs7 hA7 HZ6 hb5 c2 c4 c5 c18 rg mg l1 l2 l3 e1 e2 e3 f1 f2 f3 g1 g2 g3 j1 j2 j3 k1 k2 k3 hw5 hs27 hent Hs3 Hk3 HI3 hnB hn7 hB7
    go_wp2_with (first
      | (go_at_call 84; refine (has_ok s S segs R true G _ HSc.out).mono ?_; rintro e w9 ⟨rfl, hb9⟩))
    have HS9 := Lib.hid (HSc.out.below hb9)
    have HP9 := Lib.hid (HPc.out.below hb9)
    have HI9 := Lib.hid (HIc.out.keep (Keep.of_below hb9 (fun _ => False)) id id)
    have HB9 := Lib.hid (HBc.out.trans (hb9.mono HBc.out.size))
    clear HSc HPc HIc HBc hb9
    refine wp_loop_rounds 1 ?_; rw [rounds_succ]
    go_wp2
    rw [rounds_succ]
    have m15 : w9.cell? ⟨s, 15, none⟩ = some (.map (some S.mtouch)) := HS9.out.cells.cell 15
    obtain ⟨clk, ht⟩ := HS9.out.touch.empty
    have Ht := Lib.hid ht
    clear ht
    go_wp2_with (first
      | (refine wpList_nextDone rfl _ rfl w2.heap.size S.mturn [(1, .bool true)] rfl HI9.out ?_)
      | (refine wpList_rangeE rfl _ 86 rfl 170 4 Tryz.underlying86 S.mtouch clk rfl Ht.out ?_; intro w10 hit10 hk10 hs10; have HI10 := Lib.hid hit10; clear hit10))
    have c3 : w10.cell? ⟨p, 3, none⟩ = some (.slice none 0 0) := hk10.keepCell id (HP9.out.cells.cell 3)
    refine wp_loop_rounds 1 ?_; rw [rounds_succ]
    go_wp2_with (first
      | (refine wpList_nextDone rfl _ rfl w9.heap.size S.mtouch [] rfl HI10.out ?_)
      | (go_at_call 103; refine (Tryz.slices_Sort_int_none none 0 _).mono ?_; rintro e w11 ⟨rfl, rfl⟩))
    go_ret
    exact ⟨p, V, n, rfl, HP9.out.keep hk10 (fun _ _ _ => id), HB9.out.trans (hk10.below.mono HB9.out.size)⟩

theorem yields_mlen {P : Program} (ops : Array Oper) (S : World → Prop) (op : Oper) (a : Act) (hgd : op.guard = none) (m : Operand) (t : TypeId) (ho : op.op = .call { callee := .builtin .len, args := #[m], argTypes := #[t] }) (kt e : TypeId) (ht : P.underlying t = some (.map kt e))
    (b : Nat) (l : List (Int × Value)) (hm : a.eval m = .map (some b)) (r : Int) (hr : (l.length : Int) = r) (hS : ∀ w, S w → IMap w b l) : YieldsIf P ops S op (.int .i64 r) a :=
  Or.inl ⟨by simp [Region.wanted, hgd], fun w hw => by
    obtain ⟨es, clk, hb, hE⟩ := hS w hw
    simp [execOp, ho, resolve, invoke, builtin, hm, run_mlen ht hb op.type, Result.andThen]
    rw [hE.len]; exact hr⟩

set_option maxRecDepth 100000 in
set_option maxHeartbeats 1000000 in
theorem psize_ok (p : Nat) (V : PlanV) (sub B : Nat) (w : World) (h : PlanAt w p V sub B) : Calls Tryz.prog 66 #[.pointer (some ⟨p, 0, none⟩)] w (Ans (.int .i64 1) w) := by
  have c0 : w.cell? ⟨p, 0, none⟩ = some (.map (some V.data)) := h.cells.cell 0
  have c1 : w.cell? ⟨p, 1, none⟩ = some (.map (some V.inds)) := h.cells.cell 1
  have c2 : w.cell? ⟨p, 2, none⟩ = some (.map (some V.nodes)) := h.cells.cell 2
  have c3 : w.cell? ⟨p, 3, none⟩ = some (.slice none 0 0) := h.cells.cell 3
  have i0 : IMap w V.data [] := h.data
  have i1 : IMap w V.inds [] := h.inds
  have i2 : IMap w V.nodes [(1, rootV)] := h.nodes
  clear h
  go_enter Tryz.func66, Tryz.ntmps66
  go_wp2
  (try simp only [Act.put, List.setIfInBounds_toArray, List.set_cons_zero, List.set_cons_succ])
  refine wp_region_noPanic ?_
  refine T_region 23 (fun w' => (w'.cell? ⟨p, 0, none⟩ = some (.map (some V.data)) ∧ w'.cell? ⟨p, 1, none⟩ = some (.map (some V.inds)) ∧ w'.cell? ⟨p, 2, none⟩ = some (.map (some V.nodes)) ∧ w'.cell? ⟨p, 3, none⟩ = some (.slice none 0 0)) ∧ IMap w' V.data [] ∧ IMap w' V.inds [] ∧ IMap w' V.nodes [(1, rootV)]) (by kernel_rfl) (by kernel_rfl) (by kernel_rfl) (by decide) (by kernel_rfl) ⟨⟨c0, c1, c2, c3⟩, i0, i1, i2⟩ (fun hHeld hU => ?_)
  refine T_take (i := 0) hU 3 ?_ rfl rfl (by decide) (by kernel_rfl) (by kernel_rfl) (fun _ _ _ h => h) (Or.inl ⟨by rfl, ?_⟩) hHeld ?_; rotate_left; (intro w hSw; (try dsimp only at hSw); go_simp); (try with_reducible rfl); clear hU; intro hU; (try simp only [Act.put, List.setIfInBounds_toArray, List.set_cons_zero, List.set_cons_succ])
  refine T_take (i := 1) hU 4 ?_ rfl rfl (by decide) (by kernel_rfl) (by kernel_rfl) (fun _ _ _ h => h) (Or.inl ⟨by rfl, ?_⟩) hHeld ?_; rotate_left; (intro w hSw; (try dsimp only at hSw); go_simp); (try with_reducible rfl); clear hU; intro hU; (try simp only [Act.put, List.setIfInBounds_toArray, List.set_cons_zero, List.set_cons_succ])
  refine T_take (i := 2) hU 5 ?_ rfl rfl (by decide) (by kernel_rfl) (by kernel_rfl) (fun _ _ _ h => h) (Or.inl ⟨by rfl, ?_⟩) hHeld ?_; rotate_left; (intro w hSw; (try dsimp only at hSw); go_simp); (try with_reducible rfl); clear hU; intro hU; (try simp only [Act.put, List.setIfInBounds_toArray, List.set_cons_zero, List.set_cons_succ])
  refine T_take (i := 3) hU 6 ?_ rfl rfl (by decide) (by kernel_rfl) (by kernel_rfl) (fun _ _ _ h => h) (Or.inl ⟨by rfl, ?_⟩) hHeld ?_; rotate_left; (intro w hSw; (try dsimp only at hSw); go_simp); (try with_reducible rfl); clear hU; intro hU; (try simp only [Act.put, List.setIfInBounds_toArray, List.set_cons_zero, List.set_cons_succ])
  refine T_take (i := 4) hU 7 (.int .i64 0) rfl rfl (by decide) (by kernel_rfl) (by kernel_rfl) (fun _ _ _ h => h) (yields_mlen _ _ _ _ rfl _ 85 rfl 170 9 Tryz.underlying85 V.data [] rfl 0 rfl (fun _ h => h.2.1)) hHeld ?_; clear hU; intro hU; (try simp only [Act.put, List.setIfInBounds_toArray, List.set_cons_zero, List.set_cons_succ])
  refine T_take (i := 5) hU 8 ?_ rfl rfl (by decide) (by kernel_rfl) (by kernel_rfl) (fun _ _ _ h => h) (Or.inl ⟨by rfl, ?_⟩) hHeld ?_; rotate_left; (intro w hSw; (try dsimp only at hSw); go_simp); (try with_reducible rfl); clear hU; intro hU; (try simp only [Act.put, List.setIfInBounds_toArray, List.set_cons_zero, List.set_cons_succ])
  refine T_take (i := 6) hU 9 ?_ rfl rfl (by decide) (by kernel_rfl) (by kernel_rfl) (fun _ _ _ h => h) (Or.inl ⟨by rfl, ?_⟩) hHeld ?_; rotate_left; (intro w hSw; (try dsimp only at hSw); go_simp); (try with_reducible rfl); clear hU; intro hU; (try simp only [Act.put, List.setIfInBounds_toArray, List.set_cons_zero, List.set_cons_succ])
  refine T_take (i := 7) hU 10 ?_ rfl rfl (by decide) (by kernel_rfl) (by kernel_rfl) (fun _ _ _ h => h) (Or.inl ⟨by rfl, ?_⟩) hHeld ?_; rotate_left; (intro w hSw; (try dsimp only at hSw); go_simp); (try with_reducible rfl); clear hU; intro hU; (try simp only [Act.put, List.setIfInBounds_toArray, List.set_cons_zero, List.set_cons_succ])
  refine T_take (i := 8) hU 11 ?_ rfl rfl (by decide) (by kernel_rfl) (by kernel_rfl) (fun _ _ _ h => h) (Or.inl ⟨by rfl, ?_⟩) hHeld ?_; rotate_left; (intro w hSw; (try dsimp only at hSw); go_simp); (try with_reducible rfl); clear hU; intro hU; (try simp only [Act.put, List.setIfInBounds_toArray, List.set_cons_zero, List.set_cons_succ])
  refine T_take (i := 9) hU 12 (.int .i64 0) rfl rfl (by decide) (by kernel_rfl) (by kernel_rfl) (fun _ _ _ h => h) (yields_mlen _ _ _ _ rfl _ 86 rfl 170 4 Tryz.underlying86 V.inds [] rfl 0 rfl (fun _ h => h.2.2.1)) hHeld ?_; clear hU; intro hU; (try simp only [Act.put, List.setIfInBounds_toArray, List.set_cons_zero, List.set_cons_succ])
  refine T_take (i := 10) hU 13 ?_ rfl rfl (by decide) (by kernel_rfl) (by kernel_rfl) (fun _ _ _ h => h) (Or.inl ⟨by rfl, ?_⟩) hHeld ?_; rotate_left; (intro w hSw; (try dsimp only at hSw); go_simp); (try with_reducible rfl); clear hU; intro hU; (try simp only [Act.put, List.setIfInBounds_toArray, List.set_cons_zero, List.set_cons_succ])
  refine T_take (i := 11) hU 14 ?_ rfl rfl (by decide) (by kernel_rfl) (by kernel_rfl) (fun _ _ _ h => h) (Or.inl ⟨by rfl, ?_⟩) hHeld ?_; rotate_left; (intro w hSw; (try dsimp only at hSw); go_simp); (try with_reducible rfl); clear hU; intro hU; (try simp only [Act.put, List.setIfInBounds_toArray, List.set_cons_zero, List.set_cons_succ])
  refine T_take (i := 12) hU 15 ?_ rfl rfl (by decide) (by kernel_rfl) (by kernel_rfl) (fun _ _ _ h => h) (Or.inl ⟨by rfl, ?_⟩) hHeld ?_; rotate_left; (intro w hSw; (try dsimp only at hSw); go_simp); (try with_reducible rfl); clear hU; intro hU; (try simp only [Act.put, List.setIfInBounds_toArray, List.set_cons_zero, List.set_cons_succ])
  refine T_take (i := 13) hU 16 ?_ rfl rfl (by decide) (by kernel_rfl) (by kernel_rfl) (fun _ _ _ h => h) (Or.inl ⟨by rfl, ?_⟩) hHeld ?_; rotate_left; (intro w hSw; (try dsimp only at hSw); go_simp); (try with_reducible rfl); clear hU; intro hU; (try simp only [Act.put, List.setIfInBounds_toArray, List.set_cons_zero, List.set_cons_succ])
  refine T_take (i := 14) hU 17 ?_ rfl rfl (by decide) (by kernel_rfl) (by kernel_rfl) (fun _ _ _ h => h) (Or.inl ⟨by rfl, ?_⟩) hHeld ?_; rotate_left; (intro w hSw; (try dsimp only at hSw); go_simp); (try with_reducible rfl); clear hU; intro hU; (try simp only [Act.put, List.setIfInBounds_toArray, List.set_cons_zero, List.set_cons_succ])
  refine T_take (i := 15) hU 18 (.int .i64 1) rfl rfl (by decide) (by kernel_rfl) (by kernel_rfl) (fun _ _ _ h => h) (yields_mlen _ _ _ _ rfl _ 87 rfl 3 96 Tryz.underlying87 V.nodes [(1, rootV)] rfl 1 rfl (fun _ h => h.2.2.2)) hHeld ?_; clear hU; intro hU; (try simp only [Act.put, List.setIfInBounds_toArray, List.set_cons_zero, List.set_cons_succ])
  refine T_take (i := 16) hU 19 ?_ rfl rfl (by decide) (by kernel_rfl) (by kernel_rfl) (fun _ _ _ h => h) (Or.inl ⟨by rfl, ?_⟩) hHeld ?_; rotate_left; (intro w hSw; (try dsimp only at hSw); go_simp); (try with_reducible rfl); clear hU; intro hU; (try simp only [Act.put, List.setIfInBounds_toArray, List.set_cons_zero, List.set_cons_succ])
  refine T_take (i := 17) hU 20 ?_ rfl rfl (by decide) (by kernel_rfl) (by kernel_rfl) (fun _ _ _ h => h) (Or.inl ⟨by rfl, ?_⟩) hHeld ?_; rotate_left; (intro w hSw; (try dsimp only at hSw); go_simp); (try with_reducible rfl); clear hU; intro hU; (try simp only [Act.put, List.setIfInBounds_toArray, List.set_cons_zero, List.set_cons_succ])
  refine T_take (i := 18) hU 21 ?_ rfl rfl (by decide) (by kernel_rfl) (by kernel_rfl) (fun _ _ _ h => h) (Or.inl ⟨by rfl, ?_⟩) hHeld ?_; rotate_left; (intro w hSw; (try dsimp only at hSw); go_simp); (try with_reducible rfl); clear hU; intro hU; (try simp only [Act.put, List.setIfInBounds_toArray, List.set_cons_zero, List.set_cons_succ])
  refine T_take (i := 19) hU 22 ?_ rfl rfl (by decide) (by kernel_rfl) (by kernel_rfl) (fun _ _ _ h => h) (Or.inl ⟨by rfl, ?_⟩) hHeld ?_; rotate_left; (intro w hSw; (try dsimp only at hSw); go_simp); (try with_reducible rfl); clear hU; intro hU; (try simp only [Act.put, List.setIfInBounds_toArray, List.set_cons_zero, List.set_cons_succ])
  refine T_take (i := 20) hU 23 ?_ rfl rfl (by decide) (by kernel_rfl) (by kernel_rfl) (fun _ _ _ h => h) (Or.inl ⟨by rfl, ?_⟩) hHeld ?_; rotate_left; (intro w hSw; (try dsimp only at hSw); go_simp); (try with_reducible rfl); clear hU; intro hU; (try simp only [Act.put, List.setIfInBounds_toArray, List.set_cons_zero, List.set_cons_succ])
  refine T_take (i := 21) hU 24 ?_ rfl rfl (by decide) (by kernel_rfl) (by kernel_rfl) (fun _ _ _ h => h) (Or.inl ⟨by rfl, ?_⟩) hHeld ?_; rotate_left; (intro w hSw; (try dsimp only at hSw); go_simp); (try with_reducible rfl); clear hU; intro hU; (try simp only [Act.put, List.setIfInBounds_toArray, List.set_cons_zero, List.set_cons_succ])
  refine T_take (i := 22) hU 25 ?_ rfl rfl (by decide) (by kernel_rfl) (by kernel_rfl) (fun _ _ _ h => h) (Or.inl ⟨by rfl, ?_⟩) hHeld ?_; rotate_left; (intro w hSw; (try dsimp only at hSw); go_simp); (try with_reducible rfl); clear hU; intro hU; (try simp only [Act.put, List.setIfInBounds_toArray, List.set_cons_zero, List.set_cons_succ])
  refine T_last (N := 23) rfl (by kernel_rfl) (by kernel_rfl) (fun K hK => ?_); clear hU hHeld
  go_simp
  refine hK.out _ _ (NoPanic.normal ?_); clear hK K
  go_wp2
  go_ret
  exact ⟨rfl, World.drew_below0 w⟩
end Go.Proofs.YtnndkfhpifgaiaaGreat
