/-
  file.Node, Nodes, Has.
  file.Nodes, Has, Live, room: of a store whose root stands, or was set since, without more.
-/
import Derived.Test.YtnndkfhpifgaiaaGreatM28
import Derived.Test.YtnndkfhpifgaiaaGreatM01
set_option linter.unusedVariables false
set_option linter.unusedSimpArgs false
namespace Go.Proofs.YtnndkfhpifgaiaaGreat
open Go.RowKit

theorem zero96 : (Tryz.prog.info? 96).bind (·.zero) = some (.agg noneCells) := by kernel_rfl
theorem one96 : rootCells.all (·.oneCell') = true := by simp [rootCells, Value.oneCell']
theorem one96n : noneCells.all (·.oneCell') = true := by simp [noneCells, Value.oneCell']
theorem size96n : (Tryz.prog.info? 96).map (·.size) = some noneCells.size := by kernel_rfl
theorem zeroPtr (w : World) : (zeroValue 139).run Tryz.prog w = .ok (.pointer none) w := by kernel_rfl

theorem StoreAt.keepNew {w w' : World} {s : Nat} {S : StoreV} {segs : List Int} {R : Option RootV} {now : Bool} {G : Nat → Prop} {b : Nat} (h : StoreAt w s S segs R now G) (hk : Keep (· = b) w w') (hb : ∀ k, G k → k < b) : StoreAt w' s S segs R now G :=
  h.keep hk (fun k hg e => by have := hb k hg; omega)

set_option maxRecDepth 100000 in
set_option maxHeartbeats 2000000 in
theorem node_no (s : Nat) (S : StoreV) (segs : List Int) (R : Option RootV) (now : Bool) (G : Nat → Prop) (n : Int) (w : World) (h : StoreAt w s S segs R now G) (hn : lookL (nodesL now) n = none) (hb : lookL (baseL R) n = none) :
    Calls Tryz.prog 50 #[.pointer (some ⟨s, 0, none⟩), .int .i64 n] w (Ans (.tuple #[noneV, .bool false]) w) := by
  have hu96 := Tryz.underlying96
  have r1 : (if true then Value.tuple #[(lookL (nodesL now) n).getD noneV, .bool (lookL (nodesL now) n).isSome] else (lookL (nodesL now) n).getD noneV) = .tuple #[noneV, .bool false] := by rw [hn]; rfl
  have r2 : (if false then Value.tuple #[(lookL (baseL R) n).getD (.pointer none), .bool (lookL (baseL R) n).isSome] else (lookL (baseL R) n).getD (.pointer none)) = .pointer none := by rw [hb]; rfl
  have R1 := Lib.hid r1
  have R2 := Lib.hid r2
  have HS := Lib.hid h
  have hlt := h.lt
  have tok1 : True := trivial
  clear h r1 r2 hn hb
  go_enter Tryz.func50, Tryz.ntmps50
  go_wp2_with (first
    | (have _t := tok1; refine wpList_allocAt rfl 96 rfl noneCells zero96 ?_; clear tok1 _t; intro w1 hz1 hk1 hs1; have HZ1 := Lib.hid hz1; have HS1 := Lib.hid (HS.out.keep hk1 (fun _ _ => id)); have m16 : w1.cell? ⟨s, 16, none⟩ = some (.map (some S.mnodes)) := HS1.out.cells.cell 16; clear hz1)
    | (refine wpList_look rfl _ _ 87 true rfl 3 96 .i64 Tryz.underlying87 Tryz.underlying3 noneV zeroNode S.mnodes (nodesL now) rfl HS1.out.nodes n rfl _ R1.out ?_)
    | (refine wpList_allocAt rfl 96 rfl noneCells zero96 ?_; clear m16; intro w2 hz2 hk2 hs2; have HS2 := Lib.hid (HS1.out.keep hk2 (fun _ _ => id)); have HZ2 := Lib.hid hz2; have HZ1b := Lib.hid (hk2.at HZ1.out id); clear hz2)
    | (refine wpList_storeRow rfl 96 _ _ rfl rfl w1.heap.size noneCells noneCells _ rfl rfl (show At w2 w1.heap.size noneCells 96 from HZ2.out) rfl size96n one96n ?_; intro w3 hA3 hk3 hs3; have HS3 := Lib.hid (HS2.out.keepNew hk3 (fun k hg => by have := hlt k hg; omega)); have HZ1c := Lib.hid (hk3.at HZ1b.out (by omega)); have m12 : w3.cell? ⟨s, 12, none⟩ = some (.map (some S.base)) := HS3.out.cells.cell 12; clear hA3)
    | (refine wpList_look rfl _ _ 83 false rfl 3 139 .i64 Tryz.underlying83 Tryz.underlying3 (.pointer none) zeroPtr S.base (baseL R) rfl HS3.out.base n rfl _ R2.out ?_; clear m12)
    | (refine wpList_buildTo rfl 96 _ rfl _ rfl noneCells built96 ?_)
    | (refine wpList_storeRow rfl 96 _ _ rfl rfl w.heap.size noneCells noneCells _ rfl rfl HZ1c.out rfl size96n one96n ?_; intro w4 hA4 hk4 hs4))
  refine bodyPost_ret (v := .tuple #[noneV, .bool false]) (results_cell2 Tryz.results50 _ _ w.heap.size _ noneCells _ rfl hA4 hu96 rfl size96n) rfl ⟨rfl, ?_⟩
  have B1 := hk1.below
  have B2 := B1.trans (hk2.below.mono (by omega))
  have B3 := B2.trans (hk3.belowOf (by omega) (by intro b hb e; omega))
  exact B3.trans (hk4.belowOf (by omega) (by intro b hb e; omega))

set_option maxRecDepth 100000 in
set_option maxHeartbeats 2000000 in
theorem node_now (s : Nat) (S : StoreV) (segs : List Int) (R : Option RootV) (G : Nat → Prop) (w : World) (h : StoreAt w s S segs R true G) :
    Calls Tryz.prog 50 #[.pointer (some ⟨s, 0, none⟩), .int .i64 1] w (Ans (.tuple #[rootV, .bool true]) w) := by
  have hu96 := Tryz.underlying96
  have HS := Lib.hid h
  have hlt := h.lt
  have tok1 : True := trivial
  clear h
  go_enter Tryz.func50, Tryz.ntmps50
  go_wp2_with (first
    | (have _t := tok1; refine wpList_allocAt rfl 96 rfl noneCells zero96 ?_; clear tok1 _t; intro w1 hz1 hk1 hs1; have HZ1 := Lib.hid hz1; have HS1 := Lib.hid (HS.out.keep hk1 (fun _ _ => id)); have m16 : w1.cell? ⟨s, 16, none⟩ = some (.map (some S.mnodes)) := HS1.out.cells.cell 16; clear hz1)
    | (refine wpList_look rfl _ _ 87 true rfl 3 96 .i64 Tryz.underlying87 Tryz.underlying3 noneV zeroNode S.mnodes (nodesL true) rfl HS1.out.nodes 1 rfl (.tuple #[rootV, .bool true]) rfl ?_)
    | (refine wpList_allocAt rfl 96 rfl noneCells zero96 ?_; clear m16; intro w2 hz2 hk2 hs2; have HZ2 := Lib.hid hz2; have HZ1b := Lib.hid (hk2.at HZ1.out id); clear hz2)
    | (refine wpList_storeRow rfl 96 _ _ rfl rfl w1.heap.size rootCells noneCells _ rfl rfl (show At w2 w1.heap.size noneCells 96 from HZ2.out) rfl size96 one96 ?_; intro w3 hA3 hk3 hs3; have HZ1c := Lib.hid (hk3.at HZ1b.out (by omega)); have HA3 := Lib.hid (show At w3 (w.heap.size + 1) rootCells 96 from hs1 ▸ hA3); clear hA3)
    | (refine wpList_load_row rfl 96 _ rfl (w.heap.size + 1) rfl 96 rootCells (0, 0) _ HA3.out hu96 rfl size96 ?_)
    | (refine wpList_storeRow rfl 96 _ _ rfl rfl w.heap.size rootCells noneCells _ rfl rfl HZ1c.out rfl size96 one96 ?_; intro w4 hA4 hk4 hs4))
  refine bodyPost_ret (v := .tuple #[rootV, .bool true]) (results_cell2 Tryz.results50 _ _ w.heap.size _ rootCells _ rfl hA4 hu96 rfl size96) rfl ⟨rfl, ?_⟩
  have B1 := hk1.below
  have B2 := B1.trans (hk2.below.mono (by omega))
  have B3 := B2.trans (hk3.belowOf (by omega) (by intro b hb e; omega))
  exact B3.trans (hk4.belowOf (by omega) (by intro b hb e; omega))

set_option maxRecDepth 100000 in
set_option maxHeartbeats 2000000 in
theorem node_base (s : Nat) (S : StoreV) (segs : List Int) (r : RootV) (G : Nat → Prop) (w : World) (h : StoreAt w s S segs (some r) false G) :
    Calls Tryz.prog 50 #[.pointer (some ⟨s, 0, none⟩), .int .i64 1] w (Ans (.tuple #[rootV, .bool true]) w) := by
  have hu96 := Tryz.underlying96
  have HS := Lib.hid h
  have hlt := h.lt
  have tok1 : True := trivial
  have hpl : ((r.cells.toList.drop 0).take rootCells.toList.length) = rootCells.toList := rfl
  have hi96l : (Tryz.prog.info? 96).map (·.size) = some rootCells.toList.length := size96
  clear h
  go_enter Tryz.func50, Tryz.ntmps50
  go_wp2_with (first
    | (have _t := tok1; refine wpList_allocAt rfl 96 rfl noneCells zero96 ?_; clear tok1 _t; intro w1 hz1 hk1 hs1; have HZ1 := Lib.hid hz1; have HS1 := Lib.hid (HS.out.keep hk1 (fun _ _ => id)); have m16 : w1.cell? ⟨s, 16, none⟩ = some (.map (some S.mnodes)) := HS1.out.cells.cell 16; clear hz1)
    | (refine wpList_look rfl _ _ 87 true rfl 3 96 .i64 Tryz.underlying87 Tryz.underlying3 noneV zeroNode S.mnodes (nodesL false) rfl HS1.out.nodes 1 rfl (.tuple #[noneV, .bool false]) rfl ?_)
    | (refine wpList_allocAt rfl 96 rfl noneCells zero96 ?_; clear m16; intro w2 hz2 hk2 hs2; have HS2 := Lib.hid (HS1.out.keep hk2 (fun _ _ => id)); have HZ2 := Lib.hid hz2; have HZ1b := Lib.hid (hk2.at HZ1.out id); clear hz2)
    | (refine wpList_storeRow rfl 96 _ _ rfl rfl w1.heap.size noneCells noneCells _ rfl rfl (show At w2 w1.heap.size noneCells 96 from HZ2.out) rfl size96n one96n ?_; intro w3 hA3 hk3 hs3; have HS3 := Lib.hid (HS2.out.keepNew hk3 (fun k hg => by have := hlt k hg; omega)); have HZ1c := Lib.hid (hk3.at HZ1b.out (by omega)); have m12 : w3.cell? ⟨s, 12, none⟩ = some (.map (some S.base)) := HS3.out.cells.cell 12; have m18 : w3.cell? ⟨s, 18, none⟩ = some (.map (some S.mgone)) := HS3.out.cells.cell 18; have hlk : (Instr.lookup 88 (.map (some S.mgone)) (.int .i64 1) false).run Tryz.prog w3 = .ok (.bool false) w3 := run_look Tryz.underlying88 Tryz.underlying3 (zeroBool w3) HS3.out.gone 1 false; clear hA3)
    | (refine wpList_look rfl _ _ 83 false rfl 3 139 .i64 Tryz.underlying83 Tryz.underlying3 (.pointer none) zeroPtr S.base (baseL (some r)) rfl HS3.out.base 1 rfl (.pointer (some ⟨r.st, 0, none⟩)) rfl ?_)
    | (refine wpList_loadIn rfl 96 _ rfl r.st 0 rfl 141 r.cells (HS3.out.root r rfl).1 rootCells.toList hpl _ rfl hu96 hi96l ?_)
    | (refine wpList_storeRow rfl 96 _ _ rfl rfl w.heap.size rootCells noneCells _ rfl rfl HZ1c.out rfl size96 one96 ?_; intro w4 hA4 hk4 hs4))
  refine bodyPost_ret (v := .tuple #[rootV, .bool true]) (results_cell2 Tryz.results50 _ _ w.heap.size _ rootCells _ rfl hA4 hu96 rfl size96) rfl ⟨rfl, ?_⟩
  have B1 := hk1.below
  have B2 := B1.trans (hk2.below.mono (by omega))
  have B3 := B2.trans (hk3.belowOf (by omega) (by intro b hb e; omega))
  exact B3.trans (hk4.belowOf (by omega) (by intro b hb e; omega))
end Go.Proofs.YtnndkfhpifgaiaaGreat
namespace Go.Proofs.YtnndkfhpifgaiaaGreat
open Go.RowKit

/-- There is a root. -/
def HasRoot (R : Option RootV) (now : Bool) : Prop := now = true ∨ ∃ r, R = some r

theorem lookL_base (R : Option RootV) {n : Int} (h : n ≠ 1) : lookL (baseL R) n = none := by
  cases R with
  | none => rfl
  | some r => simp [baseL, lookL]; omega
theorem lookL_nodes (now : Bool) {n : Int} (h : n ≠ 1) : lookL (nodesL now) n = none := by
  cases now with
  | false => rfl
  | true => simp [nodesL, lookL]; omega

/-- What Node answers. -/
def nodeA (n : Int) : Value := if n = 1 then .tuple #[rootV, .bool true] else .tuple #[noneV, .bool false]

theorem node_any (s : Nat) (S : StoreV) (segs : List Int) (R : Option RootV) (now : Bool) (G : Nat → Prop) (n : Int) (w : World) (h : StoreAt w s S segs R now G) (hr : HasRoot R now) :
    Calls Tryz.prog 50 #[.pointer (some ⟨s, 0, none⟩), .int .i64 n] w (Ans (nodeA n) w) := by
  by_cases hn : n = 1
  · subst hn
    cases now with
    | true => exact node_now s S segs R G w h
    | false =>
      rcases hr with hr | ⟨r, rfl⟩
      · cases hr
      · exact node_base s S segs r G w h
  · have := node_no s S segs R now G n w h (lookL_nodes now hn) (lookL_base R hn)
    simpa [nodeA, hn] using this

set_option maxRecDepth 100000 in
set_option maxHeartbeats 2000000 in
theorem nodes_ok (s : Nat) (S : StoreV) (segs : List Int) (R : Option RootV) (now : Bool) (G : Nat → Prop) (w : World) (h : StoreAt w s S segs R now G) (hr : HasRoot R now) :
    Calls Tryz.prog 49 #[.pointer (some ⟨s, 0, none⟩)] w fun e w' => ∃ b c, e = .returned (.slice (some ⟨b, 0, none⟩) 1 c) ∧ w.heap.size ≤ b ∧ w'.ownsRow w.heap.size 3 1 (.slice (some ⟨b, 0, none⟩) 1 c) 1 [.int .i64 1] ∧ Below w.heap.size w w' := by
  go_enter Tryz.func49, Tryz.ntmps49
  go_wp2
  go_loopg [3, 4] 255 (fun gk v i wr => ∃ k : Nat, k ≤ 255 ∧ gk = 255 - k ∧ i = .int .i64 ((k : Int) + 1) ∧ Below w.heap.size w wr ∧ ((k = 0 ∧ wr.ownsRow w.heap.size 3 1 v 0 []) ∨ (1 ≤ k ∧ wr.ownsRow w.heap.size 3 1 v 1 [.int .i64 1])))
  case atStart => exact ⟨0, by omega, rfl, rfl, Below.refl _ _, .inl ⟨rfl, World.ownsRow_nil _ _ _ _⟩⟩
  case round =>
    obtain ⟨k, hk, hgk, rfl, hb, hv⟩ := hrel
    have Hgk := Lib.hid hgk
    clear hgk
    have hzw := hb.size
    by_cases hlt : k < 255
    · have hle : (k : Int) + 1 ≤ 255 := by omega
      have hw : IntKind.i64.wrap ((k : Int) + 1 + 1) = (k : Int) + 1 + 1 := by rw [IntKind.wrap_i64]; omega
      rcases hv with ⟨hk0, hown0⟩ | ⟨hk1, hown⟩
      · have hn1 : nodeA ((k : Int) + 1) = .tuple #[rootV, .bool true] := by rw [hk0]; rfl
        have Hk0 := Lib.hid hk0
        clear hk0
        go_wp2_with (first
          | (go_at_call 50; refine (node_any s S segs R now G _ _ (h.below hb) hr).mono ?_; rintro e w1 ⟨rfl, hb1⟩; rw [hn1])
          | (refine wpList_allocAt rfl 96 rfl noneCells zero96 ?_; intro w2 hz2 hk2 hs2; have HZ2 := Lib.hid hz2; clear hz2)
          | (refine wpList_storeRow rfl 96 _ _ rfl rfl w1.heap.size rootCells noneCells _ rfl rfl HZ2.out rfl size96 one96 ?_; intro w3 hA3 hk3 hs3; have hown3 : w3.ownsRow w.heap.size 3 1 u3 0 [] := hk3.ownsRow (hk2.ownsRow ((Keep.of_below hb1 (fun _ => False)).ownsRow hown0 (fun _ _ h => h)) (fun _ _ h => h)) (fun b hb e => by have := (hown0.lt b hb).2; have := hb1.size; omega); have hb3 : w.heap.size ≤ w3.heap.size := (by have := hb1.size; omega); clear hs2 hs3)
          | (refine wpList_appendInt rfl _ _ rfl w.heap.size u3 0 [] rfl (hown3.alloc _) w3.heap.size ((k : Int) + 1) rfl ((At.new w3 _ _).cell 0) (by omega) (by simp; omega) ?_; intro v' w4 hown hgrow hblk))
        have B1 := hb.trans (hb1.mono hzw)
        have B2 := B1.trans (hk2.below.mono B1.size)
        have B3 := B2.trans (hk3.belowOf B2.size (by intro b hb e; have := B1.size; omega))
        have B5 := (B3.alloc B3.size _).grown hgrow (by have := B3.size; simp; omega) (fun j hj => (hown3.lt j hj).1)
        go_roundg (255 - (k + 1))
        case measure => have := Hgk.out; omega
        case rel => exact ⟨k + 1, by omega, rfl, by go_num, B5, .inr ⟨by omega, by have e := Hk0.out; subst e; exact hown⟩⟩
      · have hn1 : nodeA ((k : Int) + 1) = .tuple #[noneV, .bool false] := by simp [nodeA]; omega
        go_wp2_with (first
          | (go_at_call 50; refine (node_any s S segs R now G _ _ (h.below hb) hr).mono ?_; rintro e w1 ⟨rfl, hb1⟩; rw [hn1])
          | (refine wpList_allocAt rfl 96 rfl noneCells zero96 ?_; intro w2 hz2 hk2 hs2; have HZ2 := Lib.hid hz2; clear hz2)
          | (refine wpList_storeRow rfl 96 _ _ rfl rfl w1.heap.size noneCells noneCells _ rfl rfl HZ2.out rfl size96n one96n ?_; intro w3 hA3 hk3 hs3))
        have B1 := hb.trans (hb1.mono hzw)
        have B2 := B1.trans (hk2.below.mono B1.size)
        have B3 := B2.trans (hk3.belowOf B2.size (by intro b hb e; have := B1.size; omega))
        have hown3 : w3.ownsRow w.heap.size 3 1 u3 1 [.int .i64 1] := hk3.ownsRow (hk2.ownsRow ((Keep.of_below hb1 (fun _ => False)).ownsRow hown (fun _ _ h => h)) (fun _ _ h => h)) (fun b hb e => by have := (hown.lt b hb).2; have := hb1.size; omega)
        go_roundg (255 - (k + 1))
        case measure => have := Hgk.out; omega
        case rel => exact ⟨k + 1, by omega, rfl, by go_num, B3, .inr ⟨by omega, hown3⟩⟩
    · obtain rfl : k = 255 := by omega
      rcases hv with ⟨h0, _⟩ | ⟨hk1, hown⟩
      · omega
      · obtain ⟨p, c, rfl⟩ := ownsRow_slice hown
        obtain ⟨b, c2, he⟩ := owns_succ hown
        cases he
        have hbb := (hown.lt b rfl).1
        go_wp2
        go_ret
        exact ⟨b, c, rfl, hbb, hown, hb⟩

set_option maxRecDepth 100000 in
set_option maxHeartbeats 2000000 in
theorem has_none (s : Nat) (S : StoreV) (segs : List Int) (now : Bool) (G : Nat → Prop) (n : Int) (w : World) (h : StoreAt w s S segs none now G) :
    Calls Tryz.prog 84 #[.pointer (some ⟨s, 0, none⟩), .int .i64 n] w (Ans (.slice none 0 0) w) := by
  have HS := Lib.hid h
  obtain ⟨clk, hset⟩ := h.set.empty
  have Hset := Lib.hid hset
  have m14 : w.cell? ⟨s, 14, none⟩ = some (.map (some S.mset)) := h.cells.cell 14
  have r2 : (if false then Value.tuple #[(lookL (baseL none) n).getD (.pointer none), .bool (lookL (baseL none) n).isSome] else (lookL (baseL none) n).getD (.pointer none)) = .pointer none := rfl
  have R2 := Lib.hid r2
  clear h hset r2
  go_enter Tryz.func84, Tryz.ntmps84
  go_wp2_with (first
    | (refine wpList_rangeE rfl _ 85 rfl 170 9 Tryz.underlying85 S.mset clk rfl Hset.out ?_; intro w1 hit1 hk1 hs1; have HI1 := Lib.hid hit1; clear hit1))
  refine wp_loop_rounds 1 ?_; rw [rounds_succ]
  go_wp2_with (first
    | (refine wpList_nextDone rfl _ rfl w.heap.size S.mset [] rfl HI1.out ?_; have HS1 := Lib.hid (HS.out.keep hk1 (fun _ _ => id)); have m12 : w1.cell? ⟨s, 12, none⟩ = some (.map (some S.base)) := HS1.out.cells.cell 12)
    | (refine wpList_look rfl _ _ 83 false rfl 3 139 .i64 Tryz.underlying83 Tryz.underlying3 (.pointer none) zeroPtr S.base (baseL none) rfl HS1.out.base n rfl _ R2.out ?_; clear m12)
    | (go_at_call 103; refine (Tryz.slices_Sort_int_none none 0 _).mono ?_; rintro e w2 ⟨rfl, rfl⟩))
  go_ret
  exact ⟨rfl, hk1.below⟩

set_option maxRecDepth 100000 in
set_option maxHeartbeats 2000000 in
theorem has_root (s : Nat) (S : StoreV) (segs : List Int) (r : RootV) (now : Bool) (G : Nat → Prop) (w : World) (h : StoreAt w s S segs (some r) now G) :
    Calls Tryz.prog 84 #[.pointer (some ⟨s, 0, none⟩), .int .i64 1] w (Ans (.slice none 0 0) w) := by
  have HS := Lib.hid h
  obtain ⟨clk, hset⟩ := h.set.empty
  have Hset := Lib.hid hset
  have m14 : w.cell? ⟨s, 14, none⟩ = some (.map (some S.mset)) := h.cells.cell 14
  clear h hset
  go_enter Tryz.func84, Tryz.ntmps84
  go_wp2_with (first
    | (refine wpList_rangeE rfl _ 85 rfl 170 9 Tryz.underlying85 S.mset clk rfl Hset.out ?_; intro w1 hit1 hk1 hs1; have HI1 := Lib.hid hit1; clear hit1))
  have h1 := HS.out.keep hk1 (fun _ _ => id)
  obtain ⟨A1, b1, i1, g1⟩ := h1.root r rfl
  obtain ⟨clk2, hbl⟩ := b1.empty
  have Hbl := Lib.hid hbl
  have HS1 := Lib.hid h1
  have m12 : w1.cell? ⟨s, 12, none⟩ = some (.map (some S.base)) := h1.cells.cell 12
  have mbl : w1.cell? ⟨r.st, 20, none⟩ = some (.map (some r.bl)) := A1.cell 20
  clear A1 b1 i1 g1 hbl h1
  refine wp_loop_rounds 1 ?_; rw [rounds_succ]
  go_wp2_with (first
    | (refine wpList_nextDone rfl _ rfl w.heap.size S.mset [] rfl HI1.out ?_)
    | (refine wpList_look rfl _ _ 83 false rfl 3 139 .i64 Tryz.underlying83 Tryz.underlying3 (.pointer none) zeroPtr S.base (baseL (some r)) rfl HS1.out.base 1 rfl (.pointer (some ⟨r.st, 0, none⟩)) rfl ?_)
    | (refine wpList_rangeE rfl _ 84 rfl 3 3 Tryz.underlying84 r.bl clk2 rfl Hbl.out ?_; intro w2 hit2 hk2 hs2; have HI2 := Lib.hid hit2; clear hit2))
  refine wp_loop_rounds 1 ?_; rw [rounds_succ]
  go_wp2_with (first
    | (refine wpList_nextDone rfl _ rfl w1.heap.size r.bl [] rfl HI2.out ?_)
    | (go_at_call 103; refine (Tryz.slices_Sort_int_none none 0 _).mono ?_; rintro e w3 ⟨rfl, rfl⟩))
  go_ret
  exact ⟨rfl, hk1.below.trans (hk2.below.mono (by omega))⟩

theorem has_ok (s : Nat) (S : StoreV) (segs : List Int) (R : Option RootV) (now : Bool) (G : Nat → Prop) (w : World) (h : StoreAt w s S segs R now G) :
    Calls Tryz.prog 84 #[.pointer (some ⟨s, 0, none⟩), .int .i64 1] w (Ans (.slice none 0 0) w) := by
  cases R with
  | none => exact has_none s S segs now G 1 w h
  | some r => exact has_root s S segs r now G w h

theorem inds_none (w : World) : Calls Tryz.prog 104 #[.slice none 0 0] w (Ans (.int .i64 0) w) := by
  have hmm := @run_makeMap Tryz.prog
  go_enter Tryz.func104, Tryz.ntmps104
  go_wp2
  refine wp_loop_rounds 1 ?_; rw [rounds_succ]
  have hM := IMap.new w
  have HM := Lib.hid hM
  clear hM
  go_wp2_with (first
    | (refine wpList_mlen rfl _ _ rfl 3 4 Tryz.underlying88 w.heap.size [] rfl HM.out ?_))
  go_ret
  exact ⟨rfl, (Below.refl _ w).alloc (Nat.le_refl _) _⟩

set_option maxRecDepth 100000 in
set_option maxHeartbeats 2000000 in
theorem live_one (s : Nat) (S : StoreV) (segs : List Int) (R : Option RootV) (now : Bool) (G : Nat → Prop) (w : World) (h : StoreAt w s S segs R now G) (hr : HasRoot R now) :
    Calls Tryz.prog 67 #[.pointer (some ⟨s, 0, none⟩)] w (Ans (.int .i64 1) w) := by
  have HS := Lib.hid h
  clear h
  go_enter Tryz.func67, Tryz.ntmps67
  go_wp2_with (first
    | (go_at_call 49; refine (nodes_ok s S segs R now G _ HS.out hr).mono ?_; rintro e w1 ⟨b, c, rfl, hb, hown, hb1⟩))
  have c0 : w1.cell? ⟨b, 0, none⟩ = some (.int .i64 1) := by
    obtain ⟨b', off, c', _, he, _, hc⟩ := (IntsAt.of_own (xs := [1]) hown rfl).cells (by simp)
    simp only [Value.slice.injEq, Option.some.injEq, Addr.mk.injEq] at he
    obtain ⟨⟨rfl, rfl, _⟩, _⟩ := he
    exact hc 0 1 rfl
  refine wp_loop_rounds 2 ?_; rw [rounds_succ]
  go_wp2_with (first
    | (go_at_call 84; refine (has_ok s S segs R now G _ (HS.out.below hb1)).mono ?_; rintro e w2 ⟨rfl, hb2⟩)
    | (go_at_call 104; refine (inds_none _).mono ?_; rintro e w3 ⟨rfl, hb3⟩))
  rw [rounds_succ]
  go_wp2
  go_ret
  exact ⟨rfl, hb1.trans ((hb2.mono hb1.size).trans (hb3.mono (by have := hb1.size; have := hb2.size; omega)))⟩

theorem OwnI.slice {w : World} {v : Value} {xs : List Int} {G : Nat → Prop} (h : OwnI w v xs G) : ∃ p c, v = .slice p xs.length c := ownsRow_slice h.1

set_option maxRecDepth 100000 in
theorem sroom_ok (s : Nat) (S : StoreV) (segs : List Int) (R : Option RootV) (now : Bool) (G : Nat → Prop) (w : World) (h : StoreAt w s S segs R now G) (h0 : 4 ≤ segs.length) (h1 : segs.length ≤ 40) (hs0 : 304 ≤ S.sct) (hs1 : S.sct ≤ 16384) :
    Calls Tryz.prog 68 #[.pointer (some ⟨s, 0, none⟩)] w (Ans (.int .i64 (((segs.length : Int) - 4) * 8)) w) := by
  obtain ⟨p, c, hv⟩ := h.segs.slice
  have m1 : w.cell? ⟨s, 1, none⟩ = some (.int .i64 S.sct) := h.cells.cell 1
  have m2 : w.cell? ⟨s, 2, none⟩ = some (.int .i64 32) := h.cells.cell 2
  have m5 : w.cell? ⟨s, 5, none⟩ = some (.slice p segs.length c) := by rw [← hv]; exact h.cells.cell 5
  clear h hv
  go_enter Tryz.func68, Tryz.ntmps68
  go_wp2
  (try simp only [Act.put, List.setIfInBounds_toArray, List.set_cons_zero, List.set_cons_succ])
  refine wp_region_noPanic ?_
  refine T_region 11 (fun w' => w'.cell? ⟨s, 1, none⟩ = some (.int .i64 S.sct) ∧ w'.cell? ⟨s, 2, none⟩ = some (.int .i64 32) ∧ w'.cell? ⟨s, 5, none⟩ = some (.slice p segs.length c)) (by kernel_rfl) (by kernel_rfl) (by kernel_rfl) (by decide) (by kernel_rfl) ⟨m1, m2, m5⟩ (fun hHeld hU => ?_)
  refine T_take (i := 0) hU 3 ?_ rfl rfl (by decide) (by kernel_rfl) (by kernel_rfl) (fun _ _ _ h => h) (Or.inl ⟨by rfl, ?_⟩) hHeld ?_; rotate_left; (intro w hSw; (try dsimp only at hSw); go_simp); (try with_reducible rfl); clear hU; intro hU; (try simp only [Act.put, List.setIfInBounds_toArray, List.set_cons_zero, List.set_cons_succ])
  refine T_take (i := 1) hU 4 ?_ rfl rfl (by decide) (by kernel_rfl) (by kernel_rfl) (fun _ _ _ h => h) (Or.inl ⟨by rfl, ?_⟩) hHeld ?_; rotate_left; (intro w hSw; (try dsimp only at hSw); go_simp); (try with_reducible rfl); clear hU; intro hU; (try simp only [Act.put, List.setIfInBounds_toArray, List.set_cons_zero, List.set_cons_succ])
  refine T_take (i := 2) hU 5 ?_ rfl rfl (by decide) (by kernel_rfl) (by kernel_rfl) (fun _ _ _ h => h) (Or.inl ⟨by rfl, ?_⟩) hHeld ?_; rotate_left; (intro w hSw; (try dsimp only at hSw); go_simp); (try with_reducible rfl); clear hU; intro hU; (try simp only [Act.put, List.setIfInBounds_toArray, List.set_cons_zero, List.set_cons_succ])
  refine T_take (i := 3) hU 6 ?_ rfl rfl (by decide) (by kernel_rfl) (by kernel_rfl) (fun _ _ _ h => h) (Or.inl ⟨by rfl, ?_⟩) hHeld ?_; rotate_left; (intro w hSw; (try dsimp only at hSw); go_simp); (try with_reducible rfl); clear hU; intro hU; (try simp only [Act.put, List.setIfInBounds_toArray, List.set_cons_zero, List.set_cons_succ])
  refine T_take (i := 4) hU 7 ?_ rfl rfl (by decide) (by kernel_rfl) (by kernel_rfl) (fun _ _ _ h => h) (Or.inl ⟨by rfl, ?_⟩) hHeld ?_; rotate_left; (intro w hSw; (try dsimp only at hSw); go_simp); (try with_reducible rfl); clear hU; intro hU; (try simp only [Act.put, List.setIfInBounds_toArray, List.set_cons_zero, List.set_cons_succ])
  refine T_take (i := 5) hU 8 ?_ rfl rfl (by decide) (by kernel_rfl) (by kernel_rfl) (fun _ _ _ h => h) (Or.inl ⟨by rfl, ?_⟩) hHeld ?_; rotate_left; (intro w hSw; (try dsimp only at hSw); go_simp); (try with_reducible rfl); clear hU; intro hU; (try simp only [Act.put, List.setIfInBounds_toArray, List.set_cons_zero, List.set_cons_succ])
  refine T_take (i := 6) hU 9 ?_ rfl rfl (by decide) (by kernel_rfl) (by kernel_rfl) (fun _ _ _ h => h) (Or.inl ⟨by rfl, ?_⟩) hHeld ?_; rotate_left; (intro w hSw; (try dsimp only at hSw); go_simp); (try with_reducible rfl); clear hU; intro hU; (try simp only [Act.put, List.setIfInBounds_toArray, List.set_cons_zero, List.set_cons_succ])
  refine T_take (i := 7) hU 10 ?_ rfl rfl (by decide) (by kernel_rfl) (by kernel_rfl) (fun _ _ _ h => h) (Or.inl ⟨by rfl, ?_⟩) hHeld ?_; rotate_left; (intro w hSw; (try dsimp only at hSw); go_simp); (try with_reducible rfl); clear hU; intro hU; (try simp only [Act.put, List.setIfInBounds_toArray, List.set_cons_zero, List.set_cons_succ])
  refine T_take (i := 8) hU 11 ?_ rfl rfl (by decide) (by kernel_rfl) (by kernel_rfl) (fun _ _ _ h => h) (Or.inl ⟨by rfl, ?_⟩) hHeld ?_; rotate_left; (intro w hSw; (try dsimp only at hSw); go_simp); (try with_reducible rfl); clear hU; intro hU; (try simp only [Act.put, List.setIfInBounds_toArray, List.set_cons_zero, List.set_cons_succ])
  refine T_take (i := 9) hU 12 ?_ rfl rfl (by decide) (by kernel_rfl) (by kernel_rfl) (fun _ _ _ h => h) (Or.inl ⟨by rfl, ?_⟩) hHeld ?_; rotate_left; (intro w hSw; (try dsimp only at hSw); go_simp); (try with_reducible rfl); clear hU; intro hU; (try simp only [Act.put, List.setIfInBounds_toArray, List.set_cons_zero, List.set_cons_succ])
  have hHeld10 := hHeld
  refine T_step (i := 10) hU rfl (by decide) (by kernel_rfl) (fun K hK => ?_); clear hU hHeld
  go_simp
  go_at_call 105
  refine (room_ok S.sct segs.length 0 0 0 0 0 0 _ hs0 hs1 (by omega) (by omega)).mono ?_
  rintro e w1 ⟨rfl, hb⟩
  have hb := World.drew_below0 w |>.trans (hb.mono (Nat.le_refl _))
  refine hK.out _ _ (⟨Below.keepCell hb hHeld10.1, Below.keepCell hb hHeld10.2.1, Below.keepCell hb hHeld10.2.2⟩) (fun hHeld hU => ?_); clear hK K; (try simp only [Act.put, List.setIfInBounds_toArray, List.set_cons_zero, List.set_cons_succ])
  refine T_last (N := 11) rfl (by kernel_rfl) (by kernel_rfl) (fun K hK => ?_); clear hU hHeld
  go_simp
  refine hK.out _ _ (NoPanic.normal ?_); clear hK K
  go_wp2
  go_ret
  exact ⟨rfl, hb⟩
end Go.Proofs.YtnndkfhpifgaiaaGreat
