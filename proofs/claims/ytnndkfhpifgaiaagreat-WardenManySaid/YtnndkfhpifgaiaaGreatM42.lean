/-
  pool: which segments houses have; which are nobody's.
  table.house: an entry that may be.
  table.Check: a table that may be.
-/
import Derived.Test.YtnndkfhpifgaiaaGreatM20
import Derived.Test.YtnndkfhpifgaiaaGreatM25
import Derived.Test.YtnndkfhpifgaiaaGreatM17
import Derived.Test.YtnndkfhpifgaiaaGreatM15
import Derived.Deep.LoopGhost
set_option linter.unusedVariables false
set_option linter.unusedSimpArgs false
namespace Go.Proofs.YtnndkfhpifgaiaaGreat
open Go.RowKit

/-- A house's entry. -/
structure HV where
  (st gen l0 l1 l2 l3 l4 l5 l6 : Int) (sv : Value) (segs : List Int)
def HV.cells (h : HV) : List Value := [.int .i64 h.st, .int .i64 h.gen, .int .i64 h.l0, .int .i64 h.l1, .int .i64 h.l2, .int .i64 h.l3, .int .i64 h.l4, .int .i64 h.l5, .int .i64 h.l6, h.sv]
def HV.arr (h : HV) : Array Value := #[.int .i64 h.st, .int .i64 h.gen, .int .i64 h.l0, .int .i64 h.l1, .int .i64 h.l2, .int .i64 h.l3, .int .i64 h.l4, .int .i64 h.l5, .int .i64 h.l6, h.sv]
def tcells (T : List HV) : List Value := T.flatMap HV.cells
def zHouse : Array Value := #[.int .i64 0, .int .i64 0, .int .i64 0, .int .i64 0, .int .i64 0, .int .i64 0, .int .i64 0, .int .i64 0, .int .i64 0, .slice none 0 0]
theorem zero40 : (Tryz.prog.info? 40).bind (·.zero) = some (.agg zHouse) := by kernel_rfl
theorem size40 (h : HV) : (Tryz.prog.info? 40).map (·.size) = some h.arr.size := by kernel_rfl
theorem size40l (h : HV) : (Tryz.prog.info? 40).map (·.size) = some h.cells.length := by kernel_rfl
theorem tcells_length (T : List HV) : (tcells T).length = T.length * 10 := by
  induction T with
  | nil => rfl
  | cons h T ih => simp only [tcells, List.flatMap_cons, List.length_append] at *; rw [ih]; simp [HV.cells]; omega
theorem tcells_at : ∀ (T : List HV) (k : Nat) (h : HV), T[k]? = some h → ((tcells T).drop (k * 10)).take 10 = h.cells
  | [], k, h, hk => by simp at hk
  | x :: T, 0, h, hk => by simp at hk; subst hk; simp [tcells, HV.cells]
  | x :: T, k + 1, h, hk => by
    have := tcells_at T k h (by simpa using hk)
    simp only [tcells, List.flatMap_cons] at *
    rw [show (k + 1) * 10 = 10 + k * 10 from by omega, ← List.drop_drop]
    have : (x.cells ++ List.flatMap HV.cells T).drop 10 = List.flatMap HV.cells T := by simp [HV.cells]
    rw [this]; assumption

/-- A table of houses: block b, and each one's segments. -/
structure TableAt (w : World) (b : Nat) (T : List HV) (N : Nat) : Prop where
  cells : At w b (tcells T).toArray 40
  ints : ∀ h ∈ T, IntsAt w h.sv h.segs N
  one : ∀ h ∈ T, h.sv.oneCell' = true ∧ h.segs.length ≤ 1000
theorem TableAt.below {w w' : World} {b : Nat} {T : List HV} {N : Nat} (h : TableAt w b T N) (hN : N ≤ w.heap.size) (hb : Below w.heap.size w w') : TableAt w' b T N :=
  ⟨Below.at hb h.cells h.cells.lt, fun x hx => (h.ints x hx).below (hb.mono hN), h.one⟩
theorem TableAt.drew {w : World} {b : Nat} {T : List HV} {N : Nat} (h : TableAt w b T N) : TableAt w.drew b T N := ⟨h.cells, h.ints, h.one⟩
theorem HV.arr_one {h : HV} (hs : h.sv.oneCell' = true) : h.arr.all (·.oneCell') = true := by simp [HV.arr, Value.oneCell']; exact hs
theorem TableAt.row {w : World} {b : Nat} {T : List HV} {N k : Nat} {h : HV} (hT : TableAt w b T N) (hk : T[k]? = some h) : ((tcells T).toArray.toList.drop (k * 10)).take h.cells.length = h.cells := tcells_at T k h hk

/-- Which numbers stand in a set. -/
def SetL (M : List (Int × Value)) (xs : List Int) : Prop := ∀ x, lookL M x = if x ∈ xs then some (.bool true) else none
theorem SetL.nil : SetL [] [] := by intro x; simp [lookL]
theorem lookL_cons (p : Int × Value) (M : List (Int × Value)) (x : Int) : lookL (p :: M) x = if p.1 = x then some p.2 else lookL M x := by
  by_cases h : p.1 = x <;> simp [lookL, List.find?_cons, h]
theorem lookL_map (M : List (Int × Value)) (y : Int) (v : Value) (x : Int) : lookL (M.map fun p => if p.1 = y then (y, v) else p) x = if x = y then (lookL M y).map (fun _ => v) else lookL M x := by
  induction M with
  | nil => simp [lookL]
  | cons p M ih =>
    rw [List.map_cons, lookL_cons, lookL_cons, lookL_cons, ih]
    by_cases hp : p.1 = y
    · by_cases hx : x = y
      · subst hx; simp [hp]
      · have h1 : ¬ (y = x) := fun e => hx e.symm
        simp [hp, hx, h1]
    · by_cases hx : x = y
      · subst hx; simp [hp]
      · simp [hp, hx]
theorem SetL.put {M : List (Int × Value)} {xs : List Int} (h : SetL M xs) (y : Int) : SetL (putL M y (.bool true)) (xs ++ [y]) := by
  intro x
  unfold putL
  by_cases hy : (lookL M y).isSome
  · rw [if_pos hy, lookL_map, h y, h x]
    have hy' : y ∈ xs := by
      rw [h y] at hy
      by_cases hm : y ∈ xs
      · exact hm
      · simp [hm] at hy
    by_cases hx : x = y
    · subst hx; simp [hy']
    · simp [hx]
  · rw [if_neg hy]
    have h2 : lookL (M ++ [(y, Value.bool true)]) x = (lookL M x).or (if y = x then some (.bool true) else none) := by
      clear hy h
      induction M with
      | nil => rw [List.nil_append, lookL_cons]; simp [lookL]
      | cons p M ih => rw [List.cons_append, lookL_cons, lookL_cons, ih]; by_cases hp : p.1 = x <;> simp [hp]
    rw [h2, h x]
    by_cases hx : x ∈ xs
    · simp [hx]
    · by_cases hyx : y = x
      · subst hyx; simp [hx]
      · have : ¬ (x = y) := fun e => hyx e.symm
        simp [hx, hyx, this]

/-- The numbers of all houses' segments. -/
def allSegs (T : List HV) : List Int := T.flatMap (·.segs)
theorem allSegs_take (T : List HV) (k : Nat) (h : HV) (hk : T[k]? = some h) : allSegs (T.take (k + 1)) = allSegs (T.take k) ++ h.segs := by
  simp [allSegs, List.take_add_one, hk]

set_option maxRecDepth 100000 in
set_option maxHeartbeats 2000000 in
theorem taken_ok (b c : Nat) (T : List HV) (N : Nat) (w : World) (h : TableAt w b T N) (hN : N ≤ w.heap.size) (hc : T.length ≤ c) (hc' : T.length ≤ 100) :
    Calls Tryz.prog 53 #[.slice (some ⟨b, 0, none⟩) T.length c] w fun e w' => ∃ q M, e = .returned (.map (some q)) ∧ w.heap.size ≤ q ∧ IMap w' q M ∧ SetL M (allSegs T) ∧ Below w.heap.size w w' := by
  have hu40 := Tryz.underlying40
  have HT := Lib.hid h
  clear h
  go_enter Tryz.func53, Tryz.ntmps53
  go_wp2_with (first
    | (refine wpList_makeMapAt rfl 88 rfl ?_; intro w1 hm hk hs; have HM1 := Lib.hid hm; have HB1 := Lib.hid hk.below; clear hm hk hs))
  have hlb : T.length < 9223372036854775807 := by omega
  go_loopg [11] T.length (fun gk i wr => ∃ (k : Nat) (M : List (Int × Value)), k ≤ T.length ∧ gk = T.length - k ∧ i = .int .i64 k ∧ IMap wr w.heap.size M ∧ SetL M (allSegs (T.take k)) ∧ Below w.heap.size w wr)
  case atStart => exact ⟨0, [], by omega, by omega, rfl, HM1.out, SetL.nil, HB1.out⟩
  case round =>
    obtain ⟨k, M, hk, hgk, rfl, hM, hS, hb⟩ := hrel
    have Hgk := Lib.hid hgk
    have HM := Lib.hid hM
    have HS := Lib.hid hS
    have HB := Lib.hid hb
    clear hgk hM hS hb
    by_cases hlt : k < T.length
    · obtain ⟨x, hx⟩ : ∃ x, T[k]? = some x := ⟨_, List.getElem?_eq_getElem hlt⟩
      have Hx := Lib.hid hx
      clear hx
      obtain ⟨pp, cc, hsv, hcc, hor⟩ := HT.out.ints x (List.mem_of_getElem? Hx.out)
      have Hsv := Lib.hid hsv
      have hlx : x.segs.length ≤ 1000 := (HT.out.one x (List.mem_of_getElem? Hx.out)).2
      clear hsv hor
      go_wp2_with (first
        | (refine wpList_loadIn rfl 40 _ rfl b (k * 10) rfl 40 _ (HT.out.below hN HB.out).cells x.cells (HT.out.row Hx.out) _ rfl hu40 (size40l x) ?_)
        | (refine wpList_allocAt rfl 40 rfl zHouse zero40 ?_; intro w2 hz hk2 hs2; have HZ2 := Lib.hid hz; have HK2 := Lib.hid hk2; have Hs2 := Lib.hid hs2; clear hz hk2 hs2)
        | (refine wpList_storeRow rfl 40 _ _ rfl rfl wr.heap.size x.arr zHouse _ rfl rfl HZ2.out rfl (size40 x) (HV.arr_one ((HT.out.one x (List.mem_of_getElem? Hx.out)).1)) ?_; intro w3 hA hk3 hs3; have c9 : w3.cell? ⟨wr.heap.size, 9, none⟩ = some (.slice pp x.segs.length cc) := by (rw [← Hsv.out]; exact hA.cell 9)
           have HB3 := Lib.hid (HK2.out.below.trans (hk3.belowOf (by have := Hs2.out; omega) (by intro b hb e; omega))); clear hA hk3 hs3))
      have hlb2 : x.segs.length < 9223372036854775807 := by omega
      have HM3 := Lib.hid (HM.out.below HB3.out HM.out.lt)
      have HBw3 := Lib.hid (HB.out.trans (HB3.out.mono HB.out.size))
      clear c9
      go_loopg [18] x.segs.length (fun gj i wj => ∃ (j : Nat) (M2 : List (Int × Value)), j ≤ x.segs.length ∧ gj = x.segs.length - j ∧ i = .int .i64 j ∧ IMap wj w.heap.size M2 ∧ SetL M2 (allSegs (T.take k) ++ x.segs.take j) ∧ Below w.heap.size w wj)
      case atStart => exact ⟨0, M, by omega, by omega, rfl, HM3.out, by simpa using HS.out, HBw3.out⟩
      case round =>
        obtain ⟨j, M2, hj, hgj, rfl, hM2, hS2, hb2⟩ := hrel
        have Hgj := Lib.hid hgj
        have HM2 := Lib.hid hM2
        have HS2 := Lib.hid hS2
        have HB2 := Lib.hid hb2
        clear hgj hM2 hS2 hb2
        by_cases hlt2 : j < x.segs.length
        · obtain ⟨y, hy⟩ : ∃ y, x.segs[j]? = some y := ⟨_, List.getElem?_eq_getElem hlt2⟩
          obtain ⟨pb, po, pc, hpb, hpv, hpc, hcell⟩ := (HT.out.ints x (List.mem_of_getElem? Hx.out)).cells (by intro e; rw [e] at hlt2; simp at hlt2)
          rw [Hsv.out] at hpv
          simp only [Value.slice.injEq] at hpv
          obtain ⟨rfl, _, rfl⟩ := hpv
          have cy : wr.cell? ⟨pb, po + j, none⟩ = some (.int .i64 y) := Below.keepCell HB2.out (hcell j y hy)
          have Hy := Lib.hid hy
          clear hy hcell hpb hpc
          go_wp2_with (first
            | (refine wpList_putM rfl _ _ _ 88 rfl 3 4 .i64 Tryz.underlying88 Tryz.underlying3 w.heap.size M2 rfl HM2.out y rfl (.bool true) rfl ?_; intro w4 hm4 hk4 hs4))
          go_roundg (x.segs.length - (j + 1))
          case measure => have := Hgj.out; omega
          case rel =>
            refine ⟨j + 1, _, by omega, rfl, by go_num, hm4, ?_, HB2.out.trans (hk4.belowOf HB2.out.size (by omega))⟩
            rw [List.take_add_one, Hy.out, Option.toList_some, ← List.append_assoc]
            exact HS2.out.put y
        · obtain rfl : j = x.segs.length := by omega
          go_wp2
          go_roundg (T.length - (k + 1))
          case measure => have := Hgk.out; omega
          case rel =>
            refine ⟨k + 1, M2, by omega, rfl, by go_num, HM2.out, ?_, HB2.out⟩
            rw [allSegs_take T k x Hx.out]
            simpa using HS2.out
    · obtain rfl : k = T.length := by omega
      go_wp2
      go_ret
      exact ⟨w.heap.size, M, rfl, Nat.le_refl _, HM.out, by simpa using HS.out, HB.out⟩

/-- The numbers below n that are none of xs. -/
def freeL (n : Nat) (xs : List Int) : List Int := ((List.range n).map Int.ofNat).filter (fun x => decide (x ∉ xs))
theorem freeL_succ (n : Nat) (xs : List Int) : freeL (n + 1) xs = freeL n xs ++ if (n : Int) ∈ xs then [] else [(n : Int)] := by
  unfold freeL
  rw [List.range_succ, List.map_append, List.filter_append]
  congr 1
  by_cases h : (n : Int) ∈ xs <;> simp [h]
theorem freeL_le (n : Nat) (xs : List Int) : (freeL n xs).length ≤ n := by
  unfold freeL
  exact Nat.le_trans (List.length_filter_le _ _) (by simp)

theorem zeroBoolP (w : World) : (zeroValue 4).run Tryz.prog w = .ok (.bool false) w := by kernel_rfl

set_option maxRecDepth 100000 in
set_option maxHeartbeats 2000000 in
theorem free_ok (n : Nat) (b c : Nat) (T : List HV) (N : Nat) (w : World) (h : TableAt w b T N) (hN : N ≤ w.heap.size) (hc : T.length ≤ c) (hc' : T.length ≤ 100) (hn : n ≤ 1000) :
    Calls Tryz.prog 22 #[.int .i64 n, .slice (some ⟨b, 0, none⟩) T.length c] w fun e w' => ∃ u, e = .returned u ∧ w'.ownsRow w.heap.size 3 1 u (freeL n (allSegs T)).length ((freeL n (allSegs T)).map (Value.int .i64)) ∧ Below w.heap.size w w' := by
  have HT := Lib.hid h
  have Hmin : min (n : Int) 65536 = n := by omega
  have Hmax : max (0 : Int) n = n := by omega
  clear h
  go_enter Tryz.func22, Tryz.ntmps22
  go_wp2_with (first
    | (go_at_call 53; refine (taken_ok b c T N _ HT.out hN hc hc').mono ?_; rintro e w1 ⟨q, M, rfl, hq, hM, hS, hb⟩; have HM1 := Lib.hid hM; have HS1 := Lib.hid hS; have HB1 := Lib.hid hb; have Hq := Lib.hid hq; clear hM hS hb hq))
  go_loopg [6, 13] n (fun gk u i wr => ∃ k : Nat, k ≤ n ∧ gk = n - k ∧ i = .int .i64 k ∧ wr.ownsRow w1.heap.size 3 1 u (freeL k (allSegs T)).length ((freeL k (allSegs T)).map (Value.int .i64)) ∧ Below w1.heap.size w1 wr)
  case atStart => exact ⟨0, by omega, by omega, rfl, World.ownsRow_nil _ _ _ _, Below.refl _ _⟩
  case round =>
    obtain ⟨k, hk, hgk, rfl, hown, hb⟩ := hrel
    have Hgk := Lib.hid hgk
    have HO := Lib.hid hown
    have HB := Lib.hid hb
    have Hf := Lib.hid (freeL_le k (allSegs T))
    clear hgk hown hb
    by_cases hlt : k < n
    · have hMr := HM1.out.below HB.out HM1.out.lt
      by_cases hin : (k : Int) ∈ allSegs T
      · have hlk : lookL M (k : Int) = some (.bool true) := by rw [HS1.out k, if_pos hin]
        have Hin := Lib.hid hin
        clear hin
        go_wp2_with (first
          | (refine wpList_look rfl _ _ 88 false rfl 3 4 .i64 Tryz.underlying88 Tryz.underlying3 (.bool false) zeroBoolP q M rfl hMr k rfl (.bool true) (by rw [hlk]; rfl) ?_))
        go_roundg (n - (k + 1))
        case measure => have := Hgk.out; omega
        case rel =>
          refine ⟨k + 1, by omega, rfl, by go_num, ?_, HB.out⟩
          rw [freeL_succ, if_pos Hin.out, List.append_nil]; exact HO.out
      · have hlk : lookL M (k : Int) = none := by rw [HS1.out k, if_neg hin]
        have Hin := Lib.hid hin
        clear hin
        go_wp2_with (first
          | (refine wpList_look rfl _ _ 88 false rfl 3 4 .i64 Tryz.underlying88 Tryz.underlying3 (.bool false) zeroBoolP q M rfl hMr k rfl (.bool false) (by rw [hlk]; rfl) ?_)
          | (refine wpList_appendInt rfl _ _ rfl w1.heap.size u6 (freeL k (allSegs T)).length _ rfl (HO.out.alloc _) wr.heap.size k rfl ((At.new wr _ _).cell 0) (by have := Hf.out; omega) (by have := HB.out.size; simp; omega) ?_; intro v' w4 hown4 hgrow hblk))
        go_roundg (n - (k + 1))
        case measure => have := Hgk.out; omega
        case rel =>
          refine ⟨k + 1, by omega, rfl, by go_num, ?_, (HB.out.alloc HB.out.size _).grown hgrow (by have := HB.out.size; simp; omega) (fun j hj => (HO.out.lt j hj).1)⟩
          rw [freeL_succ, if_neg Hin.out, List.length_append, List.map_append]; exact hown4
    · obtain rfl : k = n := by omega
      go_wp2
      go_ret
      exact ⟨_, rfl, ownsRow_raise HO.out (fun j hj => by have := (HO.out.lt j hj).1; have := HB1.out.size; omega), HB1.out.trans (HB.out.mono HB1.out.size)⟩

set_option maxRecDepth 100000 in
set_option maxHeartbeats 2000000 in
theorem take_yes (n k : Nat) (b c : Nat) (T : List HV) (N : Nat) (w : World) (h : TableAt w b T N) (hN : N ≤ w.heap.size) (hc : T.length ≤ c) (hc' : T.length ≤ 100) (hn : n ≤ 1000) (hk : 1 ≤ k) (hk' : k ≤ 1000) (hle : k ≤ (freeL n (allSegs T)).length) :
    Calls Tryz.prog 16 #[.int .i64 n, .slice (some ⟨b, 0, none⟩) T.length c, .int .i64 k] w fun e w' => Below w.heap.size w w' ∧
      ∃ g, e = .returned (.tuple #[.slice (some ⟨g, 0, none⟩) k k, .bool true]) ∧ w.heap.size ≤ g ∧ IntsAt w' (.slice (some ⟨g, 0, none⟩) k k) ((freeL n (allSegs T)).take k) w'.heap.size := by
  have HT := Lib.hid h
  have Hl := Lib.hid (freeL_le n (allSegs T))
  have e0 : decide ((k : Int) < 0) = false := by simp
  have hle1 : (k : Int) ≤ (freeL n (allSegs T)).length := by omega
  have hle2 : ¬ ((freeL n (allSegs T)).length < k) := by omega
  clear h
  go_enter Tryz.func16, Tryz.ntmps16
  go_wp2_with (first
    | (go_at_call 22; refine (free_ok n b c T N _ HT.out hN hc hc' hn).mono ?_; rintro e w1 ⟨u, rfl, hown, hb⟩; obtain ⟨g, off, cc, hgl, hsl, hcc, hcell⟩ := (IntsAt.of_own hown rfl).cells (List.ne_nil_of_length_pos (by omega)); subst hsl; have HO := Lib.hid hown; have HB := Lib.hid hb; have Hcell := Lib.hid hcell; have Hgl := Lib.hid hgl; have hk2 : (k : Int) ≤ cc := (by omega); clear hown hb hcell hgl))
  go_ret2
  obtain ⟨hx1, hx2⟩ := HO.out.2.resolve_left (by simp)
  obtain ⟨cap, cur, hsl, hgb, _⟩ := hx2
  simp only [Value.slice.injEq, Option.some.injEq, Addr.mk.injEq] at hsl
  obtain ⟨⟨rfl, rfl, _⟩, _⟩ := hsl
  refine ⟨HB.out, g, rfl, hgb, some ⟨g, 0, none⟩, k, by rw [List.length_take]; simp; omega, by rw [List.length_take]; omega, .inr ⟨g, 0, Hgl.out, rfl, fun j x hj => ?_⟩⟩
  refine Hcell.out j x ?_
  rw [List.getElem?_take] at hj
  split at hj
  · exact hj
  · cases hj

set_option maxRecDepth 100000 in
theorem take_no (n k : Nat) (b c : Nat) (T : List HV) (N : Nat) (w : World) (h : TableAt w b T N) (hN : N ≤ w.heap.size) (hc : T.length ≤ c) (hc' : T.length ≤ 100) (hn : n ≤ 1000) (hk' : k ≤ 1000) (hle : ¬ k ≤ (freeL n (allSegs T)).length) :
    Calls Tryz.prog 16 #[.int .i64 n, .slice (some ⟨b, 0, none⟩) T.length c, .int .i64 k] w (Ans (.tuple #[.slice none 0 0, .bool false]) w) := by
  have HT := Lib.hid h
  have Hl := Lib.hid (freeL_le n (allSegs T))
  have e0 : decide ((k : Int) < 0) = false := by simp
  have hle2 : (freeL n (allSegs T)).length < k := by omega
  clear h
  go_enter Tryz.func16, Tryz.ntmps16
  go_wp2_with (first
    | (go_at_call 22; refine (free_ok n b c T N _ HT.out hN hc hc' hn).mono ?_; rintro e w1 ⟨u, rfl, hown, hb⟩; obtain ⟨pu, cu, rfl⟩ := ownsRow_slice hown; have HB := Lib.hid hb; clear hown hb))
  go_ret2
  exact ⟨rfl, HB.out⟩
end Go.Proofs.YtnndkfhpifgaiaaGreat
namespace Go.Proofs.YtnndkfhpifgaiaaGreat
open Go.RowKit

/-- No house. -/
def HV.None (h : HV) : Prop := h.st = 0 ∧ (0 ≤ h.gen ∧ h.gen ≤ 65535) ∧ h.l0 = 0 ∧ h.l1 = 0 ∧ h.l2 = 0 ∧ h.l3 = 0 ∧ h.l4 = 0 ∧ h.l5 = 0 ∧ h.l6 = 0 ∧ h.sv = .slice none 0 0 ∧ h.segs = []
/-- A house with wide bounds. -/
structure HV.Lives (h : HV) (n : Nat) : Prop where
  st : h.st = 1
  gen : 0 < h.gen ∧ h.gen ≤ 65535
  l0 : h.l0 = h.segs.length
  l1 : h.l1 = 100000
  l2 : h.l2 = 100000
  l3 : h.l3 = 255
  l4 : h.l4 = 255
  l5 : h.l5 = 5
  l6 : h.l6 = 200
  len : 8 ≤ h.segs.length ∧ h.segs.length ≤ 40
  up : h.segs.Pairwise (· < ·)
  rng : ∀ x ∈ h.segs, 0 ≤ x ∧ x < n
def HV.Ok (h : HV) (n : Nat) : Prop := h.None ∨ h.Lives n
def noneArr (g : Int) : Array Value := #[.int .i64 0, .int .i64 g, .int .i64 0, .int .i64 0, .int .i64 0, .int .i64 0, .int .i64 0, .int .i64 0, .int .i64 0, .slice none 0 0]
theorem HV.None.arr_eq {h : HV} (hn : h.None) : h.arr = noneArr h.gen := by
  obtain ⟨h1, _, h2, h3, h4, h5, h6, h7, h8, h9, _⟩ := hn
  simp [HV.arr, noneArr, h1, h2, h3, h4, h5, h6, h7, h8, h9]
theorem size32z : (Tryz.prog.info? 32).map (·.size) = some ([.int .i64 0, .int .i64 0, .int .i64 0, .int .i64 0, .int .i64 0, .int .i64 0, .int .i64 0] : List Value).length := by kernel_rfl
theorem built32 : Tryz.prog.built 32 [] = some #[.int .i64 0, .int .i64 0, .int .i64 0, .int .i64 0, .int .i64 0, .int .i64 0, .int .i64 0] := by kernel_rfl

set_option maxRecDepth 100000 in
set_option maxHeartbeats 2000000 in
theorem thouse_none (g : Int) (w : World) (h0 : 0 ≤ g) (h1 : g ≤ 65535) : Calls Tryz.prog 124 #[.int .i64 65536, .agg (noneArr g)] w (Ans (.bool true) w) := by
  have hu32 := Tryz.underlying32
  go_enter Tryz.func124, Tryz.ntmps124
  go_wp2_with (first
    | (refine wpList_boxAt rfl 40 _ rfl (noneArr g) rfl ?_; intro w1 hA hk hs; have HA1 := Lib.hid hA; have HB1 := Lib.hid hk.below; have c0 : w1.cell? ⟨w.heap.size, 0, none⟩ = some (.int .i64 0) := hA.cell 0; have c1 : w1.cell? ⟨w.heap.size, 1, none⟩ = some (.int .i64 g) := hA.cell 1; have c9 : w1.cell? ⟨w.heap.size, 9, none⟩ = some (.slice none 0 0) := hA.cell 9; have c2 : w1.cell? ⟨w.heap.size, 2, none⟩ = some (.int .i64 0) := hA.cell 2; have c3 : w1.cell? ⟨w.heap.size, 3, none⟩ = some (.int .i64 0) := hA.cell 3; have c4 : w1.cell? ⟨w.heap.size, 4, none⟩ = some (.int .i64 0) := hA.cell 4; have c5 : w1.cell? ⟨w.heap.size, 5, none⟩ = some (.int .i64 0) := hA.cell 5; have c6 : w1.cell? ⟨w.heap.size, 6, none⟩ = some (.int .i64 0) := hA.cell 6; have c7 : w1.cell? ⟨w.heap.size, 7, none⟩ = some (.int .i64 0) := hA.cell 7; have c8 : w1.cell? ⟨w.heap.size, 8, none⟩ = some (.int .i64 0) := hA.cell 8; clear hA hk hs)
    | (go_at_call 34; refine (in_ok _ _ _ _ (by omega) (by omega)).mono ?_; rintro e w2 ⟨rfl, rfl⟩)
    )
  go_ret
  exact ⟨rfl, HB1.out⟩

def livArr (g k : Int) (sv : Value) : Array Value := #[.int .i64 1, .int .i64 g, .int .i64 k, .int .i64 100000, .int .i64 100000, .int .i64 255, .int .i64 255, .int .i64 5, .int .i64 200, sv]
theorem HV.Lives.arr_eq {h : HV} {n : Nat} (hn : h.Lives n) : h.arr = livArr h.gen h.segs.length h.sv := by
  simp [HV.arr, livArr, hn.st, hn.l0, hn.l1, hn.l2, hn.l3, hn.l4, hn.l5, hn.l6]

set_option maxRecDepth 100000 in
set_option maxHeartbeats 2000000 in
theorem thouse_lives (g : Int) (sv : Value) (xs : List Int) (N : Nat) (w : World) (hI : IntsAt w sv xs N) (hN : N ≤ w.heap.size) (h0 : 0 < g) (h1 : g ≤ 65535) (hl : 8 ≤ xs.length) (hl' : xs.length ≤ 40) (hup : xs.Pairwise (· < ·)) (hr : ∀ x ∈ xs, 0 ≤ x ∧ x < 65536) :
    Calls Tryz.prog 124 #[.int .i64 65536, .agg (livArr g xs.length sv)] w (Ans (.bool true) w) := by
  obtain ⟨pb, po, pc, hpb, rfl, hpc, hcell⟩ := hI.cells (List.ne_nil_of_length_pos (by omega))
  have Hcell := Lib.hid hcell
  have Hr := Lib.hid hr
  have Hup := Lib.hid hup
  have hlb : xs.length < 9223372036854775807 := by omega
  have hg : decide ((0 : Int) < g) = true := by simpa using h0
  clear hI hcell hr hup hpc
  go_enter Tryz.func124, Tryz.ntmps124
  go_wp2_with (first
    | (refine wpList_boxAt rfl 40 _ rfl (livArr g xs.length (.slice (some ⟨pb, po, none⟩) xs.length pc)) rfl ?_; intro w1 hA hk hs; have HA1 := Lib.hid hA; have HB1 := Lib.hid hk.below; have c0 : w1.cell? ⟨w.heap.size, 0, none⟩ = some (.int .i64 1) := hA.cell 0; have c1 : w1.cell? ⟨w.heap.size, 1, none⟩ = some (.int .i64 g) := hA.cell 1; have c9 : w1.cell? ⟨w.heap.size, 9, none⟩ = some (.slice (some ⟨pb, po, none⟩) xs.length pc) := hA.cell 9; clear hA hk hs)
    | (go_at_call 34; refine (in_ok _ _ _ _ (by omega) (by omega)).mono ?_; rintro e w2 ⟨rfl, rfl⟩))
  clear c0 c1 c9
  go_loopg [34, 5] xs.length (fun gk i la wr => ∃ (k : Nat) (last : Int), k ≤ xs.length ∧ gk = xs.length - k ∧ i = .int .i64 k ∧ la = .int .i64 last ∧ (∀ j y, k ≤ j → xs[j]? = some y → last < y) ∧ wr = w1)
  case atStart =>
    refine ⟨0, -1, by omega, by omega, rfl, rfl, fun j y _ hy => ?_, rfl⟩
    have := (Hr.out y (List.mem_of_getElem? hy)).1; omega
  case round =>
    obtain ⟨k, last, hk, hgk, rfl, rfl, hlast, rfl⟩ := hrel
    have Hgk := Lib.hid hgk
    have Hlast := Lib.hid hlast
    clear hgk hlast
    by_cases hlt : k < xs.length
    · obtain ⟨y, hy⟩ : ∃ y, xs[k]? = some y := ⟨_, List.getElem?_eq_getElem hlt⟩
      have cy : wr.cell? ⟨pb, po + k, none⟩ = some (.int .i64 y) := Below.keepCell HB1.out (Hcell.out k y hy)
      have hy1 := Hlast.out k y (Nat.le_refl _) hy
      have hy2 := (Hr.out y (List.mem_of_getElem? hy)).2
      have d1 : decide (y ≤ last) = false := by simp; omega
      have d2 : decide ((65536 : Int) ≤ y) = false := by simp; omega
      have Hy := Lib.hid hy
      clear hy
      go_wp2
      go_roundg (xs.length - (k + 1))
      case measure => have := Hgk.out; omega
      case rel =>
        refine ⟨k + 1, y, by omega, rfl, by go_num, rfl, fun j z hj hz => ?_, rfl⟩
        obtain ⟨a1, a2⟩ := List.getElem?_eq_some_iff.1 Hy.out
        obtain ⟨b1, b2⟩ := List.getElem?_eq_some_iff.1 hz
        have := List.pairwise_iff_getElem.1 Hup.out k j a1 b1 (by omega)
        omega
    · obtain rfl : k = xs.length := by omega
      have c1 : wr.cell? ⟨w.heap.size, 1, none⟩ = some (.int .i64 g) := HA1.out.cell 1
      have c2 : wr.cell? ⟨w.heap.size, 2, none⟩ = some (.int .i64 xs.length) := HA1.out.cell 2
      have c3 : wr.cell? ⟨w.heap.size, 3, none⟩ = some (.int .i64 100000) := HA1.out.cell 3
      have c4 : wr.cell? ⟨w.heap.size, 4, none⟩ = some (.int .i64 100000) := HA1.out.cell 4
      have c5 : wr.cell? ⟨w.heap.size, 5, none⟩ = some (.int .i64 255) := HA1.out.cell 5
      have c6 : wr.cell? ⟨w.heap.size, 6, none⟩ = some (.int .i64 255) := HA1.out.cell 6
      have c7 : wr.cell? ⟨w.heap.size, 7, none⟩ = some (.int .i64 5) := HA1.out.cell 7
      have c8 : wr.cell? ⟨w.heap.size, 8, none⟩ = some (.int .i64 200) := HA1.out.cell 8
      have c9 : wr.cell? ⟨w.heap.size, 9, none⟩ = some (.slice (some ⟨pb, po, none⟩) xs.length pc) := HA1.out.cell 9
      go_wp2_with (first
        | (go_at_call 15; refine (checkLimit_ok xs.length _ (by omega) (by omega)).mono ?_; rintro e w3 ⟨rfl, hb3⟩; have HB3 := Lib.hid hb3; have c9' : w3.cell? ⟨w.heap.size, 9, none⟩ = some (.slice (some ⟨pb, po, none⟩) xs.length pc) := Below.keepCell hb3 c9; have c2' : w3.cell? ⟨w.heap.size, 2, none⟩ = some (.int .i64 xs.length) := Below.keepCell hb3 c2; clear hb3))
      go_ret
      exact ⟨rfl, HB1.out.trans (HB3.out.mono HB1.out.size)⟩
end Go.Proofs.YtnndkfhpifgaiaaGreat
namespace Go.Proofs.YtnndkfhpifgaiaaGreat
open Go.RowKit

theorem thouse_ok (h : HV) (n N : Nat) (w : World) (hO : h.Ok n) (hn : n ≤ 65536) (hI : IntsAt w h.sv h.segs N) (hN : N ≤ w.heap.size) : Calls Tryz.prog 124 #[.int .i64 65536, .agg h.arr] w (Ans (.bool true) w) := by
  rcases hO with hO | hO
  · rw [hO.arr_eq]
    exact thouse_none _ _ hO.2.1.1 hO.2.1.2
  · rw [hO.arr_eq]
    exact thouse_lives h.gen h.sv h.segs N w hI hN hO.gen.1 hO.gen.2 hO.len.1 hO.len.2 hO.up (fun x hx => ⟨(hO.rng x hx).1, by have := (hO.rng x hx).2; omega⟩)

/-- A table that may be: each house, no segment twice. -/
structure TOk (T : List HV) (n : Nat) : Prop where
  len : T.length = 16
  each : ∀ h ∈ T, h.Ok n
  once : (allSegs T).Nodup
  lt : n ≤ 137

theorem nodup_at {T : List HV} {k j : Nat} {h : HV} {y : Int} (hn : (allSegs T).Nodup) (hk : T[k]? = some h) (hy : h.segs[j]? = some y) : y ∉ allSegs (T.take k) ++ h.segs.take j := by
  have e1 : T = T.take k ++ h :: T.drop (k + 1) := by
    obtain ⟨a, b⟩ := List.getElem?_eq_some_iff.1 hk
    rw [← b]; simp
  have e2 : h.segs = h.segs.take j ++ y :: h.segs.drop (j + 1) := by
    obtain ⟨a, b⟩ := List.getElem?_eq_some_iff.1 hy
    rw [← b]; simp
  have e3 : allSegs T = allSegs (T.take k) ++ (h.segs.take j ++ y :: (h.segs.drop (j + 1) ++ allSegs (T.drop (k + 1)))) := by
    conv => lhs; rw [e1]
    simp only [allSegs, List.flatMap_append, List.flatMap_cons]
    conv => lhs; rw [e2]
    simp
  rw [e3, ← List.append_assoc] at hn
  have := (List.nodup_append.1 hn).2.2
  intro hy2
  exact this y hy2 y (by simp) rfl

set_option maxRecDepth 100000 in
set_option maxHeartbeats 2000000 in
theorem tcheck_ok (b n : Nat) (T : List HV) (N : Nat) (w : World) (h : TableAt w b T N) (hN : N ≤ w.heap.size) (hT : TOk T n) :
    Calls Tryz.prog 79 #[.int .i64 65536, .slice (some ⟨b, 0, none⟩) 16 16] w (Ans (.bool true) w) := by
  have hu40 := Tryz.underlying40
  have HT := Lib.hid h
  have HO := Lib.hid hT
  have H16 := Lib.hid hT.len
  clear h hT
  go_enter Tryz.func79, Tryz.ntmps79
  go_wp2_with (first
    | (refine wpList_makeMapAt rfl 88 rfl ?_; intro w1 hm hk hs; have HM1 := Lib.hid hm; have HB1 := Lib.hid hk.below; clear hm hk hs))
  go_loopg [16] 16 (fun gk i wr => ∃ (k : Nat) (M : List (Int × Value)), k ≤ 16 ∧ gk = 16 - k ∧ i = .int .i64 k ∧ IMap wr w.heap.size M ∧ SetL M (allSegs (T.take k)) ∧ Below w.heap.size w wr)
  case atStart => exact ⟨0, [], by omega, by omega, rfl, HM1.out, SetL.nil, HB1.out⟩
  case round =>
    obtain ⟨k, M, hk, hgk, rfl, hM, hS, hb⟩ := hrel
    have Hgk := Lib.hid hgk
    have HM := Lib.hid hM
    have HS := Lib.hid hS
    have HB := Lib.hid hb
    clear hgk hM hS hb
    by_cases hlt : k < 16
    · obtain ⟨x, hx⟩ : ∃ x, T[k]? = some x := ⟨_, List.getElem?_eq_getElem (by rw [H16.out]; exact hlt)⟩
      have Hx := Lib.hid hx
      clear hx
      obtain ⟨pp, cc, hsv, hcc, hor⟩ := HT.out.ints x (List.mem_of_getElem? Hx.out)
      have Hsv := Lib.hid hsv
      have hlx : x.segs.length ≤ 1000 := (HT.out.one x (List.mem_of_getElem? Hx.out)).2
      clear hsv hor
      have hi40 := Lib.hid (size40 x)
      go_wp2_with (first
        | (refine wpList_loadIn rfl 40 _ rfl b (k * 10) rfl 40 _ (HT.out.below hN HB.out).cells x.cells (HT.out.row Hx.out) _ rfl hu40 (size40l x) ?_)
        | (refine wpList_allocAt rfl 40 rfl zHouse zero40 ?_; intro w2 hz hk2 hs2; have HZ2 := Lib.hid hz; have HK2 := Lib.hid hk2; have Hs2 := Lib.hid hs2; clear hz hk2 hs2)
        | (refine wpList_storeRow rfl 40 _ _ rfl rfl wr.heap.size x.arr zHouse _ rfl rfl HZ2.out rfl (size40 x) (HV.arr_one ((HT.out.one x (List.mem_of_getElem? Hx.out)).1)) ?_; intro w3 hA hk3 hs3; have HA3 := Lib.hid hA
           have HB3 := Lib.hid (HK2.out.below.trans (hk3.belowOf (by have := Hs2.out; omega) (by intro b hb e; omega))); clear hA hk3 hs3)
        | (refine wpList_load_row rfl 40 _ rfl wr.heap.size rfl 40 x.arr (0, 0) _ HA3.out hu40 rfl hi40.out ?_)
        | (go_at_call 124; refine (thouse_ok x n N _ (HO.out.each x (List.mem_of_getElem? Hx.out)) (by have := HO.out.lt; omega) ((HT.out.below hN (HB.out.trans (HB3.out.mono HB.out.size))).ints x (List.mem_of_getElem? Hx.out)) (by have := HB.out.size; have := HB3.out.size; omega)).mono ?_; rintro e w4 ⟨rfl, hb4⟩; have HB4 := Lib.hid (HB3.out.trans (hb4.mono HB3.out.size)); have c9 : w4.cell? ⟨wr.heap.size, 9, none⟩ = some (.slice pp x.segs.length cc) := by (rw [← Hsv.out]; exact Below.keepCell hb4 (HA3.out.cell 9))
           clear hb4))
      have hlb2 : x.segs.length < 9223372036854775807 := by omega
      have HM4 := Lib.hid (HM.out.below HB4.out HM.out.lt)
      have HBw4 := Lib.hid (HB.out.trans (HB4.out.mono HB.out.size))
      clear c9 HZ2 HK2 Hs2 HA3 HB3
      go_loopg [27] x.segs.length (fun gj i wj => ∃ (j : Nat) (M2 : List (Int × Value)), j ≤ x.segs.length ∧ gj = x.segs.length - j ∧ i = .int .i64 j ∧ IMap wj w.heap.size M2 ∧ SetL M2 (allSegs (T.take k) ++ x.segs.take j) ∧ Below w.heap.size w wj)
      case atStart => exact ⟨0, M, by omega, by omega, rfl, HM4.out, by simpa using HS.out, HBw4.out⟩
      case round =>
        obtain ⟨j, M2, hj, hgj, rfl, hM2, hS2, hb2⟩ := hrel
        have Hgj := Lib.hid hgj
        have HM2 := Lib.hid hM2
        have HS2 := Lib.hid hS2
        have HB2 := Lib.hid hb2
        clear hgj hM2 hS2 hb2
        by_cases hlt2 : j < x.segs.length
        · obtain ⟨y, hy⟩ : ∃ y, x.segs[j]? = some y := ⟨_, List.getElem?_eq_getElem hlt2⟩
          obtain ⟨pb, po, pc, hpb, hpv, hpc, hcell⟩ := (HT.out.ints x (List.mem_of_getElem? Hx.out)).cells (by intro e; rw [e] at hlt2; simp at hlt2)
          rw [Hsv.out] at hpv
          simp only [Value.slice.injEq] at hpv
          obtain ⟨rfl, _, rfl⟩ := hpv
          have cy : wr.cell? ⟨pb, po + j, none⟩ = some (.int .i64 y) := Below.keepCell HB2.out (hcell j y hy)
          have Hy := Lib.hid hy
          have hlk : lookL M2 y = none := by rw [HS2.out y, if_neg (nodup_at HO.out.once Hx.out hy)]
          have Hlk := Lib.hid hlk
          clear hy hcell hpb hpc hlk
          go_wp2_with (first
            | (refine wpList_look rfl _ _ 88 false rfl 3 4 .i64 Tryz.underlying88 Tryz.underlying3 (.bool false) zeroBoolP w.heap.size M2 rfl HM2.out y rfl (.bool false) (by rw [Hlk.out]; rfl) ?_)
            | (refine wpList_putM rfl _ _ _ 88 rfl 3 4 .i64 Tryz.underlying88 Tryz.underlying3 w.heap.size M2 rfl HM2.out y rfl (.bool true) rfl ?_; intro w5 hm5 hk5 hs5))
          go_roundg (x.segs.length - (j + 1))
          case measure => have := Hgj.out; omega
          case rel =>
            refine ⟨j + 1, _, by omega, rfl, by go_num, hm5, ?_, HB2.out.trans (hk5.belowOf HB2.out.size (by omega))⟩
            rw [List.take_add_one, Hy.out, Option.toList_some, ← List.append_assoc]
            exact HS2.out.put y
        · obtain rfl : j = x.segs.length := by omega
          go_wp2
          go_roundg (16 - (k + 1))
          case measure => have := Hgk.out; omega
          case rel =>
            refine ⟨k + 1, M2, by omega, rfl, by go_num, HM2.out, ?_, HB2.out⟩
            rw [allSegs_take T k x Hx.out]
            simpa using HS2.out
    · obtain rfl : k = 16 := by omega
      go_wp2
      go_ret
      exact ⟨rfl, HB.out⟩
end Go.Proofs.YtnndkfhpifgaiaaGreat
