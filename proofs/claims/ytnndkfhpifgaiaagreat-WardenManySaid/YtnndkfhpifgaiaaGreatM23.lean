/-
  imap: a map of sectors, weak: some numbers; which block a part is: some 256 bytes.
-/
import Derived.Test.YtnndkfhpifgaiaaGreatM22
import Derived.Test.YtnndkfhpifgaiaaGreatM18
import Derived.Deep.LoopGhost
set_option linter.unusedVariables false
set_option linter.unusedSimpArgs false
namespace Go.Proofs.YtnndkfhpifgaiaaGreat
open Go.RowKit

def icells (xs : List Int) : List Value := xs.map (Value.int .i64)

/-- Block b is a map of 256 sectors. -/
def MapI (w : World) (b : Nat) : Prop := ∃ xs : List Int, xs.length = 256 ∧ At w b (icells xs).toArray 213
theorem MapI.keep {F : Nat → Prop} {w w' : World} {b : Nat} (h : MapI w b) (hk : Keep F w w') (hF : ¬ F b) : MapI w' b := by
  obtain ⟨xs, h1, h2⟩ := h; exact ⟨xs, h1, hk.at h2 hF⟩
theorem MapI.below {w w' : World} {b : Nat} (h : MapI w b) (hk : Below w.heap.size w w') : MapI w' b := by
  obtain ⟨xs, h1, h2⟩ := h; exact ⟨xs, h1, Below.at hk h2 h2.lt⟩
theorem MapI.lt {w : World} {b : Nat} (h : MapI w b) : b < w.heap.size := by
  obtain ⟨xs, h1, h2⟩ := h; exact h2.lt

theorem built213 : Tryz.prog.built 213 [] = some (icells (List.replicate 256 0)).toArray := by kernel_rfl

set_option maxRecDepth 100000 in
theorem inew_ok (w : World) : Calls Tryz.prog 71 #[] w fun e w' => e = .returned (.pointer (some ⟨w.heap.size, 0, none⟩)) ∧ MapI w' w.heap.size ∧ Below w.heap.size w w' := by
  go_enter Tryz.func71, Tryz.ntmps71
  go_wp2_with (first
    | (refine wpList_buildTo rfl 213 _ rfl _ rfl (icells (List.replicate 256 0)).toArray built213 ?_)
    | (refine wpList_boxAt rfl 213 _ rfl (icells (List.replicate 256 0)).toArray rfl ?_; intro w1 hA1 hk1 hs1))
  go_ret
  exact ⟨rfl, ⟨_, List.length_replicate, hA1⟩, hk1.below⟩

theorem inone_no (n : Int) (w : World) (h0 : 1 ≤ n) (h1 : n ≤ 255) : Calls Tryz.prog 116 #[.int .i64 n] w fun e w' => e = .returned (.bool false) ∧ w = w' := by
  have e0 : decide (n < 1) = false := by simp; omega
  have e1 : decide (255 < n) = false := by simp; omega
  go_enter Tryz.func116, Tryz.ntmps116
  go_wp2
  go_ret
  exact ⟨rfl, rfl⟩

theorem icells_set (xs : List Int) (i : Nat) (v : Int) : (icells xs).toArray.setIfInBounds i (.int .i64 v) = (icells (xs.set i v)).toArray := by
  simp [icells, List.map_set]

set_option maxHeartbeats 400000 in
theorem iset_ok (b : Nat) (n s : Int) (w : World) (hA : MapI w b) (h0 : 1 ≤ n) (h1 : n ≤ 255) (hs0 : 0 ≤ s) (hs1 : s < 16384) :
    Calls Tryz.prog 72 #[.pointer (some ⟨b, 0, none⟩), .int .i64 n, .int .i64 s] w fun e w' => e = .returned (.bool true) ∧ MapI w' b ∧ Keep (· = b) w w' := by
  obtain ⟨xs, hl, hA⟩ := hA
  have e0 : decide (s < 0) = false := by simp; omega
  have e1 : decide (16384 ≤ s) = false := by simp; omega
  have b0 : (0 : Int) ≤ n := by omega
  have b1 : n < 256 := by omega
  have hsz : n.toNat < (icells xs).toArray.size := by simp [icells, hl]; omega
  have HA := Lib.hid hA
  have Hl := Lib.hid hl
  clear hl hA
  go_enter Tryz.func72, Tryz.ntmps72
  go_wp2_with (first
    | (go_at_call 116; refine (inone_no _ _ h0 h1).mono ?_; rintro e w' ⟨rfl, rfl⟩)
    | (refine wpList_storeCell rfl 3 _ _ rfl rfl b n.toNat (.int .i64 s) (icells xs).toArray 213 rfl rfl HA.out hsz size3 rfl rfl ?_; intro w1 hA1 hk1 hs1))
  go_ret
  exact ⟨rfl, ⟨xs.set n.toNat s, by simp [Hl.out], by rw [← icells_set]; exact hA1⟩, hk1⟩

def z64 : Array Value := (icells (List.replicate 64 0)).toArray
theorem zero214 : (Tryz.prog.info? 214).bind (·.zero) = some (.agg z64) := by kernel_rfl
theorem size214 : (Tryz.prog.info? 214).map (·.size) = some 64 := by kernel_rfl
theorem icells_one (xs : List Int) : ∀ v ∈ icells xs, v.oneCell' = true := by intro v hv; obtain ⟨x, _, rfl⟩ := List.mem_map.1 hv; rfl
theorem icells_length (xs : List Int) : (icells xs).length = xs.length := List.length_map ..

/-- A part of the map, as a value: 64 numbers. -/
def Piece (w : World) (e : Ending) (w' : World) : Prop := ∃ xs : List Int, xs.length = 64 ∧ e = .returned (.agg (icells xs).toArray) ∧ Below w.heap.size w w'

theorem slice211 (b p : Nat) (h : p ≤ 3) (w : World) : (Instr.sliceAt 211 (.pointer (some ⟨b, 0, none⟩)) (some (.int .i64 ((p : Int) * 64))) (some (.int .i64 (((p : Int) + 1) * 64))) none).run Tryz.prog w = .ok (.slice (some ⟨b, p * 64, none⟩) 64 (256 - p * 64)) w := by
  obtain rfl | rfl | rfl | rfl : p = 0 ∨ p = 1 ∨ p = 2 ∨ p = 3 := by omega
  · kernel_rfl
  · kernel_rfl
  · kernel_rfl
  · kernel_rfl
theorem arrp214 (b o c : Nat) (w : World) : (Instr.arrayAt 214 (.slice (some ⟨b, o, none⟩) 64 c)).run Tryz.prog w = .ok (.pointer (some ⟨b, o, none⟩)) w := by kernel_rfl
theorem one214 (xs : List Int) : (icells xs).toArray.all (·.oneCell') = true := all_oneCell_toArray (icells_one xs)

set_option maxRecDepth 100000 in
set_option maxHeartbeats 400000 in
theorem piece_ok (b p : Nat) (w : World) (hA : MapI w b) (h1 : p ≤ 3) : Calls Tryz.prog 117 #[.pointer (some ⟨b, 0, none⟩), .int .i64 p] w (Piece w) := by
  obtain ⟨xs, hl, hA⟩ := hA
  have hu := Tryz.underlying214
  have hw1 : IntKind.i64.wrap ((p : Int) * 64) = p * 64 := by rw [IntKind.wrap_i64]; omega
  have hw2 : IntKind.i64.wrap ((p : Int) + 1) = p + 1 := by rw [IntKind.wrap_i64]; omega
  have hw3 : IntKind.i64.wrap (((p : Int) + 1) * 64) = (p + 1) * 64 := by rw [IntKind.wrap_i64]; omega
  have hsl := slice211 b p h1
  have har := arrp214 b (p * 64) (256 - p * 64)
  have hpl : ((xs.drop (p * 64)).take 64).length = 64 := by simp [hl]; omega
  have hpi : (Tryz.prog.info? 214).map (·.size) = some (icells ((xs.drop (p * 64)).take 64)).length := by rw [icells_length, hpl]; exact size214
  have hpi2 : (Tryz.prog.info? 214).map (·.size) = some (icells ((xs.drop (p * 64)).take 64)).toArray.size := by simpa using hpi
  have hpp : ((icells xs).toArray.toList.drop (p * 64)).take (icells ((xs.drop (p * 64)).take 64)).length = icells ((xs.drop (p * 64)).take 64) := by
    rw [icells_length, hpl]; simp [icells, List.map_take, List.map_drop]
  have hzs : z64.size = (icells ((xs.drop (p * 64)).take 64)).toArray.size := by
    have : z64.size = 64 := by simp [z64, icells]
    rw [this, List.size_toArray, icells_length, hpl]
  have HA := Lib.hid hA
  have Hpl := Lib.hid hpl
  have Hpi := Lib.hid hpi
  have Hpi2 := Lib.hid hpi2
  have Hpp := Lib.hid hpp
  have Hzs := Lib.hid hzs
  clear hl hA hpl hpi hpi2 hpp hzs
  go_enter Tryz.func117, Tryz.ntmps117
  go_wp2_with (first
    | (refine wpList_allocAt rfl 214 rfl z64 zero214 ?_; intro w1 hz1 hk1 hs1; have HA1 := Lib.hid (hk1.at HA.out id); have HZ := Lib.hid hz1; clear hz1)
    | (refine wpList_loadIn rfl 214 _ rfl b (p * 64) rfl 213 (icells xs).toArray HA1.out (icells ((xs.drop (p * 64)).take 64)) Hpp.out _ rfl hu Hpi.out ?_)
    | (refine wpList_storeRow rfl 214 _ _ rfl rfl w.heap.size (icells ((xs.drop (p * 64)).take 64)).toArray z64 _ rfl rfl HZ.out Hzs.out Hpi2.out (one214 _) ?_; intro w2 hA2 hk2 hs2))
  refine bodyPost_ret (v := .agg (icells ((xs.drop (p * 64)).take 64)).toArray) (results_cell1 Tryz.results117 _ _ w.heap.size _ _ _ rfl hA2 hu rfl Hpi2.out) rfl ⟨_, Hpl.out, rfl, ?_⟩
  exact (hk1.trans (G := (· = w.heap.size)) hk2 (fun b hb e => by subst e; omega)).below

theorem index214 (xs : List Int) (h : xs.length = 64) (k : Nat) (hk : k < 64) : ∃ x, ∀ w : World, (Instr.index 214 (.agg (icells xs).toArray) (.int .i64 k)).run Tryz.prog w = .ok (.int .i64 x) w := by
  refine ⟨xs[k]'(by omega), fun w => ?_⟩
  have hk' : k < (icells xs).toArray.size := by simp [icells]; omega
  have hv' : (icells xs).toArray[k] = .int .i64 (xs[k]'(by omega)) := by simp [icells]
  cases hq : Tryz.prog.info? 3 with
  | none => have := size3; simp [hq] at this
  | some i =>
    have hi : i.size = 1 := by have := size3; simpa [hq] using this
    simp [Instr.index, asIntOf, run_underlying Tryz.underlying214, run_underlying Tryz.underlying3, part, isAgg, Go.sizeOf, typeInfo, hq, hi]
    rw [if_pos hk]
    have : (icells xs)[k]? = some (.int .i64 (xs[k]'(by omega))) := by simp [icells, List.getElem?_eq_getElem (show k < xs.length by omega)]
    rw [this]; rfl

set_option maxRecDepth 100000 in
set_option maxHeartbeats 1000000 in
theorem iput_ok (b p : Nat) (w : World) (hA : MapI w b) (h1 : p ≤ 3) : Calls Tryz.prog 74 #[.pointer (some ⟨b, 0, none⟩), .int .i64 p] w (Str 256 w) := by
  have e0 : decide ((p : Int) < 0) = false := by simp
  have e1 : decide ((4 : Int) ≤ p) = false := by simp; omega
  go_enter Tryz.func74, Tryz.ntmps74
  go_wp2_with (first
    | (refine wpList_makeBuf rfl 256 rfl (by decide) ?_; intro w1 hb1 hk1 hs1)
    | (go_at_call 117; refine (piece_ok b p _ (hA.keep hk1 id) h1).mono ?_; rintro e w2 ⟨xs, hxl, rfl, hb2⟩))
  have B2 : Below w.heap.size w w2 := hk1.below.trans (hb2.mono (by omega))
  have hbuf := hb1.below hb2
  clear hb1 hk1 hs1 hb2 hA e0 e1
  go_loopg [5, 18] 64 (fun gk v i wr => ∃ k : Nat, k ≤ 64 ∧ gk = 64 - k ∧ i = .int .i64 k ∧ BufAt wr w.heap.size v (2 * k) ∧ Below w.heap.size w wr)
  case atStart => exact ⟨0, by omega, by omega, rfl, hbuf, B2⟩
  case round =>
    clear hbuf B2
    obtain ⟨k, hk, hgk, rfl, hbuf, hbw⟩ := hrel
    have Hgk := Lib.hid hgk
    have hzw := hbw.size
    clear hgk
    by_cases hlt : k < 64
    · obtain ⟨x, hix⟩ := index214 xs hxl k hlt
      go_wp2_with (first
        | (go_at_call 80; (with_reducible refine (put2 _ _).mono ?_); rintro e w3 ⟨s3, hs3, rfl, hb3⟩)
        | (refine wpList_appendStr rfl _ _ rfl w.heap.size u5 (2 * k) rfl (hbuf.below hb3) s3 rfl (by omega) (by have := hb3.size; omega) ?_; intro v' w4 hb4 hgrow))
      go_roundg (64 - (k + 1))
      case measure => have := Hgk.out; omega
      case rel =>
        refine ⟨k + 1, by omega, rfl, by go_num, by have := hb4; rwa [hs3] at this, ?_⟩
        exact (hbw.trans (hb3.mono hzw)).grown hgrow (by have := hb3.size; omega) (fun j hj => (hbuf.lt j hj).1)
    · obtain rfl : k = 64 := by omega
      obtain ⟨p0, c0, rfl⟩ := hbuf.form
      go_wp2_with (first
        | (refine wpList_appendZ rfl _ _ rfl w.heap.size _ 128 rfl hbuf 128 rfl (by decide) hzw ?_; intro v' w4 hb4 hgrow; obtain ⟨b5, c5, bs5, rfl, hbl5, hr5⟩ := hb4.range (by decide))
        | (refine wpList_toStr rfl _ 119 9 rfl 5 Tryz.underlying119 Tryz.underlying5 Tryz.underlying9 b5 0 256 c5 bs5 rfl hbl5 hr5 ?_))
      go_ret
      exact ⟨_, (by show bs5.toArray.size = 256; simpa using hbl5), rfl, hbw.grown hgrow hzw (fun j hj => (hbuf.lt j hj).1)⟩
end Go.Proofs.YtnndkfhpifgaiaaGreat
