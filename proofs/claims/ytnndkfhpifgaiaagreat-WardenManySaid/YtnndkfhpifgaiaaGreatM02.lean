/-
  Memory, block by block: what a block holds, which blocks a call may have turned.
-/
import Derived.Test.YtnndkfhpifgaiaaGreatProg
import Derived.WalkKit
import Derived.WalkSpells
import Derived.WalkLawsBesides
import Derived.Lib.Hide
import Derived.Deep.MidRow
set_option linter.unusedVariables false
set_option linter.unusedSimpArgs false
namespace Go.Proofs.YtnndkfhpifgaiaaGreat
open Go.RowKit

/-- Block b of w holds exactly these cells, and none is frozen. -/
def At (w : World) (b : Nat) (cs : Array Value) (T : TypeId) : Prop := w.heap[b]? = some (.cells cs T (0, 0))

/-- Block b of w is a map of these entries. -/
def MapAt (w : World) (b : Nat) (es : Array MapEntry) (clk : Nat) : Prop := w.heap[b]? = some (.map es clk)

section
variable {w w' : World} {b : Nat} {cs : Array Value} {T : TypeId} {es : Array MapEntry} {clk : Nat}

theorem At.cell (h : At w b cs T) : ∀ o, w.cell? ⟨b, o, none⟩ = cs[o]? := fun o => cell_of_row w b o cs T (0, 0) h
theorem At.free (h : At w b cs T) : ∀ o, w.frozen? ⟨b, o, none⟩ = false := fun o => frozen_of_row w b o cs T h
theorem At.lt (h : At w b cs T) : b < w.heap.size := (Array.getElem?_eq_some_iff.1 h).1
theorem MapAt.lt (h : MapAt w b es clk) : b < w.heap.size := (Array.getElem?_eq_some_iff.1 h).1
theorem At.heap (h : At w b cs T) : w.heap[b]? = some (.cells cs T (0, 0)) := h
theorem MapAt.heap (h : MapAt w b es clk) : w.heap[b]? = some (.map es clk) := h
theorem At.uniq {cs' : Array Value} {T' : TypeId} (h : At w b cs T) (h' : At w b cs' T') : cs = cs' ∧ T = T' := by
  have := h.symm.trans h'; simpa using this

theorem At.set (h : At w b cs T) (o : Nat) (v : Value) : At (w.setCell ⟨b, o, none⟩ v) b (cs.setIfInBounds o v) T := heap_setCell_same w b o cs T v h
theorem At.setOther (h : At w b cs T) {a : Addr} (hne : b ≠ a.block) (v : Value) : At (w.setCell a v) b cs T := (heap_setCell_other w a b v hne).trans h
theorem At.alloc (h : At w b cs T) (o : Obj) : At (w.alloc o) b cs T := (heap_alloc_old w o h.lt).trans h
theorem At.drew (h : At w b cs T) : At w.drew b cs T := h
theorem At.new (w : World) (cs : Array Value) (T : TypeId) : At (w.alloc (.cells cs T)) w.heap.size cs T := heap_alloc_new w _
theorem MapAt.new (w : World) (es : Array MapEntry) (clk : Nat) : MapAt (w.alloc (.map es clk)) w.heap.size es clk := heap_alloc_new w _
theorem MapAt.alloc (h : MapAt w b es clk) (o : Obj) : MapAt (w.alloc o) b es clk := (heap_alloc_old w o h.lt).trans h
theorem MapAt.drew (h : MapAt w b es clk) : MapAt w.drew b es clk := h
theorem MapAt.setCell (h : MapAt w b es clk) (a : Addr) (v : Value) (hne : b ≠ a.block) : MapAt (w.setCell a v) b es clk := (heap_setCell_other w a b v hne).trans h
end

/-- From w to w' nothing has turned of what was there but blocks of F. -/
structure Keep (F : Nat → Prop) (w w' : World) : Prop where
  os : w'.os = w.os
  tape : w'.tape = w.tape
  output : w'.output = w.output
  size : w.heap.size ≤ w'.heap.size
  block : ∀ k, k < w.heap.size → ¬ F k → w'.heap[k]? = w.heap[k]?

section
variable {F G : Nat → Prop} {w w1 w2 : World}

theorem Keep.refl (F : Nat → Prop) (w : World) : Keep F w w := ⟨rfl, rfl, rfl, Nat.le_refl _, fun _ _ _ => rfl⟩
theorem Keep.trans (h : Keep F w w1) (k : Keep G w1 w2) (hG : ∀ b, b < w.heap.size → G b → F b) : Keep F w w2 :=
  ⟨k.os.trans h.os, k.tape.trans h.tape, k.output.trans h.output, Nat.le_trans h.size k.size,
   fun b hb hF => (k.block b (Nat.lt_of_lt_of_le hb h.size) fun hg => hF (hG b hb hg)).trans (h.block b hb hF)⟩
theorem Keep.mono (h : Keep F w w1) (hG : ∀ b, b < w.heap.size → F b → G b) : Keep G w w1 :=
  ⟨h.os, h.tape, h.output, h.size, fun b hb hF => h.block b hb fun hf => hF (hG b hb hf)⟩
theorem Keep.of_below (h : Below w.heap.size w w1) (F : Nat → Prop) : Keep F w w1 := ⟨h.os, h.tape, h.output, h.size, fun b hb _ => h.block b hb⟩
theorem Keep.below (h : Keep (fun _ => False) w w1) : Below w.heap.size w w1 := ⟨h.os, h.tape, h.output, h.size, fun b hb => h.block b hb id⟩
theorem Keep.belowOf {B : Nat} (h : Keep F w w1) (hB : B ≤ w.heap.size) (hF : ∀ b, b < B → ¬ F b) : Below B w w1 :=
  ⟨h.os, h.tape, h.output, h.size, fun b hb => h.block b (by omega) (hF b hb)⟩
theorem Keep.alloc (h : Keep F w w1) (o : Obj) : Keep F w (w1.alloc o) :=
  ⟨h.os, h.tape, h.output, by have := h.size; simp; omega, fun b hb hF => (heap_alloc_old w1 o (Nat.lt_of_lt_of_le hb h.size)).trans (h.block b hb hF)⟩
theorem Keep.drew (h : Keep F w w1) : Keep F w w1.drew := ⟨h.os, h.tape, h.output, h.size, h.block⟩
theorem Keep.ofDrew (h : Keep F w.drew w1) : Keep F w w1 := ⟨h.os, h.tape, h.output, h.size, h.block⟩
theorem Keep.setCell (h : Keep F w w1) {a : Addr} (ha : F a.block ∨ w.heap.size ≤ a.block) (v : Value) : Keep F w (w1.setCell a v) :=
  ⟨h.os, h.tape, h.output, by have := h.size; simpa using this, fun b hb hF =>
    (heap_setCell_other w1 a b v (fun e => by subst e; rcases ha with ha | ha; exact hF ha; omega)).trans (h.block b hb hF)⟩
theorem Keep.setRow (h : Keep F w w1) {g : Nat} (ha : F g ∨ w.heap.size ≤ g) (cs : Array Value) : Keep F w (w1.setRow g cs) :=
  ⟨h.os, h.tape, h.output, by have := h.size; simpa using this, fun b hb hF =>
    (setRow_other w1 g b cs (fun e => by subst e; rcases ha with ha | ha; exact hF ha; omega)).trans (h.block b hb hF)⟩
theorem Keep.grown (h : Keep F w w1) {row : Option Nat} (hg : w1.grownBy w2 row) (hr : ∀ k, row = some k → F k ∨ w.heap.size ≤ k) : Keep F w w2 :=
  ⟨hg.os.trans h.os, hg.tape.trans h.tape, hg.output.trans h.output, Nat.le_trans h.size hg.size, fun b hb hF =>
    (hg.block b (Nat.lt_of_lt_of_le hb h.size) (fun e => by rcases hr b e.symm with ha | ha; exact hF ha; omega)).trans (h.block b hb hF)⟩
theorem Keep.at {b : Nat} {cs : Array Value} {T : TypeId} (h : Keep F w w1) (ha : At w b cs T) (hF : ¬ F b) : At w1 b cs T := (h.block b ha.lt hF).trans ha
theorem Keep.mapAt {b : Nat} {es : Array MapEntry} {clk : Nat} (h : Keep F w w1) (ha : MapAt w b es clk) (hF : ¬ F b) : MapAt w1 b es clk := (h.block b ha.lt hF).trans ha
theorem Keep.ownsRow {base e size n : Nat} {v : Value} {xs : List Value} (h : Keep F w w1) (ho : w.ownsRow base e size v n xs) (hF : ∀ k, v.ownBlock = some k → ¬ F k) : w1.ownsRow base e size v n xs := by
  refine ⟨ho.1, ?_⟩
  rcases ho.2 with hn | ⟨g, cap, cur, rfl, hb, hgg, rest⟩
  · exact .inl hn
  · refine .inr ⟨g, cap, cur, rfl, hb, ?_, rest⟩
    rw [h.block g (Array.getElem?_eq_some_iff.1 hgg).1 (hF g rfl)]; exact hgg
end

/-- Below by the block's own words. -/
theorem Below.at {w w' : World} {B b : Nat} {cs : Array Value} {T : TypeId} (h : Below B w w') (ha : At w b cs T) (hb : b < B) : At w' b cs T := (h.block b hb).trans ha
theorem Below.mapAt {w w' : World} {B b : Nat} {es : Array MapEntry} {clk : Nat} (h : Below B w w') (ha : MapAt w b es clk) (hb : b < B) : MapAt w' b es clk := (h.block b hb).trans ha

/-- What stood below reads as it read: two rules for the walk. -/
theorem bcell {W w1 : World} (hb : Below W.heap.size W w1) : (∀ b o, b < W.heap.size → w1.cell? ⟨b, o, none⟩ = W.cell? ⟨b, o, none⟩) ∧ (∀ b o, b < W.heap.size → w1.frozen? ⟨b, o, none⟩ = W.frozen? ⟨b, o, none⟩) ∧ W.heap.size ≤ w1.heap.size :=
  ⟨fun b o h => hb.cell (p := ⟨b, o, none⟩) h, fun b o h => hb.frozen (p := ⟨b, o, none⟩) h, hb.size⟩
theorem kcell {F : Nat → Prop} {W w1 : World} (hb : Keep F W w1) : (∀ b o, b < W.heap.size → ¬ F b → w1.cell? ⟨b, o, none⟩ = W.cell? ⟨b, o, none⟩) ∧ (∀ b o, b < W.heap.size → ¬ F b → w1.frozen? ⟨b, o, none⟩ = W.frozen? ⟨b, o, none⟩) ∧ W.heap.size ≤ w1.heap.size :=
  ⟨fun b o h hF => World.cell?_of_block (a := ⟨b, o, none⟩) (hb.block b h hF), fun b o h hF => World.frozen?_of_block (a := ⟨b, o, none⟩) (hb.block b h hF), hb.size⟩

theorem cell_lt {w : World} {b o : Nat} {v : Value} (h : w.cell? ⟨b, o, none⟩ = some v) : b < w.heap.size := by
  rcases Nat.lt_or_ge b w.heap.size with h1 | h1
  · exact h1
  · simp [World.cell?, Array.getElem?_eq_none h1] at h
/-- A cell that stood before reads as it read. -/
theorem Below.keepCell {w w' : World} {b o : Nat} {v : Value} (hb : Below w.heap.size w w') (h : w.cell? ⟨b, o, none⟩ = some v) : w'.cell? ⟨b, o, none⟩ = some v :=
  ((bcell hb).1 b o (cell_lt h)).trans h
theorem Keep.keepCell {F : Nat → Prop} {w w' : World} {b o : Nat} {v : Value} (hb : Keep F w w') (hF : ¬ F b) (h : w.cell? ⟨b, o, none⟩ = some v) : w'.cell? ⟨b, o, none⟩ = some v :=
  ((kcell hb).1 b o (cell_lt h) hF).trans h

/-- A range of a block that is known whole. -/
theorem At.range {w : World} {b : Nat} {cs : Array Value} {T : TypeId} (h : At w b cs T) (o n : Nat) : w.rangeAt b o ((cs.toList.drop o).take n) := by
  intro j v hv
  rw [h.cell (o + j)]
  rw [List.getElem?_take] at hv
  split at hv
  · rw [List.getElem?_drop] at hv; simpa using hv
  · cases hv
theorem At.there {w : World} {b : Nat} {cs : Array Value} {T : TypeId} (h : At w b cs T) (o n : Nat) (hn : o + n ≤ cs.size) : w.there b o n := by
  intro j hj
  refine ⟨?_, h.free _⟩
  rw [h.cell]
  simp only [Array.getElem?_eq_getElem (show o + j < cs.size by omega), Option.isSome_some]

theorem ret_int {k : IntKind} {a b : Int} (h : a = b) : Ending.returned (.int k a) = .returned (.int k b) := by rw [h]

/-- A byte's cell. -/
def IsB (v : Value) : Prop := ∃ n : UInt8, v = .int .u8 n.toNat

/-- Bytes as cells. -/
def bcells (bs : List UInt8) : List Value := bs.map fun b => .int .u8 b.toNat
theorem bcells_length (bs : List UInt8) : (bcells bs).length = bs.length := List.length_map ..
theorem bcells_one (bs : List UInt8) : ∀ v ∈ bcells bs, v.oneCell' = true := by intro v hv; obtain ⟨b, _, rfl⟩ := List.mem_map.1 hv; rfl
theorem bcells_isB (bs : List UInt8) : ∀ v ∈ bcells bs, IsB v := by intro v hv; obtain ⟨b, _, rfl⟩ := List.mem_map.1 hv; exact ⟨b, rfl⟩

theorem isB_list : ∀ {l : List Value}, (∀ v ∈ l, IsB v) → ∃ bs, l = bcells bs
  | [], _ => ⟨[], rfl⟩
  | v :: r, h => by
    obtain ⟨b, rfl⟩ := h v (by simp)
    obtain ⟨bs, rfl⟩ := isB_list (l := r) (fun u hu => h u (by simp [hu]))
    exact ⟨b :: bs, rfl⟩

end Go.Proofs.YtnndkfhpifgaiaaGreat
