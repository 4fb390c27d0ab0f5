/-
  file.sorted of a map without entries.
-/
import Derived.Test.YtnndkfhpifgaiaaGreatM32
import Derived.RangeFuncNested
import Derived.RangeFuncBound
import Derived.RangeFuncCalls
import Derived.RangeFuncLeaves
import Derived.RangeFuncFrom
import Derived.Shelf.RegionOpen
import Derived.OwnWalkIn
import Derived.TacticsInMore
import Derived.LoopNIn
import Derived.LoopIn
set_option linter.unusedVariables false
set_option linter.unusedSimpArgs false
namespace Go.Proofs.YtnndkfhpifgaiaaGreat
open Go.RowKit

theorem insE (f : Value) (w : World) : Calls Tryz.prog 223 #[.slice none 0 0, .int .i64 0, .int .i64 0, f] w fun e w' => e = .returned (.tuple #[]) ∧ w' = w := by
  go_enter Tryz.func223, Tryz.ntmps223
  go_wp2
  refine wp_loop_rounds 1 ?_; rw [rounds_succ]
  go_wp2
  go_end0
  exact ⟨rfl, rfl⟩

theorem pdqE (f : Value) (n : Int) (w : World) : Calls Tryz.prog 216 #[.slice none 0 0, .int .i64 0, .int .i64 0, .int .i64 n, f] w fun e w' => e = .returned (.tuple #[]) ∧ w' = w := by
  go_enter Tryz.func216, Tryz.ntmps216
  go_wp2
  refine wp_loop_rounds 1 ?_; rw [rounds_succ]
  go_wp2_with (first
    | (go_at_call 223; refine (insE f _).mono ?_; rintro e w1 ⟨rfl, rfl⟩))
  refine bodyPost_ret (v := .tuple #[]) (by simp [results, Tryz.results216, go_sem]) rfl ⟨rfl, rfl⟩

theorem sortE (f : Value) (w : World) : Calls Tryz.prog 195 #[.slice none 0 0, f] w fun e w' => e = .returned (.tuple #[]) ∧ w' = w := by
  go_enter Tryz.func195, Tryz.ntmps195
  go_wp2_with (first
    | (go_at_call 152; refine (Tryz.bits_Len 0 _ (by decide) (by decide)).mono ?_; rintro e w1 ⟨rfl, rfl⟩)
    | (go_at_call 216; refine (pdqE f _ _).mono ?_; rintro e w1 ⟨rfl, rfl⟩))
  go_end0
  exact ⟨rfl, rfl⟩

/-- The iterator over a map without entries: it never calls yield. -/
theorem iterS (y : Value) (bm m : Nat) (w : World) (c : w.cell? ⟨bm, 0, none⟩ = some (.map (some m))) (hm : IMap w m []) : Calls Tryz.prog 196 #[y, .pointer (some ⟨bm, 0, none⟩)] w fun e w' => e = .returned (.tuple #[]) ∧ Keep (fun _ => False) w w' := by
  obtain ⟨clk, hb⟩ := hm.empty
  go_enter Tryz.func196, Tryz.ntmps196
  go_wp2_with (first
    | (refine wpList_rangeE rfl _ 85 rfl 170 9 Tryz.underlying85 m clk rfl hb ?_; intro w1 hit1 hk1 hs1; have HI1 := Lib.hid hit1; clear hit1))
  refine wp_loop_rounds 1 ?_; rw [rounds_succ]
  go_wp2_with (first
    | (refine wpList_nextDone rfl _ rfl w.heap.size m [] rfl HI1.out ?_))
  go_end0
  exact ⟨rfl, hk1⟩
theorem iterB (y : Value) (bm m : Nat) (w : World) (c : w.cell? ⟨bm, 0, none⟩ = some (.map (some m))) (hm : IMap w m []) : Calls Tryz.prog 197 #[y, .pointer (some ⟨bm, 0, none⟩)] w fun e w' => e = .returned (.tuple #[]) ∧ Keep (fun _ => False) w w' := by
  obtain ⟨clk, hb⟩ := hm.empty
  go_enter Tryz.func197, Tryz.ntmps197
  go_wp2_with (first
    | (refine wpList_rangeE rfl _ 86 rfl 170 4 Tryz.underlying86 m clk rfl hb ?_; intro w1 hit1 hk1 hs1; have HI1 := Lib.hid hit1; clear hit1))
  refine wp_loop_rounds 1 ?_; rw [rounds_succ]
  go_wp2_with (first
    | (refine wpList_nextDone rfl _ rfl w.heap.size m [] rfl HI1.out ?_))
  go_end0
  exact ⟨rfl, hk1⟩

/-- Iterators that give nothing. -/
def Nothing (g : Nat) (lb : Array Value) (w : World) : Prop := ∀ (n : Nat), SeqStopsK (α := Empty) Fence.wide n Tryz.prog g lb (fun x => x.elim) (fun _ _ => True) (fun _ => True) (fun _ => False) 0 w

theorem Keep.grownBy {w w' : World} (h : Keep (fun _ => False) w w') : w.grownBy w' none := ⟨h.os, h.tape, h.output, h.size, fun k hk _ => h.block k hk id⟩

theorem nothingS (bm m : Nat) (w : World) (c : w.cell? ⟨bm, 0, none⟩ = some (.map (some m))) (hm : IMap w m []) : Nothing 196 #[.pointer (some ⟨bm, 0, none⟩)] w := fun n l J Jx W hW hJ hJx hY h0 => by
  refine callsIn_wide.2 ((iterS _ bm m W (Below.keepCell hW c) (hm.below hW hm.lt)).mono ?_)
  rintro e W' ⟨rfl, hk⟩
  exact ⟨⟨_, rfl⟩, .inl ⟨[], trivial, hJ [] W W' none h0 (Keep.grownBy hk) (fun r e => by cases e)⟩⟩
theorem nothingB (bm m : Nat) (w : World) (c : w.cell? ⟨bm, 0, none⟩ = some (.map (some m))) (hm : IMap w m []) : Nothing 197 #[.pointer (some ⟨bm, 0, none⟩)] w := fun n l J Jx W hW hJ hJx hY h0 => by
  refine callsIn_wide.2 ((iterB _ bm m W (Below.keepCell hW c) (hm.below hW hm.lt)).mono ?_)
  rintro e W' ⟨rfl, hk⟩
  exact ⟨⟨_, rfl⟩, .inl ⟨[], trivial, hJ [] W W' none h0 (Keep.grownBy hk) (fun r e => by cases e)⟩⟩

set_option maxRecDepth 100000 in
set_option maxHeartbeats 2000000 in
theorem appE (g : Nat) (lb : Array Value) (w : World) (hn : Nothing g lb w) (eg : ∀ args w, (callFunc g args).run Tryz.prog w = .ok (.enter g args) w) :
    Calls Tryz.prog 215 #[.slice none 0 0, .func (.func g) #[] lb] w (Ans (.slice none 0 0) w) := by
  refine (callsIn_wide (n := 6)).1 ?_
  refine callsIn_of_wp_marks Tryz.func215 rfl trivial ?_ rfl
  simp only [Tryz.ntmps215, List.size_toArray, List.length_cons, List.length_nil, Nat.reduceAdd, Nat.reduceSub, Array.replicate_succ, Array.replicate_zero, List.push_toArray, List.append_toArray, List.nil_append, List.cons_append]
  gi_wp2
  have hA : At (w.alloc (.cells #[.slice none 0 0] 199)) w.heap.size #[.slice none 0 0] 199 := At.new w _ _
  refine wpIn_rangeFunc_ownF rfl (by omega) (gf := g) (lb := lb) rfl trivial eg (hn _) (fun _ _ => trivial) (fun _ _ _ _ _ _ _ _ => trivial) ((Below.refl _ w).alloc (Nat.le_refl _) _) (fun x => x.elim)
    (fun _ W => W.cell? ⟨w.heap.size, 0, none⟩ = some (.slice none 0 0) ∧ Below w.heap.size w W) (fun _ _ _ => False) (OwnFrom.and (Own.from (fun s A B row hs hg hr => cell_kept hs hg hr) _) (ownFrom_below (Nat.le_refl _) (by simp))) (fun _ _ _ _ _ h _ _ => h) ⟨hA.cell 0, (Below.refl _ w).alloc (Nat.le_refl _) _⟩ (fun x => x.elim) ?assign ?body ?done ?stop
  case assign => exact fun l x => x.elim
  case body => exact fun l pre x => x.elim
  case stop => exact fun D c pre W _ h => h.elim
  case done =>
    rintro D xs W hD _ ⟨hc, hB⟩ hK
    gi_wp2
    refine ⟨by simp, .inl ⟨_, _, rfl, run_takeDeferred hK, ?_⟩⟩
    exact ⟨_, results_tmp rfl _ _ _, rfl, hB.trans (belowK_b (w := w) (Nat.le_refl _) W D _ _ (by simp at hD; omega) hK rfl rfl)⟩

theorem collE (g : Nat) (lb : Array Value) (w : World) (hn : Nothing g lb w) (eg : ∀ args w, (callFunc g args).run Tryz.prog w = .ok (.enter g args) w) :
    Calls Tryz.prog 194 #[.func (.func g) #[] lb] w (Ans (.slice none 0 0) w) := by
  go_enter Tryz.func194, Tryz.ntmps194
  go_wp2_with (first
    | (go_at_call 215; refine (appE g lb _ hn eg).mono ?_; rintro e w1 ⟨rfl, hb⟩))
  go_ret
  exact ⟨rfl, hb⟩

theorem sfuncE (g : Nat) (lb : Array Value) (f : Value) (w : World) (hn : Nothing g lb w) (eg : ∀ args w, (callFunc g args).run Tryz.prog w = .ok (.enter g args) w) :
    Calls Tryz.prog 156 #[.func (.func g) #[] lb, f] w (Ans (.slice none 0 0) w) := by
  go_enter Tryz.func156, Tryz.ntmps156
  go_wp2_with (first
    | (go_at_call 194; refine (collE g lb _ hn eg).mono ?_; rintro e w1 ⟨rfl, hb⟩)
    | (go_at_call 195; refine (sortE f _).mono ?_; rintro e w2 ⟨rfl, rfl⟩))
  go_ret
  exact ⟨rfl, hb⟩

theorem keysS (m : Nat) (w : World) : Calls Tryz.prog 157 #[.map (some m)] w fun e w' => e = .returned (.func (.func 196) #[] #[.pointer (some ⟨w.heap.size, 0, none⟩)]) ∧ w' = w.alloc (.cells #[.map (some m)] 85) := by
  have hmf : ∀ (fn : Fn) (first cap : Array Value) (w : World), (Instr.makeFunc fn first cap).run Tryz.prog w = .ok (.func fn first cap) w := fun _ _ _ _ => rfl
  go_enter Tryz.func157, Tryz.ntmps157
  go_wp2
  go_ret
  exact ⟨rfl, rfl⟩
theorem keysB (m : Nat) (w : World) : Calls Tryz.prog 159 #[.map (some m)] w fun e w' => e = .returned (.func (.func 197) #[] #[.pointer (some ⟨w.heap.size, 0, none⟩)]) ∧ w' = w.alloc (.cells #[.map (some m)] 86) := by
  have hmf : ∀ (fn : Fn) (first cap : Array Value) (w : World), (Instr.makeFunc fn first cap).run Tryz.prog w = .ok (.func fn first cap) w := fun _ _ _ _ => rfl
  go_enter Tryz.func159, Tryz.ntmps159
  go_wp2
  go_ret
  exact ⟨rfl, rfl⟩

theorem sortedS (m : Nat) (w : World) (hm : IMap w m []) : Calls Tryz.prog 108 #[.map (some m)] w (Ans (.slice none 0 0) w) := by
  have K := (Keep.refl (fun _ => False) w).alloc (.cells #[.map (some m)] 85)
  have hn := nothingS w.heap.size m (w.alloc (.cells #[.map (some m)] 85)) ((At.new w _ _).cell 0) (hm.alloc _)
  go_enter Tryz.func108, Tryz.ntmps108
  go_wp2_with (first
    | (go_at_call 157; refine (keysS m _).mono ?_; rintro e w1 ⟨rfl, rfl⟩)
    | (go_at_call 156; refine (sfuncE _ _ _ _ hn (enters_of Tryz.func196 (by kernel_rfl) rfl)).mono ?_; rintro e w2 ⟨rfl, hb⟩))
  go_ret
  exact ⟨rfl, K.below.trans (hb.mono (by simp))⟩
theorem sortedB (m : Nat) (w : World) (hm : IMap w m []) : Calls Tryz.prog 110 #[.map (some m)] w (Ans (.slice none 0 0) w) := by
  have K := (Keep.refl (fun _ => False) w).alloc (.cells #[.map (some m)] 86)
  have hn := nothingB w.heap.size m (w.alloc (.cells #[.map (some m)] 86)) ((At.new w _ _).cell 0) (hm.alloc _)
  go_enter Tryz.func110, Tryz.ntmps110
  go_wp2_with (first
    | (go_at_call 159; refine (keysB m _).mono ?_; rintro e w1 ⟨rfl, rfl⟩)
    | (go_at_call 156; refine (sfuncE _ _ _ _ hn (enters_of Tryz.func197 (by kernel_rfl) rfl)).mono ?_; rintro e w2 ⟨rfl, hb⟩))
  go_ret
  exact ⟨rfl, K.below.trans (hb.mono (by simp))⟩
end Go.Proofs.YtnndkfhpifgaiaaGreat
