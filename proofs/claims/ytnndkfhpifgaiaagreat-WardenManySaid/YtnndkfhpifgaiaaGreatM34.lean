/-
  maps.Copy of one stored node into a map without entries.
-/
import Derived.Test.YtnndkfhpifgaiaaGreatM33
set_option linter.unusedVariables false
set_option linter.unusedSimpArgs false
namespace Go.Proofs.YtnndkfhpifgaiaaGreat
open Go.RowKit

set_option maxHeartbeats 1000000 in
theorem copy_one (a b : Nat) (v : Value) (w : World) (ha : IMap w a []) (hb : IMap w b [(1, v)]) (hab : a ≠ b) :
    Calls Tryz.prog 115 #[.map (some a), .map (some b)] w fun e w' => e = .returned (.tuple #[]) ∧ IMap w' a [(1, v)] ∧ Keep (· = a) w w' := by
  have HA := Lib.hid ha
  have HB := Lib.hid hb
  have hla := ha.lt
  have hlb := hb.lt
  clear ha hb
  go_enter Tryz.func115, Tryz.ntmps115
  go_wp2_with (first
    | (refine wpList_rangeM rfl _ 83 rfl 3 139 Tryz.underlying83 b [(1, v)] rfl HB.out ?_; intro w1 hit hk hs; have HI1 := Lib.hid hit; have HA1 := Lib.hid (HA.out.keep hk id); have HK1 := Lib.hid hk; have Hs1 := Lib.hid hs; clear hit hk hs))
  refine wp_loop_rounds 2 ?_; rw [rounds_succ]
  go_wp2_with (first
    | (refine wpList_nextOne rfl _ rfl w.heap.size b [(1, v)] 1 v rfl HI1.out ?_; intro w2 hit hk hs hent; have HI2 := Lib.hid hit; have HA2 := Lib.hid (HA1.out.keep hk (by omega)); have HK2 := Lib.hid hk; clear hit hk hs)
    | (refine wpList_putM rfl _ _ _ 83 rfl 3 139 .i64 Tryz.underlying83 Tryz.underlying3 a [] rfl HA2.out 1 rfl v rfl ?_; intro w3 hm hk hs; have HM3 := Lib.hid (show IMap w3 a [(1, v)] from hm); have HK3 := Lib.hid hk; have HI3 := Lib.hid (HI2.out.keep hk (by omega) (by omega)); clear hm hk hs))
  rw [rounds_succ]
  go_wp2_with (first
    | (refine wpList_nextDone rfl _ rfl w.heap.size b [(1, v)] rfl HI3.out ?_))
  go_end0
  refine ⟨rfl, HM3.out, ⟨?_, ?_, ?_, ?_, ?_⟩⟩
  · exact (HK3.out.os.trans HK2.out.os).trans HK1.out.os
  · exact (HK3.out.tape.trans HK2.out.tape).trans HK1.out.tape
  · exact (HK3.out.output.trans HK2.out.output).trans HK1.out.output
  · exact Nat.le_trans HK1.out.size (Nat.le_trans HK2.out.size HK3.out.size)
  · intro k hk hka
    have h1 := HK1.out.size
    have h2 := HK2.out.size
    exact (HK3.out.block k (by omega) hka).trans ((HK2.out.block k (by omega) (by omega)).trans (HK1.out.block k hk id))
end Go.Proofs.YtnndkfhpifgaiaaGreat
