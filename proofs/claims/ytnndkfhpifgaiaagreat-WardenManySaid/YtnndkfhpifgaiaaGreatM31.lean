/-
  file.lives, empty: what lives where.
  log.Free; file.ready: there is room enough.
  file.writer.put: one block more.
-/
import Derived.Test.YtnndkfhpifgaiaaGreatM30
set_option linter.unusedVariables false
set_option linter.unusedSimpArgs false
namespace Go.Proofs.YtnndkfhpifgaiaaGreat
open Go.RowKit

theorem size25 (a b : Value) : (Tryz.prog.info? 25).map (·.size) = some ([a, b] : List Value).length := by kernel_rfl

set_option maxRecDepth 100000 in
set_option maxHeartbeats 1000000 in
theorem ladd_ok (bs bm s m : Nat) (S : StoreV) (sector : Int) (n : Nat) (w : World) (c1 : w.cell? ⟨bs, 0, none⟩ = some (.pointer (some ⟨s, 0, none⟩))) (c2 : w.cell? ⟨bm, 0, none⟩ = some (.map (some m)))
    (hA : At w s S.cells 92) (hm : IMap w m []) (hs : S.sct = 48 + 32 * n) (h0 : 8 ≤ n) (h1 : n ≤ 137) (hi : 48 ≤ sector) (hin : sector < S.sct) :
    Calls Tryz.prog 164 #[.int .i64 sector, .pointer (some ⟨bs, 0, none⟩), .pointer (some ⟨bm, 0, none⟩)] w fun e w' => e = .returned (.tuple #[]) ∧ (∃ k : Int, IMap w' m [(k, .int .i64 1)]) ∧ Keep (· = m) w w' := by
  have HM := Lib.hid hm
  have HA := Lib.hid hA
  have Hp := Lib.hid (at_in S.sct sector n w hs h0 h1 hi hin)
  have hu := Tryz.underlying25
  clear hm hA hs h0 h1 hi hin
  go_enter Tryz.func164, Tryz.ntmps164
  go_wp2_with (first
    | (refine wpList_loadIn rfl 25 _ rfl s 1 rfl 92 S.cells HA.out [.int .i64 S.sct, .int .i64 32] rfl _ rfl hu (size25 _ _) ?_)
    | (go_at_call 165; refine Hp.out.mono ?_; rintro e w1 ⟨rfl, hb1⟩; have HB1 := Lib.hid hb1; have HM1 := Lib.hid (HM.out.below hb1 HM.out.lt); have q2 : w1.cell? ⟨bm, 0, none⟩ = some (.map (some m)) := Below.keepCell hb1 c2; clear hb1)
    | (refine wpList_look rfl _ _ 84 false rfl 3 3 .i64 Tryz.underlying84 Tryz.underlying3 (.int .i64 0) zeroInt m [] rfl HM1.out _ rfl (.int .i64 0) rfl ?_)
    | (refine wpList_putM rfl _ _ _ 84 rfl 3 3 .i64 Tryz.underlying84 Tryz.underlying3 m [] rfl HM1.out ((sector - 48) / 32) rfl (.int .i64 1) rfl ?_; intro w2 hm2 hk2 hs2))
  go_end0
  exact ⟨rfl, ⟨_, hm2⟩, (Keep.of_below HB1.out _).trans hk2 (fun _ _ h => h)⟩

/-- A map of counts. -/
def Counts (w : World) (v : Value) (R : Option RootV) (B : Nat) : Prop := ∃ b l, v = .map (some b) ∧ B ≤ b ∧ IMap w b l ∧ (∀ p ∈ l, ∃ x : Int, p.2 = .int .i64 x) ∧ (R = none → l = [])

theorem zero84 : (Tryz.prog.info? 84).bind (·.zero) = some (.map none) := by kernel_rfl
theorem size84 : (Tryz.prog.info? 84).map (·.size) = some 1 := by kernel_rfl

set_option maxRecDepth 100000 in
set_option maxHeartbeats 2000000 in
theorem lives_none (s : Nat) (S : StoreV) (segs : List Int) (now : Bool) (G : Nat → Prop) (w : World) (h : StoreAt w s S segs none now G) :
    Calls Tryz.prog 118 #[.pointer (some ⟨s, 0, none⟩)] w fun e w' => ∃ v, e = .returned v ∧ Counts w' v none w.heap.size ∧ Below w.heap.size w w' := by
  have HS := Lib.hid h
  clear h
  have hmf : ∀ (fn : Fn) (first cap : Array Value) (w : World), (Instr.makeFunc fn first cap).run Tryz.prog w = .ok (.func fn first cap) w := fun _ _ _ _ => rfl
  go_enter Tryz.func118, Tryz.ntmps118
  go_wp2_with (first
    | (refine wpList_boxAt rfl 57 _ rfl #[.pointer (some ⟨s, 0, none⟩)] rfl ?_; intro w1 hA1 hk1 hs1; have HA1 := Lib.hid hA1; have Hs1 := Lib.hid hs1; clear hA1 hs1)
    | (refine wpList_makeMapAt rfl 84 rfl ?_; intro w2 hm2 hk2 hs2; have HM2 := Lib.hid hm2; have Hs2 := Lib.hid hs2; clear hm2 hs2)
    | (refine wpList_allocOne rfl 84 rfl (.map none) zero84 rfl ?_; intro w3 hA3 hk3 hs3; have HA3 := Lib.hid hA3; have Hs3 := Lib.hid hs3; clear hA3 hs3)
    | (refine wpList_storeCell rfl 84 _ _ rfl rfl w2.heap.size 0 (.map (some w1.heap.size)) _ _ rfl rfl HA3.out (by simp) size84 rfl rfl ?_; intro w4 hA4 hk4 hs4; have K14 : Keep (· = w2.heap.size) w1 w4 := ((hk2.trans hk3 (fun _ _ h => h)).mono (fun _ _ h => h.elim)).trans hk4 (fun _ _ h => h); have HK14 := Lib.hid K14; have HA1' := Lib.hid (K14.at HA1.out (by have := Hs1.out; have := Hs2.out; have := hk2.size; omega)); have c1 : w4.cell? ⟨w.heap.size, 0, none⟩ = some (.pointer (some ⟨s, 0, none⟩)) := HA1'.out.cell 0; have HA4 := Lib.hid (show At w4 w2.heap.size #[.map (some w1.heap.size)] 84 from hA4); have HM4 := Lib.hid ((HM2.out.keep hk3 id).keep hk4 (by have := Hs2.out; omega)); have K04 : Keep (· = w2.heap.size) w w4 := (hk1.mono (fun _ _ h => h.elim)).trans K14 (fun _ _ h => h); have HS4 := Lib.hid (HS.out.keep K04 (fun k hg e => by have := HS.out.lt k hg; have := Hs1.out; have := Hs2.out; omega)); have HB4 := Lib.hid (hk1.below.trans ((K14.belowOf (B := w.heap.size) hk1.size (by intro b hb e; have := Hs1.out; have := Hs2.out; omega)))); have m12 : w4.cell? ⟨s, 12, none⟩ = some (.map (some S.base)) := HS4.out.cells.cell 12; clear hA4 K14 K04 hs4)
    | (refine wpList_rangeM rfl _ 83 rfl 3 139 Tryz.underlying83 S.base (baseL none) rfl HS4.out.base ?_; intro w5 hit5 hk5 hs5; have HI5 := Lib.hid hit5; have Hs5 := Lib.hid hs5; clear hit5 hs5))
  have c3 : w5.cell? ⟨w2.heap.size, 0, none⟩ = some (.map (some w1.heap.size)) := hk5.keepCell id (HA4.out.cell 0)
  refine wp_loop_rounds 1 ?_; rw [rounds_succ]
  go_wp2_with (first
    | (refine wpList_nextDone rfl _ rfl w4.heap.size S.base [] rfl HI5.out ?_))
  go_ret
  exact ⟨_, rfl, ⟨w1.heap.size, [], rfl, by have := Hs1.out; omega, HM4.out.keep hk5 id, by simp, fun _ => rfl⟩, HB4.out.trans (hk5.below.mono HB4.out.size)⟩

set_option maxRecDepth 100000 in
set_option maxHeartbeats 2000000 in
theorem lives_root (s : Nat) (S : StoreV) (segs : List Int) (r : RootV) (now : Bool) (n : Nat) (G : Nat → Prop) (w : World) (h : StoreAt w s S segs (some r) now G) (hs : S.sct = 48 + 32 * n) (h0 : 8 ≤ n) (h1 : n ≤ 137) (hi : 48 ≤ r.sector) (hin : r.sector < S.sct) :
    Calls Tryz.prog 118 #[.pointer (some ⟨s, 0, none⟩)] w fun e w' => ∃ v, e = .returned v ∧ Counts w' v (some r) w.heap.size ∧ Below w.heap.size w w' := by
  have HS := Lib.hid h
  clear h
  have hmf : ∀ (fn : Fn) (first cap : Array Value) (w : World), (Instr.makeFunc fn first cap).run Tryz.prog w = .ok (.func fn first cap) w := fun _ _ _ _ => rfl
  go_enter Tryz.func118, Tryz.ntmps118
  go_wp2_with (first
    | (refine wpList_boxAt rfl 57 _ rfl #[.pointer (some ⟨s, 0, none⟩)] rfl ?_; intro w1 hA1 hk1 hs1; have HA1 := Lib.hid hA1; have Hs1 := Lib.hid hs1; clear hA1 hs1)
    | (refine wpList_makeMapAt rfl 84 rfl ?_; intro w2 hm2 hk2 hs2; have HM2 := Lib.hid hm2; have Hs2 := Lib.hid hs2; clear hm2 hs2)
    | (refine wpList_allocOne rfl 84 rfl (.map none) zero84 rfl ?_; intro w3 hA3 hk3 hs3; have HA3 := Lib.hid hA3; have Hs3 := Lib.hid hs3; clear hA3 hs3)
    | (refine wpList_storeCell rfl 84 _ _ rfl rfl w2.heap.size 0 (.map (some w1.heap.size)) _ _ rfl rfl HA3.out (by simp) size84 rfl rfl ?_; intro w4 hA4 hk4 hs4; have K14 : Keep (· = w2.heap.size) w1 w4 := ((hk2.trans hk3 (fun _ _ h => h)).mono (fun _ _ h => h.elim)).trans hk4 (fun _ _ h => h); have HK14 := Lib.hid K14; have HA1' := Lib.hid (K14.at HA1.out (by have := Hs1.out; have := Hs2.out; have := hk2.size; omega)); have c1 : w4.cell? ⟨w.heap.size, 0, none⟩ = some (.pointer (some ⟨s, 0, none⟩)) := HA1'.out.cell 0; have HA4 := Lib.hid (show At w4 w2.heap.size #[.map (some w1.heap.size)] 84 from hA4); have HM4 := Lib.hid ((HM2.out.keep hk3 id).keep hk4 (by have := Hs2.out; omega)); have K04 : Keep (· = w2.heap.size) w w4 := (hk1.mono (fun _ _ h => h.elim)).trans K14 (fun _ _ h => h); have HS4 := Lib.hid (HS.out.keep K04 (fun k hg e => by have := HS.out.lt k hg; have := Hs1.out; have := Hs2.out; omega)); have HB4 := Lib.hid (hk1.below.trans ((K14.belowOf (B := w.heap.size) hk1.size (by intro b hb e; have := Hs1.out; have := Hs2.out; omega)))); have m12 : w4.cell? ⟨s, 12, none⟩ = some (.map (some S.base)) := HS4.out.cells.cell 12; clear hA4 K14 K04 hs4)
    | (refine wpList_rangeM rfl _ 83 rfl 3 139 Tryz.underlying83 S.base (baseL (some r)) rfl HS4.out.base ?_; intro w5 hit5 hk5 hs5; have HI5 := Lib.hid hit5; have Hs5 := Lib.hid hs5; clear hit5 hs5))
  have s1 := Hs1.out
  have s2 := Hs2.out
  have s3 := HA4.out.lt
  have s4 := HM4.out.lt
  have s5 := Hs5.out
  have hG := HS.out.lt
  have HS5 := Lib.hid (HS4.out.keep hk5 (fun _ _ => id))
  have HC5 := Lib.hid (hk5.keepCell id (HA4.out.cell 0) : w5.cell? ⟨w2.heap.size, 0, none⟩ = some (.map (some w1.heap.size)))
  have HD5 := Lib.hid (hk5.keepCell id c1)
  have HM5 := Lib.hid (HM4.out.keep hk5 id)
  have HB5 := Lib.hid (HB4.out.trans (hk5.below.mono HB4.out.size))
  have HG := Lib.hid hG
  have Hord : Hid (w.heap.size < w1.heap.size ∧ w1.heap.size < w2.heap.size ∧ w2.heap.size < w4.heap.size ∧ w5.heap.size = w4.heap.size + 1) := Lib.hid ⟨by omega, by omega, by omega, by omega⟩
  clear hG s1 s2 s3 s4 s5 Hs1 Hs2 Hs3 Hs5 HS4 HA4 HM4 HM2 HA3 HA1 HA1' HK14 HB4 hk1 hk2 hk3 hk4 hk5 c1 m12
  refine wp_loop_rounds 2 ?_; rw [rounds_succ]
  go_wp2_with (first
    | (refine wpList_nextOne rfl _ rfl w4.heap.size S.base (baseL (some r)) 1 (.pointer (some ⟨r.st, 0, none⟩)) rfl HI5.out ?_; intro w6 hit6 hk6 hs6 hent; have HI6 := Lib.hid hit6; have HS6 := Lib.hid (HS5.out.keep hk6 (fun k hg e => by have := HG.out k hg; have := Hord.out; omega)); have HC6 := Lib.hid (hk6.keepCell (by have := Hord.out; omega) HC5.out); have HD6 := Lib.hid (hk6.keepCell (by have := Hord.out; omega) HD5.out); have HM6 := Lib.hid (HM5.out.keep hk6 (by have := Hord.out; omega)); have m19 : w6.cell? ⟨r.st, 19, none⟩ = some (.int .i64 r.sector) := ((HS6.out.root r rfl).1).cell 19; have HB6 := Lib.hid (HB5.out.trans (hk6.belowOf HB5.out.size (by intro b hb e; have := Hord.out; omega))); clear hit6 hk6 hs6)
    | (go_at_call 164; refine (ladd_ok w.heap.size w2.heap.size s w1.heap.size S r.sector n _ HD6.out HC6.out HS6.out.cells HM6.out hs h0 h1 hi hin).mono ?_; rintro e w7 ⟨rfl, ⟨k, hm7⟩, hk7⟩; have HI7 := Lib.hid (HI6.out.keep hk7 (by have := Hord.out; omega) (by have := HG.out _ HS6.out.gb.1; have := Hord.out; omega)); have HS7 := Lib.hid (HS6.out.keep hk7 (fun k hg e => by have := HG.out k hg; have := Hord.out; omega)); have HC7 := Lib.hid (hk7.keepCell (by have := Hord.out; omega) HC6.out); have HM7 := Lib.hid hm7; have HB7 := Lib.hid (HB6.out.trans (hk7.belowOf HB6.out.size (by intro b hb e; have := Hord.out; omega))); have m20 : w7.cell? ⟨r.st, 20, none⟩ = some (.map (some r.bl)) := ((HS7.out.root r rfl).1).cell 20; obtain ⟨clk, hbl⟩ := (HS7.out.root r rfl).2.1.empty; have Hbl := Lib.hid hbl; clear hm7 hk7 hbl)
    | (refine wpList_rangeE rfl _ 84 rfl 3 3 Tryz.underlying84 r.bl clk rfl Hbl.out ?_; intro w8 hit8 hk8 hs8; have HI8 := Lib.hid hit8; clear hit8))
  have HS8 := Lib.hid (HS7.out.keep hk8 (fun _ _ => id))
  have HC8 := Lib.hid (hk8.keepCell id HC7.out)
  have HM8 := Lib.hid (HM7.out.keep hk8 id)
  have HI78 := Lib.hid (HI7.out.keep hk8 id id)
  have HB8 := Lib.hid (HB7.out.trans (hk8.below.mono HB7.out.size))
  have m21 : w8.cell? ⟨r.st, 21, none⟩ = some (.map (some r.ind)) := ((HS8.out.root r rfl).1).cell 21
  obtain ⟨clk2, hin2⟩ := (HS8.out.root r rfl).2.2.1.empty
  have Hin2 := Lib.hid hin2
  clear hin2 hent m19 m20 hk8 hs8
  refine wp_loop_rounds 1 ?_; rw [rounds_succ]
  go_wp2_with (first
    | (refine wpList_nextDone rfl _ rfl w7.heap.size r.bl [] rfl HI8.out ?_)
    | (refine wpList_rangeE rfl _ 84 rfl 3 3 Tryz.underlying84 r.ind clk2 rfl Hin2.out ?_; intro w9 hit9 hk9 hs9; have HI9 := Lib.hid hit9; clear hit9))
  have HC9 : w9.cell? ⟨w2.heap.size, 0, none⟩ = some (.map (some w1.heap.size)) := hk9.keepCell id HC8.out
  have HI79 := Lib.hid (HI78.out.keep hk9 id id)
  refine wp_loop_rounds 1 ?_; rw [rounds_succ]
  go_wp2_with (first
    | (refine wpList_nextDone rfl _ rfl w8.heap.size r.ind [] rfl HI9.out ?_))
  rw [rounds_succ]
  go_wp2_with (first
    | (refine wpList_nextDone rfl _ rfl w4.heap.size S.base (baseL (some r)) rfl HI79.out ?_))
  go_ret
  exact ⟨_, rfl, ⟨w1.heap.size, _, rfl, by have := Hord.out; omega, HM8.out.keep hk9 id, by simp, fun h => by cases h⟩, HB8.out.trans (hk9.below.mono HB8.out.size)⟩

/-- The disk's size, where the root stands. -/
structure Sized (S : StoreV) (R : Option RootV) (n : Nat) : Prop where
  sct : S.sct = 48 + 32 * n
  lo : 8 ≤ n
  hi : n ≤ 137
  root : ∀ r, R = some r → 48 ≤ r.sector ∧ r.sector < S.sct

theorem lives_ok (s : Nat) (S : StoreV) (segs : List Int) (R : Option RootV) (now : Bool) (n : Nat) (G : Nat → Prop) (w : World) (h : StoreAt w s S segs R now G) (hz : Sized S R n) :
    Calls Tryz.prog 118 #[.pointer (some ⟨s, 0, none⟩)] w fun e w' => ∃ v, e = .returned v ∧ Counts w' v R w.heap.size ∧ Below w.heap.size w w' := by
  cases R with
  | none => exact lives_none s S segs now G w h
  | some r => exact lives_root s S segs r now n G w h hz.sct hz.lo hz.hi (hz.root r rfl).1 (hz.root r rfl).2

/-- The segments but two. -/
def but (a b : Int) (l : List Int) : List Int := l.filter (fun x => decide (x ≠ a) && decide (x ≠ b))

theorem counts_get {l : List (Int × Value)} (hl : ∀ p ∈ l, ∃ x : Int, p.2 = .int .i64 x) (k : Int) : ∃ y : Int, (lookL l k).getD (.int .i64 0) = .int .i64 y ∧ (l = [] → y = 0) := by
  cases hf : lookL l k with
  | none => exact ⟨0, rfl, fun _ => rfl⟩
  | some v =>
    unfold lookL at hf
    cases hg : l.find? (fun p => p.1 == k) with
    | none => simp [hg] at hf
    | some p =>
      simp [hg] at hf
      obtain ⟨x, hx⟩ := hl p (List.mem_of_find?_eq_some hg)
      exact ⟨x, by simp [← hf, hx], fun e => by subst e; simp at hg⟩

theorem but_no {a b x : Int} {l : List Int} {k : Nat} (hx : l[k]? = some x) (h : (decide (x ≠ a) && decide (x ≠ b)) = false) : but a b (l.take k) = but a b (l.take (k + 1)) := by
  rw [List.take_add_one, hx]; simp only [but, List.filter_append, Option.toList_some, List.filter_cons, h]; simp
theorem but_yes {a b x : Int} {l : List Int} {k : Nat} (hx : l[k]? = some x) (ha : ¬ x = a) (hb : ¬ x = b) : but a b (l.take k) ++ [x] = but a b (l.take (k + 1)) := by
  rw [List.take_add_one, hx]; simp [but, List.filter_append, ha, hb]

set_option maxRecDepth 100000 in
set_option maxHeartbeats 2000000 in
theorem empty_ok (s : Nat) (S : StoreV) (segs : List Int) (R : Option RootV) (now : Bool) (n : Nat) (G : Nat → Prop) (a b : Int) (w : World) (h : StoreAt w s S segs R now G) (hz : Sized S R n) (hl : segs.length ≤ 40) (hp : 0 < segs.length) :
    Calls Tryz.prog 76 #[.pointer (some ⟨s, 0, none⟩), .int .i64 a, .int .i64 b] w fun e w' => ∃ v xs, e = .returned v ∧ w'.ownsRow w.heap.size 3 1 v xs.length (xs.map (Value.int .i64)) ∧ xs.length ≤ segs.length ∧ (R = none → xs = but a b segs) ∧ Below w.heap.size w w' := by
  have HS := Lib.hid h
  have Hl := Lib.hid hl
  have Hz := Lib.hid hz
  clear h hl hz
  go_enter Tryz.func76, Tryz.ntmps76
  obtain ⟨pb, po, pc, hpb, hpv, hpc, hcell⟩ := (IntsAt.of_own HS.out.segs.1 rfl).cells (by intro e; rw [e] at hp; simp at hp)
  have Hcell := Lib.hid hcell
  have Hpb := Lib.hid hpb
  have Hpv := Lib.hid hpv
  have Hpc := Lib.hid hpc
  clear hcell hpb hpv hpc
  go_wp2_with (first
    | (go_at_call 118; refine (lives_ok s S segs R now n G _ HS.out Hz.out).mono ?_; rintro e w1 ⟨v1, rfl, ⟨m, l, rfl, hm0, hm1, hl, hR⟩, hb1⟩; have HB1 := Lib.hid hb1; have c5 : w1.cell? ⟨s, 5, none⟩ = some (.slice (some ⟨pb, po, none⟩) segs.length pc) := (by rw [← Hpv.out]; exact Below.keepCell hb1 (HS.out.cells.cell 5)); have HM1 := Lib.hid hm1; have HL := Lib.hid hl; have HR := Lib.hid hR; clear hm0 hm1 hl hR hb1))
  have hlb : segs.length < 9223372036854775807 := by have := Hl.out; omega
  go_loopg [8, 18] segs.length (fun gk v i wr => ∃ (k : Nat) (xs : List Int), k ≤ segs.length ∧ gk = segs.length - k ∧ i = .int .i64 k ∧ wr.ownsRow w.heap.size 3 1 v xs.length (xs.map (Value.int .i64)) ∧ xs.length ≤ k ∧ (R = none → xs = but a b (segs.take k)) ∧ IMap wr m l ∧ Below w.heap.size w wr)
  case atStart => exact ⟨0, [], by omega, by omega, rfl, World.ownsRow_nil _ _ _ _, by simp, fun _ => rfl, HM1.out, HB1.out⟩
  case round =>
    obtain ⟨k, xs, hk, hgk, rfl, hown, hxk, hxR, hm, hb⟩ := hrel
    have Hgk := Lib.hid hgk
    have Hown := Lib.hid hown
    have HM := Lib.hid hm
    have HB := Lib.hid hb
    have HxR := Lib.hid hxR
    have Hxk := Lib.hid hxk
    clear hgk hown hm hb hxR hxk
    by_cases hlt : k < segs.length
    · obtain ⟨x, hx⟩ : ∃ x, segs[k]? = some x := ⟨_, List.getElem?_eq_getElem hlt⟩
      have cx : wr.cell? ⟨pb, po + k, none⟩ = some (.int .i64 x) := by exact Below.keepCell HB.out (Hcell.out k x hx)
      obtain ⟨y, hy, hy0⟩ := counts_get HL.out x
      have Hy := Lib.hid (show (if false then Value.tuple #[(lookL l x).getD (.int .i64 0), .bool (lookL l x).isSome] else (lookL l x).getD (.int .i64 0)) = .int .i64 y from hy)
      clear hy
      have Hx := Lib.hid hx
      have Hy0 := Lib.hid hy0
      clear hy0
      have hw1 : IntKind.i64.wrap ((k : Int) + 1) = k + 1 := by rw [IntKind.wrap_i64]; have := Hl.out; omega
      by_cases y0 : y = 0
      case neg =>
        have q1 : decide (y = 0) = false := by simpa using y0
        clear hx
        go_wp2_with (first
          | (refine wpList_look rfl _ _ 84 false rfl 3 3 .i64 Tryz.underlying84 Tryz.underlying3 (.int .i64 0) zeroInt m l rfl HM.out x rfl (.int .i64 y) Hy.out ?_))
        go_roundg (segs.length - (k + 1))
        case measure => have := Hgk.out; omega
        case rel => exact ⟨k + 1, xs, by omega, rfl, by go_num, Hown.out, by have := Hxk.out; omega, fun hR => by exact absurd (Hy0.out (HR.out hR)) y0, HM.out, HB.out⟩
      by_cases xa : x = a
      case pos =>
        subst xa
        clear hx
        go_wp2_with (first
          | (refine wpList_look rfl _ _ 84 false rfl 3 3 .i64 Tryz.underlying84 Tryz.underlying3 (.int .i64 0) zeroInt m l rfl HM.out x rfl (.int .i64 y) Hy.out ?_))
        go_roundg (segs.length - (k + 1))
        case measure => have := Hgk.out; omega
        case rel => exact ⟨k + 1, xs, by omega, rfl, by go_num, Hown.out, by have := Hxk.out; omega, fun hR => by rw [HxR.out hR, but_no Hx.out (by simp)], HM.out, HB.out⟩
      by_cases xb : x = b
      case pos =>
        have q1 : (x != a) = true := by simpa using xa
        subst xb
        clear hx
        go_wp2_with (first
          | (refine wpList_look rfl _ _ 84 false rfl 3 3 .i64 Tryz.underlying84 Tryz.underlying3 (.int .i64 0) zeroInt m l rfl HM.out x rfl (.int .i64 y) Hy.out ?_))
        go_roundg (segs.length - (k + 1))
        case measure => have := Hgk.out; omega
        case rel => exact ⟨k + 1, xs, by omega, rfl, by go_num, Hown.out, by have := Hxk.out; omega, fun hR => by rw [HxR.out hR, but_no Hx.out (by simp)], HM.out, HB.out⟩
      have q1 : (x != a) = true := by simpa using xa
      have q2 : (x != b) = true := by simpa using xb
      clear hx
      go_wp2_with (first
        | (refine wpList_look rfl _ _ 84 false rfl 3 3 .i64 Tryz.underlying84 Tryz.underlying3 (.int .i64 0) zeroInt m l rfl HM.out x rfl (.int .i64 y) Hy.out ?_)
        | (refine wpList_appendInt rfl _ _ rfl w.heap.size u8 xs.length _ rfl (Hown.out.alloc _) wr.heap.size x rfl ((At.new wr _ _).cell 0) (by have := Hxk.out; have := Hl.out; omega) (by have := HB.out.size; simp; omega) ?_; intro v' w4 hown hgrow hblk))
      have B5 := (HB.out.alloc HB.out.size _).grown hgrow (by have := HB.out.size; simp; omega) (fun j hj => (Hown.out.lt j hj).1)
      go_roundg (segs.length - (k + 1))
      case measure => have := Hgk.out; omega
      case rel =>
        refine ⟨k + 1, xs ++ [x], by omega, rfl, by go_num, by simpa using hown, by have := Hxk.out; simp; omega, fun hR => by rw [HxR.out hR, but_yes Hx.out xa xb], HM.out.keep (((Keep.refl (fun b => u8.ownBlock = some b) wr).alloc _).grown hgrow (fun j hj => .inl hj)) (fun e => imap_ne_own HM.out Hown.out e), B5⟩
    · obtain rfl : k = segs.length := by omega
      go_wp2
      go_ret
      exact ⟨_, xs, rfl, Hown.out, Hxk.out, fun hR => by rw [HxR.out hR, List.take_length], HB.out⟩
end Go.Proofs.YtnndkfhpifgaiaaGreat
namespace Go.Proofs.YtnndkfhpifgaiaaGreat
open Go.RowKit

theorem IntsAt.slice {w : World} {v : Value} {xs : List Int} {N : Nat} (h : IntsAt w v xs N) : ∃ p c, v = .slice p xs.length c := by
  obtain ⟨p, c, rfl, _⟩ := h; exact ⟨p, c, rfl⟩

theorem lfree_ok (l : Nat) (L : LogV) (xs : List Int) (N : Nat) (w : World) (h : LogAt w l L) (hI : IntsAt w L.fv xs N) (hx : xs.length ≤ 1000) : Calls Tryz.prog 106 #[.pointer (some ⟨l, 0, none⟩)] w (Ints xs w) := by
  obtain ⟨p, c, hv⟩ := hI.slice
  have c18 : w.cell? ⟨l, 18, none⟩ = some (.slice p xs.length c) := by rw [← hv]; exact h.cell 18
  have HI := Lib.hid (show IntsAt w (.slice p xs.length c) xs N by rw [← hv]; exact hI)
  clear h hI hv
  go_enter Tryz.func106, Tryz.ntmps106
  go_wp2_with (first
    | (go_at_call 23; refine (clone_ok _ xs N _ HI.out hx).mono ?_; rintro e w1 h1; obtain ⟨v1, rfl, hr1, hb1⟩ := id h1))
  go_ret
  exact ⟨v1, rfl, hr1, hb1⟩

/-- The store's log. -/
structure LogOf (w : World) (S : StoreV) (l : Nat) (L : LogV) (fs : List Int) : Prop where
  at_ : LogAt w l L
  lp : S.lp = some ⟨l, 0, none⟩
  free : IntsAt w L.fv fs w.heap.size
  few : fs.length ≤ 1000
theorem LogOf.below {w w' : World} {S : StoreV} {l : Nat} {L : LogV} {fs : List Int} (h : LogOf w S l L fs) (hb : Below w.heap.size w w') : LogOf w' S l L fs :=
  ⟨Below.at hb h.at_ h.at_.lt, h.lp, (h.free.below hb).mono hb.size, h.few⟩

set_option maxRecDepth 100000 in
set_option maxHeartbeats 2000000 in
theorem ready_ok (s : Nat) (S : StoreV) (segs : List Int) (now : Bool) (n : Nat) (G : Nat → Prop) (l : Nat) (L : LogV) (fs : List Int) (w : World) (h : StoreAt w s S segs none now G) (hz : Sized S none n) (hl : segs.length ≤ 40) (hp : 8 ≤ segs.length)
    (hL : LogOf w S l L fs) (hfs : 2 ≤ fs.length) (he : 4 + segs.length / 8 ≤ (but L.x.seg L.x.seg segs).length) :
    Calls Tryz.prog 69 #[.pointer (some ⟨s, 0, none⟩)] w (Ans (.tuple #[]) w) := by
  obtain ⟨pv, cv, hv⟩ := h.segs.slice
  have c4 : w.cell? ⟨s, 5, none⟩ = some (.slice pv segs.length cv) := by rw [← hv]; exact h.cells.cell 5
  have c5 : w.cell? ⟨s, 6, none⟩ = some (.pointer (some ⟨l, 0, none⟩)) := by rw [← hL.lp]; exact h.cells.cell 6
  have HS := Lib.hid h
  have HL := Lib.hid hL
  have Hz := Lib.hid hz
  have hw0 : IntKind.i64.wrap (4 * (segs.length : Int)) = 4 * segs.length := by rw [IntKind.wrap_i64]; omega
  have hw1 : IntKind.i64.wrap (4 * (segs.length : Int) + 8) = 4 * segs.length + 8 := by rw [IntKind.wrap_i64]; omega
  have h0 : (0 : Int) < 4 * segs.length + 8 := by omega
  have hu82 := Tryz.underlying82
  clear h hz hL hv
  go_enter Tryz.func69, Tryz.ntmps69
  go_wp2
  refine wp_loop_rounds 1 ?_; rw [rounds_succ]
  go_wp2_with (first
    | (go_at_call 75; refine (lplace_ok l L _ HL.out.at_).mono ?_; rintro e w1 ⟨rfl, hb1⟩)
    | (refine wpList_allocAt rfl 82 rfl zSlot zero82 ?_; intro w2 hz2 hk2 hs2; have HZ2 := Lib.hid hz2; clear hz2)
    | (refine wpList_storeRow rfl 82 _ _ rfl rfl w1.heap.size L.x.cells zSlot _ rfl rfl HZ2.out rfl (size82 _) (one82 _) ?_; intro w3 hA3 hk3 hs3))
  have hn0 := hb1.size
  have B3 : Below w.heap.size w w3 := (hb1.trans (hk2.below.mono hb1.size)).trans (hk3.belowOf (by have := hk2.size; omega) (by intro b hb e; omega))
  have HS3 := Lib.hid (HS.out.below B3)
  have HL3 := Lib.hid (HL.out.below B3)
  have HB3 := Lib.hid B3
  have hsz := HS.out.lt s HS.out.gs
  have c4' : w3.cell? ⟨s, 5, none⟩ = some (.slice pv segs.length cv) := Below.keepCell B3 c4
  have c5' : w3.cell? ⟨s, 6, none⟩ = some (.pointer (some ⟨l, 0, none⟩)) := Below.keepCell B3 c5
  have x3 : w3.cell? ⟨w1.heap.size, 3, none⟩ = some (.int .i64 L.x.seg) := hA3.cell 3
  have Hne := Lib.hid (show ¬ (w1.heap.size = s) by omega)
  have He := Lib.hid he
  clear hsz hb1 hk2 hk3 hs2 hs3 hA3 HZ2 c4 c5 B3 hw0 hw1 h0 hn0 he
  (try simp only [Act.put, List.setIfInBounds_toArray, List.set_cons_zero, List.set_cons_succ])
  refine wp_region_noPanic ?_
  refine T_region 15 (fun w' => w'.cell? ⟨w1.heap.size, 3, none⟩ = some (.int .i64 L.x.seg) ∧ w'.cell? ⟨s, 5, none⟩ = some (.slice pv segs.length cv)) (by kernel_rfl) (by kernel_rfl) (by kernel_rfl) (by decide) (by kernel_rfl) ⟨x3, c4'⟩ (fun hHeld hU => ?_)
  refine T_take (i := 0) hU 18 ?_ rfl rfl (by decide) (by kernel_rfl) (by kernel_rfl) (fun _ _ _ h => h) (Or.inl ⟨by rfl, ?_⟩) hHeld ?_; rotate_left; (intro w hSw; (try dsimp only at hSw); go_simp); (try with_reducible rfl); clear hU; intro hU; (try simp only [Act.put, List.setIfInBounds_toArray, List.set_cons_zero, List.set_cons_succ])
  refine T_take (i := 1) hU 19 ?_ rfl rfl (by decide) (by kernel_rfl) (by kernel_rfl) (fun _ _ _ h => h) (Or.inl ⟨by rfl, ?_⟩) hHeld ?_; rotate_left; (intro w hSw; (try dsimp only at hSw); go_simp); (try with_reducible rfl); clear hU; intro hU; (try simp only [Act.put, List.setIfInBounds_toArray, List.set_cons_zero, List.set_cons_succ])
  refine T_take (i := 2) hU 20 ?_ rfl rfl (by decide) (by kernel_rfl) (by kernel_rfl) (fun _ _ _ h => h) (Or.inl ⟨by rfl, ?_⟩) hHeld ?_; rotate_left; (intro w hSw; (try dsimp only at hSw); go_simp); (try with_reducible rfl); clear hU; intro hU; (try simp only [Act.put, List.setIfInBounds_toArray, List.set_cons_zero, List.set_cons_succ])
  refine T_take (i := 3) hU 21 ?_ rfl rfl (by decide) (by kernel_rfl) (by kernel_rfl) (fun _ _ _ h => h) (Or.inl ⟨by rfl, ?_⟩) hHeld ?_; rotate_left; (intro w hSw; (try dsimp only at hSw); go_simp); (try with_reducible rfl); clear hU; intro hU; (try simp only [Act.put, List.setIfInBounds_toArray, List.set_cons_zero, List.set_cons_succ])
  refine T_take (i := 4) hU 22 ?_ rfl rfl (by decide) (by kernel_rfl) (by kernel_rfl) (fun _ _ _ h => h) (Or.inl ⟨by rfl, ?_⟩) hHeld ?_; rotate_left; (intro w hSw; (try dsimp only at hSw); go_simp); (try with_reducible rfl); clear hU; intro hU; (try simp only [Act.put, List.setIfInBounds_toArray, List.set_cons_zero, List.set_cons_succ])
  refine T_take (i := 7) hU 25 ?_ rfl rfl (by decide) (by kernel_rfl) (by kernel_rfl) (fun _ _ _ h => h) (Or.inl ⟨by rfl, ?_⟩) hHeld ?_; rotate_left; (intro w hSw; (try dsimp only at hSw); go_simp); (try with_reducible rfl); clear hU; intro hU; (try simp only [Act.put, List.setIfInBounds_toArray, List.set_cons_zero, List.set_cons_succ])
  refine T_take (i := 8) hU 26 ?_ rfl rfl (by decide) (by kernel_rfl) (by kernel_rfl) (fun _ _ _ h => h) (Or.inl ⟨by rfl, ?_⟩) hHeld ?_; rotate_left; (intro w hSw; (try dsimp only at hSw); go_simp); (try with_reducible rfl); clear hU; intro hU; (try simp only [Act.put, List.setIfInBounds_toArray, List.set_cons_zero, List.set_cons_succ])
  refine T_take (i := 9) hU 27 ?_ rfl rfl (by decide) (by kernel_rfl) (by kernel_rfl) (fun _ _ _ h => h) (Or.inl ⟨by rfl, ?_⟩) hHeld ?_; rotate_left; (intro w hSw; (try dsimp only at hSw); go_simp); (try with_reducible rfl); clear hU; intro hU; (try simp only [Act.put, List.setIfInBounds_toArray, List.set_cons_zero, List.set_cons_succ])
  refine T_take (i := 10) hU 28 ?_ rfl rfl (by decide) (by kernel_rfl) (by kernel_rfl) (fun _ _ _ h => h) (Or.inl ⟨by rfl, ?_⟩) hHeld ?_; rotate_left; (intro w hSw; (try dsimp only at hSw); go_simp); (try with_reducible rfl); clear hU; intro hU; (try simp only [Act.put, List.setIfInBounds_toArray, List.set_cons_zero, List.set_cons_succ])
  refine T_take (i := 11) hU 29 ?_ rfl rfl (by decide) (by kernel_rfl) (by kernel_rfl) (fun _ _ _ h => h) (Or.inl ⟨by rfl, ?_⟩) hHeld ?_; rotate_left; (intro w hSw; (try dsimp only at hSw); go_simp); (try with_reducible rfl); clear hU; intro hU; (try simp only [Act.put, List.setIfInBounds_toArray, List.set_cons_zero, List.set_cons_succ])
  refine T_take (i := 12) hU 30 ?_ rfl rfl (by decide) (by kernel_rfl) (by kernel_rfl) (fun _ _ _ h => h) (Or.inl ⟨by rfl, ?_⟩) hHeld ?_; rotate_left; (intro w hSw; (try dsimp only at hSw); go_simp); (try with_reducible rfl); clear hU; intro hU; (try simp only [Act.put, List.setIfInBounds_toArray, List.set_cons_zero, List.set_cons_succ])
  refine T_take (i := 13) hU 31 ?_ rfl rfl (by decide) (by kernel_rfl) (by kernel_rfl) (fun _ _ _ h => h) (Or.inl ⟨by rfl, ?_⟩) hHeld ?_; rotate_left; (intro w hSw; (try dsimp only at hSw); go_simp); (try with_reducible rfl); clear hU; intro hU; (try simp only [Act.put, List.setIfInBounds_toArray, List.set_cons_zero, List.set_cons_succ])
  have hHeld5 := hHeld
  refine T_step (i := 5) hU rfl (by decide) (by kernel_rfl) (fun K hK => ?_); clear hU hHeld
  go_simp
  go_at_call 76
  refine (empty_ok s S segs none now n G _ _ _ HS3.out.drew Hz.out hl (by omega)).mono ?_
  rintro e w4 ⟨v, xs, rfl, hown, hxl, hxe, hb4⟩
  have hb4' : Below w3.heap.size w3 w4 := (World.drew_below0 w3).trans hb4
  have c5'' : w4.cell? ⟨s, 6, none⟩ = some (.pointer (some ⟨l, 0, none⟩)) := Below.keepCell hb4' c5'
  have HL4 := Lib.hid (HL3.out.below hb4')
  have HB4 := Lib.hid (HB3.out.trans (hb4'.mono HB3.out.size))
  obtain ⟨p4, cc4, rfl⟩ := ownsRow_slice hown
  have Hxe := Lib.hid (hxe rfl)
  clear hxe
  refine hK.out _ _ (⟨Below.keepCell hb4 hHeld5.1, Below.keepCell hb4 hHeld5.2⟩) (fun hHeld hU => ?_); clear hK K; (try simp only [Act.put, List.setIfInBounds_toArray, List.set_cons_zero, List.set_cons_succ])
  refine T_take (i := 6) hU 24 ?_ rfl rfl (by decide) (by kernel_rfl) (by kernel_rfl) (fun _ _ _ h => h) (Or.inl ⟨by rfl, ?_⟩) hHeld ?_; rotate_left; (intro w hSw; (try dsimp only at hSw); go_simp); (try with_reducible rfl); clear hU; intro hU; (try simp only [Act.put, List.setIfInBounds_toArray, List.set_cons_zero, List.set_cons_succ])
  refine T_take (i := 14) hU 32 ?_ rfl rfl (by decide) (by kernel_rfl) (by kernel_rfl) (fun _ _ _ h => h) (Or.inl ⟨by rfl, ?_⟩) hHeld ?_; rotate_left; (intro w hSw; (try dsimp only at hSw); go_simp); (try with_reducible rfl); clear hU; intro hU; (try simp only [Act.put, List.setIfInBounds_toArray, List.set_cons_zero, List.set_cons_succ])
  refine T_last (N := 15) rfl (by kernel_rfl) (by kernel_rfl) (fun K hK => ?_); clear hU hHeld
  go_simp
  refine hK.out _ _ (NoPanic.normal ?_); clear hK K
  have hxe := Hxe.out
  have hdec : decide (IntKind.i64.wrap (4 + IntKind.i64.wrap ((segs.length : Int) / 8)) ≤ (xs.length : Int)) = true := by
    have h1 := He.out
    rw [hxe]
    have e1 : IntKind.i64.wrap ((segs.length : Int) / 8) = (segs.length : Int) / 8 := by rw [IntKind.wrap_i64]; omega
    rw [e1]
    have e2 : IntKind.i64.wrap (4 + (segs.length : Int) / 8) = 4 + (segs.length : Int) / 8 := by rw [IntKind.wrap_i64]; omega
    rw [e2]; simp; omega
  rw [hdec]
  have hf1 : (1 : Int) < fs.length := by omega
  clear hown hxe hxl hdec hb4 hb4' hl hp hfs x3 c4' c5'
  go_wp2_with (first
    | (go_at_call 106; refine (lfree_ok l L fs _ _ HL4.out.at_ HL4.out.free HL4.out.few).mono ?_; rintro e w5 ⟨v5, rfl, hr5, hb5⟩; obtain ⟨p5, c5v, rfl⟩ := ownsRow_slice hr5))
  refine bodyPost_ret (v := .tuple #[]) (by simp [results, Tryz.results69, go_sem]) rfl ⟨rfl, HB4.out.trans (hb5.mono HB4.out.size)⟩
end Go.Proofs.YtnndkfhpifgaiaaGreat
namespace Go.Proofs.YtnndkfhpifgaiaaGreat
open Go.RowKit

theorem built146 (a b c : Int) : Tryz.prog.built 146 [(0, .int .i64 a), (1, .int .i64 b), (2, .int .i64 c)] = some #[.int .i64 a, .int .i64 b, .int .i64 c] := by kernel_rfl
theorem info9 : (Tryz.prog.info? 9).map (fun i => (i.zero, i.size, i.bytes)) = some (some (.string ⟨#[]⟩), 1, 16) := by kernel_rfl
theorem size124 : (Tryz.prog.info? 124).map (·.size) = some 1 := by kernel_rfl
theorem size143 : (Tryz.prog.info? 143).map (·.size) = some 1 := by kernel_rfl

theorem ownsRow_zero {W : World} {base : Nat} {e : TypeId} {size : Nat} {v : Value} {k : Nat} {xs : List Value} (h : W.ownsRow base e size v k xs) : W.ownsRow 0 e size v k xs := ownsRow_lower h (Nat.zero_le _)

section
variable {o : Oper} {ops : Array Oper} {Q : Exit → Act → World → Prop} {rest : List Oper} {a : Act} {w : World}
/-- 'append(l, x)', l a list of entries of the call's own. -/
theorem wpList_appendEnt (hg : o.guard = none) (s x : Operand) (ho : o.op = .call { callee := .builtin .append, args := #[s, x], argTypes := #[124, 124] })
    (base : Nat) (v : Value) (n : Nat) (xs : List Value) (hs : a.eval s = v) (hown : w.ownsRow base 146 3 v n xs) (b : Nat) (k1 k2 k3 : Int) (hx : a.eval x = .slice (some ⟨b, 0, none⟩) 1 1) (hb : At w b #[.int .i64 k1, .int .i64 k2, .int .i64 k3] 146) (hn : n ≤ 1000) (hbase : base ≤ w.heap.size)
    (h : ∀ v' w', w'.ownsRow base 146 3 v' (n + 1) (xs ++ [.int .i64 k1, .int .i64 k2, .int .i64 k3]) → w.grownBy w' v.ownBlock → (v'.ownBlock = v.ownBlock ∨ v'.ownBlock = some w.heap.size) → wpList Tryz.prog ops Q rest (a.put o.dst v') w') : wpList Tryz.prog ops Q (o :: rest) a w := by
  refine wpList_appendHere hg s x _ ho 146 3 24 (.agg #[.int .i64 0, .int .i64 0, .int .i64 0]) Tryz.underlying124 info146 rfl (by omega) v n xs hs (ownsRow_zero hown) ⟨b, 0, none⟩ 1 1 [.int .i64 k1, .int .i64 k2, .int .i64 k3] hx rfl (fun j u hj => ?_) (by intro u hu; simp at hu; rcases hu with rfl | rfl | rfl <;> rfl) (by unfold maxLen; omega) (by omega) (fun v' w' h1 h2 h3 => h v' w' (ownsRow_raise h1 fun j hj => ?_) h2 h3)
  · match j, hj with
    | 0, hj => simp at hj; subst hj; simpa [Addr.add] using hb.cell 0
    | 1, hj => simp at hj; subst hj; simpa [Addr.add] using hb.cell 1
    | 2, hj => simp at hj; subst hj; simpa [Addr.add] using hb.cell 2
  · rcases h3 with h3 | h3
    · exact (hown.lt j (h3 ▸ hj)).1
    · rw [h3] at hj; simp only [Option.some.injEq] at hj; omega

/-- 'append(l, x)', l a list of strings of the call's own. -/
theorem wpList_appendBlk (hg : o.guard = none) (s x : Operand) (ho : o.op = .call { callee := .builtin .append, args := #[s, x], argTypes := #[143, 143] })
    (base : Nat) (v : Value) (n : Nat) (xs : List Value) (hs : a.eval s = v) (hown : w.ownsRow base 9 1 v n xs) (b : Nat) (k : ByteArray) (hx : a.eval x = .slice (some ⟨b, 0, none⟩) 1 1) (hb : At w b #[.string k] 9) (hn : n ≤ 1000) (hbase : base ≤ w.heap.size)
    (h : ∀ v' w', w'.ownsRow base 9 1 v' (n + 1) (xs ++ [.string k]) → w.grownBy w' v.ownBlock → (v'.ownBlock = v.ownBlock ∨ v'.ownBlock = some w.heap.size) → wpList Tryz.prog ops Q rest (a.put o.dst v') w') : wpList Tryz.prog ops Q (o :: rest) a w := by
  refine wpList_appendHere hg s x _ ho 9 1 16 (.string ⟨#[]⟩) Tryz.underlying143 info9 rfl (by omega) v n xs hs (ownsRow_zero hown) ⟨b, 0, none⟩ 1 1 [.string k] hx rfl (fun j u hj => ?_) (by intro u hu; simp at hu; subst hu; rfl) (by unfold maxLen; omega) (by omega) (fun v' w' h1 h2 h3 => h v' w' (ownsRow_raise h1 fun j hj => ?_) h2 h3)
  · match j, hj with
    | 0, hj => simp at hj; subst hj; simpa [Addr.add] using hb.cell 0
  · rcases h3 with h3 | h3
    · exact (hown.lt j (h3 ▸ hj)).1
    · rw [h3] at hj; simp only [Option.some.injEq] at hj; omega
end

theorem entries_of_list {w : World} {B m : Nat} {v : Value} {es : List (Int × Int × Int)} (h : w.ownsRow B 146 3 v m (es.flatMap fun e => [.int .i64 e.1, .int .i64 e.2.1, .int .i64 e.2.2])) (hm : es.length = m) (hx : ∀ e ∈ es, EntryOk e.1 e.2.1 e.2.2) : EntriesAt EntryOk w v m w.heap.size := by
  obtain ⟨hl, h⟩ := h
  rcases h with ⟨rfl, rfl⟩ | ⟨g, cap, cur, rfl, hb, hg, hnc, hcm, hcs, htake⟩
  · exact ⟨none, 0, rfl, Or.inl ⟨rfl, rfl, rfl⟩⟩
  · refine ⟨_, _, rfl, Or.inr ⟨g, cur, (Array.getElem?_eq_some_iff.1 hg).1, rfl, hg, fun i hi => ?_⟩⟩
    have key : ∀ (l : List (Int × Int × Int)) (i : Nat) (e : Int × Int × Int), l[i]? = some e → (l.flatMap fun e => [Value.int .i64 e.1, .int .i64 e.2.1, .int .i64 e.2.2])[i * 3]? = some (.int .i64 e.1) ∧ (l.flatMap fun e => [Value.int .i64 e.1, .int .i64 e.2.1, .int .i64 e.2.2])[i * 3 + 1]? = some (.int .i64 e.2.1) ∧ (l.flatMap fun e => [Value.int .i64 e.1, .int .i64 e.2.1, .int .i64 e.2.2])[i * 3 + 2]? = some (.int .i64 e.2.2) := by
      intro l
      induction l with
      | nil => intro i e he; simp at he
      | cons e0 l ih =>
        intro i e he
        cases i with
        | zero => simp at he; subst he; simp
        | succ i =>
          have := ih i e (by simpa using he)
          have e1 : (i + 1) * 3 = i * 3 + 3 := by omega
          simp only [List.flatMap_cons, e1]
          refine ⟨?_, ?_, ?_⟩ <;> simp [List.getElem?_cons, this.1, this.2.1, this.2.2]
    obtain ⟨e, he⟩ : ∃ e, es[i]? = some e := ⟨_, List.getElem?_eq_getElem (by omega)⟩
    obtain ⟨k1, k2, k3⟩ := key es i e he
    have hc : ∀ j u, j < m * 3 → (es.flatMap fun e => [Value.int .i64 e.1, .int .i64 e.2.1, .int .i64 e.2.2])[j]? = some u → w.cell? ⟨g, j, none⟩ = some u := by
      intro j u hj hu
      rw [cell_of_row w g j cur _ _ hg]
      have h2 : (cur.toList.take (m * 3))[j]? = some u := by rw [htake]; exact hu
      rw [List.getElem?_take, if_pos hj] at h2
      rw [← h2]; simp
    exact ⟨e.1, e.2.1, e.2.2, hx e (List.mem_of_getElem? he), hc _ _ (by omega) k1, hc _ _ (by omega) k2, hc _ _ (by omega) k3⟩

theorem blocks_of_list {w : World} {B m : Nat} {v : Value} {ss : List ByteArray} (h : w.ownsRow B 9 1 v m (ss.map Value.string)) (hm : ss.length = m) (hx : ∀ s ∈ ss, s.size = 256) : BlocksAt w v m w.heap.size := by
  obtain ⟨hl, h⟩ := h
  rcases h with ⟨rfl, rfl⟩ | ⟨g, cap, cur, rfl, hb, hg, hnc, hcm, hcs, htake⟩
  · exact ⟨none, 0, rfl, Nat.le_refl _, .inl rfl⟩
  · refine ⟨_, cap, rfl, hnc, .inr ⟨g, ss, (Array.getElem?_eq_some_iff.1 hg).1, rfl, hm, hx, fun j x hj => ?_⟩⟩
    rw [cell_of_row w g j cur _ _ hg]
    have hjm : j < ss.length := (List.getElem?_eq_some_iff.1 hj).1
    have h2 : (cur.toList.take (m * 1))[j]? = some (.string x) := by rw [htake, List.getElem?_map, hj]; rfl
    rw [List.getElem?_take, if_pos (by omega)] at h2
    rw [← h2]; simp

/-- A writer's cells. -/
def wrCells (a0 a1 a2 a3 a4 f g h : Int) (lv bv : Value) (sec : Int) : Array Value := #[.int .i64 a0, .int .i64 a1, .int .i64 a2, .int .i64 a3, .int .i64 a4, .int .i64 f, .int .i64 g, .int .i64 h, lv, bv, .int .i64 sec]

set_option maxRecDepth 100000 in
set_option maxHeartbeats 2000000 in
theorem wput_ok (q : Nat) (a0 a1 a2 a3 a4 f g h sec kd n p : Int) (s : ByteArray) (w : World) (hA : At w q (wrCells a0 a1 a2 a3 a4 f g h (.slice none 0 0) (.slice none 0 0) sec) 198) (hs0 : 0 ≤ sec) (hs1 : sec ≤ 20000) :
    Calls Tryz.prog 109 #[.pointer (some ⟨q, 0, none⟩), .int .i64 kd, .int .i64 n, .int .i64 p, .string s] w fun e w' => e = .returned (.int .i64 sec) ∧ ∃ lv bv, At w' q (wrCells a0 a1 a2 a3 a4 f g h lv bv (sec + 1)) 198 ∧
      w'.ownsRow w.heap.size 146 3 lv 1 [.int .i64 kd, .int .i64 n, .int .i64 p] ∧ w'.ownsRow w.heap.size 9 1 bv 1 [.string s] ∧ Keep (· = q) w w' := by
  have hlt := hA.lt
  have c8 : w.cell? ⟨q, 8, none⟩ = some (.slice none 0 0) := hA.cell 8
  have HA := Lib.hid hA
  have hw1 : IntKind.i64.wrap (sec + 1) = sec + 1 := by rw [IntKind.wrap_i64]; omega
  have hw2 : IntKind.i64.wrap (sec + 1 - 1) = sec := by rw [IntKind.wrap_i64]; omega
  clear hA
  go_enter Tryz.func109, Tryz.ntmps109
  go_wp2_with (first
    | (refine wpList_buildL rfl 146 _ rfl _ _ (built146 kd n p) rfl ?_)
    | (refine wpList_appendEnt rfl _ _ rfl w.heap.size (.slice none 0 0) 0 [] rfl (World.ownsRow_nil _ _ _ _) w.heap.size kd n p rfl (At.new _ _ _) (by omega) (by simp) ?_; intro lv w2 hown2 hgrow2 hblk2; have K2 : Keep (fun _ => False) w w2 := ((Keep.refl (fun _ => False) w).alloc _).grown hgrow2 (fun k hk => by cases hk); have HA2 := Lib.hid (K2.at HA.out id); obtain ⟨pl, cl, rfl⟩ := ownsRow_slice hown2; have HO2 := Lib.hid hown2; have HK2 := Lib.hid K2; clear hgrow2 hblk2 K2 hown2)
    | (refine wpList_storeCell rfl 124 _ _ rfl rfl q 8 (.slice pl 1 cl) _ _ rfl rfl HA2.out (show (8 : Nat) < 11 by decide) size124 rfl rfl ?_; intro w3 hA3 hk3 hs3; have HA3 := Lib.hid (show At w3 q (wrCells a0 a1 a2 a3 a4 f g h (.slice pl 1 cl) (.slice none 0 0) sec) 198 from hA3); have HO3 := Lib.hid (hk3.ownsRow HO2.out (fun b hb e => by have := (HO2.out.lt b hb).1; omega)); have HK3 := Lib.hid ((HK2.out.mono (fun _ _ h => h.elim)).trans hk3 (fun _ _ h => h)); have c9 : w3.cell? ⟨q, 9, none⟩ = some (.slice none 0 0) := HA3.out.cell 9; clear hA3 hk3 hs3)
    | (refine wpList_appendBlk rfl _ _ rfl w.heap.size (.slice none 0 0) 0 [] rfl (World.ownsRow_nil _ _ _ _) w3.heap.size s rfl (At.new _ _ _) (by omega) (by have := HK3.out.size; simp; omega) ?_; intro bv w4 hown4 hgrow4 hblk4; have K4 : Keep (fun _ => False) w3 w4 := ((Keep.refl (fun _ => False) w3).alloc _).grown hgrow4 (fun k hk => by cases hk); have HA4 := Lib.hid (K4.at HA3.out id); obtain ⟨pb, cb, rfl⟩ := ownsRow_slice hown4; have HB4 := Lib.hid hown4; have HO4 := Lib.hid (K4.ownsRow HO3.out (fun _ _ h => h)); have HK4 := Lib.hid (HK3.out.trans (K4.mono (fun _ _ h => h.elim)) (fun _ _ h => h)); clear hgrow4 hblk4 K4 hown4)
    | (refine wpList_storeCell rfl 143 _ _ rfl rfl q 9 (.slice pb 1 cb) _ _ rfl rfl HA4.out (show (9 : Nat) < 11 by decide) size143 rfl rfl ?_; intro w5 hA5 hk5 hs5; have HA5 := Lib.hid (show At w5 q (wrCells a0 a1 a2 a3 a4 f g h (.slice pl 1 cl) (.slice pb 1 cb) sec) 198 from hA5); have HO5 := Lib.hid (hk5.ownsRow HO4.out (fun b hb e => by have := (HO4.out.lt b hb).1; omega)); have HB5 := Lib.hid (hk5.ownsRow HB4.out (fun b hb e => by have := (HB4.out.lt b hb).1; omega)); have HK5 := Lib.hid (HK4.out.trans hk5 (fun _ _ h => h)); have c10 : w5.cell? ⟨q, 10, none⟩ = some (.int .i64 sec) := HA5.out.cell 10; clear hA5 hk5 hs5)
    | (refine wpList_storeCell rfl 3 _ _ rfl rfl q 10 (.int .i64 (sec + 1)) _ _ rfl rfl HA5.out (show (10 : Nat) < 11 by decide) size3 rfl rfl ?_; intro w6 hA6 hk6 hs6; have HA6 := Lib.hid (show At w6 q (wrCells a0 a1 a2 a3 a4 f g h (.slice pl 1 cl) (.slice pb 1 cb) (sec + 1)) 198 from hA6); have HO6 := Lib.hid (hk6.ownsRow HO5.out (fun b hb e => by have := (HO5.out.lt b hb).1; omega)); have HB6 := Lib.hid (hk6.ownsRow HB5.out (fun b hb e => by have := (HB5.out.lt b hb).1; omega)); have HK6 := Lib.hid (HK5.out.trans hk6 (fun _ _ h => h)); have c10' : w6.cell? ⟨q, 10, none⟩ = some (.int .i64 (sec + 1)) := HA6.out.cell 10; clear hA6 hk6 hs6 c10))
  go_ret
  exact ⟨rfl, _, _, HA6.out, HO6.out, HB6.out, HK6.out⟩
end Go.Proofs.YtnndkfhpifgaiaaGreat
