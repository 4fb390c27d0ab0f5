/-
  file.Commit.
  file.same, holds.
  file.renew: a new log behind a slot.
  file.save: a slot is written; the log goes on behind it.
-/
import Derived.Test.YtnndkfhpifgaiaaGreatM35
import Derived.Defers
set_option linter.unusedVariables false
set_option linter.unusedSimpArgs false
namespace Go.Proofs.YtnndkfhpifgaiaaGreat
open Go.RowKit

theorem cin_ok (v m : Int) (w : World) (h0 : 0 ≤ v) (h1 : v ≤ m) : Calls Tryz.prog 64 #[.int .i64 v, .int .i64 m] w fun e w' => e = .returned (.bool true) ∧ w' = w := by
  have e0 : decide (0 ≤ v) = true := by simpa using h0
  have e1 : decide (v ≤ m) = true := by simpa using h1
  go_enter Tryz.func64, Tryz.ntmps64
  go_wp2
  go_ret
  exact ⟨rfl, rfl⟩

set_option maxRecDepth 100000 in
set_option maxHeartbeats 1000000 in
/-- What was done since is forgotten: five new maps. -/
theorem abortD_ok (s : Nat) (cs : Array Value) (u : FrameMode) (w : World) (hA : At w s cs 92) (hc : cs.size = 19) : CallsD Tryz.prog 59 #[.pointer (some ⟨s, 0, none⟩)] u w fun e u' w' => u' = u ∧ (e = .returned (.tuple #[]) ∧
    At w' s (cs.toList.take 14 ++ [Value.map (some w.heap.size), .map (some (w.heap.size + 1)), .map (some (w.heap.size + 2)), .map (some (w.heap.size + 3)), .map (some (w.heap.size + 4))]).toArray 92 ∧
    IMap w' w.heap.size [] ∧ IMap w' (w.heap.size + 1) [] ∧ IMap w' (w.heap.size + 2) [] ∧ IMap w' (w.heap.size + 3) [] ∧ IMap w' (w.heap.size + 4) [] ∧ Keep (· = s) w w' ∧ w'.heap.size = w.heap.size + 5) := by
  have hmm := @run_makeMap Tryz.prog
  obtain ⟨i0, i1, i2, i3, i4, hk, hz⟩ := maps5 w
  have HA := Lib.hid (hk.at hA id)
  have Hc := Lib.hid hc
  have hlt := hA.lt
  clear hc hA
  have hfit : 14 + (#[Value.map (some w.heap.size), .map (some (w.heap.size + 1)), .map (some (w.heap.size + 2)), .map (some (w.heap.size + 3)), .map (some (w.heap.size + 4))] : Array Value).size ≤ cs.size := by rw [Hc.out]; simp
  have Hfit := Lib.hid hfit
  clear hfit
  have I0 := Lib.hid i0
  have I1 := Lib.hid i1
  have I2 := Lib.hid i2
  have I3 := Lib.hid i3
  have I4 := Lib.hid i4
  have Hz := Lib.hid hz
  clear i0 i1 i2 i3 i4 hz
  go_enter_d Tryz.func59, Tryz.ntmps59
  go_wp2_with (first
    | (refine wpList_buildL rfl 90 _ rfl _ _ (built90 w.heap.size (w.heap.size + 1) (w.heap.size + 2) (w.heap.size + 3) (w.heap.size + 4)) rfl ?_)
    | (refine wpList_storeAt rfl 90 _ _ rfl rfl s 14 _ cs 92 rfl rfl (show At (w5maps w) s cs _ from HA.out) Hfit.out (size90 _ _ _ _ _) (one90 _ _ _ _ _) ?_; intro w2 hA2 hk2 hs2))
  go_end0
  refine ⟨rfl, ?_, I0.out.keep hk2 (by omega), I1.out.keep hk2 (by omega), I2.out.keep hk2 (by omega), I3.out.keep hk2 (by omega), I4.out.keep hk2 (by omega), (hk.mono (fun _ _ h => h.elim)).trans hk2 (fun _ _ h => h), hs2.trans Hz.out⟩
  have e : (cs.toList.drop (14 + (#[Value.map (some w.heap.size), .map (some (w.heap.size + 1)), .map (some (w.heap.size + 2)), .map (some (w.heap.size + 3)), .map (some (w.heap.size + 4))] : Array Value).size)) = [] := by
    apply List.drop_eq_nil_of_le; rw [Array.length_toList, Hc.out]; simp
  rw [e, List.append_nil] at hA2
  exact hA2

/-- A store whose work was forgotten. -/
def StoreV.fresh (S : StoreV) (n : Nat) : StoreV := { S with mset := n, mtouch := n + 1, mnodes := n + 2, mturn := n + 3, mgone := n + 4 }

theorem StoreAt.aborted {w w' : World} {s n : Nat} {S : StoreV} {segs : List Int} {R : Option RootV} {now : Bool} {G : Nat → Prop} (h : StoreAt w s S segs R now G) (hA : At w' s (S.fresh n).cells 92) (i0 : IMap w' n []) (i1 : IMap w' (n + 1) []) (i2 : IMap w' (n + 2) []) (i3 : IMap w' (n + 3) []) (i4 : IMap w' (n + 4) [])
    (hk : Keep (· = s) w w') (hn : n = w.heap.size) : StoreAt w' s (S.fresh n) segs R false (fun k => G k ∨ (n ≤ k ∧ k ≤ n + 4)) := by
  have hlt := h.lt
  have nb : ∀ {k l}, IMap w k l → ¬ (k = s) := fun hi e => imap_ne_at hi h.cells e
  have b1 := hlt _ h.gb.1
  have b2 := hlt _ h.gb.2.1
  exact {
    cells := hA
    segs := ⟨hk.ownsRow h.segs.1 (fun b hb e => by subst e; exact own_ne_at h.segs.1 h.cells (by decide) hb rfl), fun b hb => .inl (h.segs.2 b hb)⟩
    base := h.base.keep hk (nb h.base)
    last := h.last.imp fun l hl => hl.keep hk (nb hl)
    set := i0
    touch := i1
    nodes := i2
    turn := i3
    gone := i4
    root := fun r hr => by
      obtain ⟨h1, h2, h3, h4, h5, h6⟩ := h.root r hr
      refine ⟨hk.at h1 (fun e => ?_), h2.keep hk (nb h2), h3.keep hk (nb h3), .inl h4, .inl h5, .inl h6⟩
      have e1 : At w s r.cells 141 := e ▸ h1
      have e2 := h.cells
      unfold At at e1 e2
      rw [e1] at e2
      simp at e2
    gs := .inl h.gs
    gb := ⟨.inl h.gb.1, .inl h.gb.2.1, .inr ⟨Nat.le_refl _, by simp [StoreV.fresh]⟩, .inr ⟨by simp [StoreV.fresh], by simp [StoreV.fresh]⟩, .inr ⟨by simp [StoreV.fresh], by simp [StoreV.fresh]⟩, .inr ⟨by simp [StoreV.fresh], by simp [StoreV.fresh]⟩, .inr ⟨by simp [StoreV.fresh], by simp [StoreV.fresh]⟩⟩
    ne := by
      have hbl := h.ne.2.2.2.2.2.2.2.1
      simp only [StoreV.fresh]
      refine ⟨by omega, by omega, by omega, by omega, by omega, by omega, by omega, hbl, by omega, by omega, by omega, by omega, by omega, by omega, by omega, by omega, by omega, by omega⟩
    neR := h.neR
    lt := fun k hk' => by
      rcases hk' with hk' | ⟨_, hk'⟩
      · have := hlt k hk'; have := hk.size; omega
      · have := i4.lt; omega }

theorem built126 (f g h : Int) : Tryz.prog.built 126 [(5, .int .i64 f), (6, .int .i64 g), (7, .int .i64 h)] = some (headV f g h) := by kernel_rfl
theorem zero126 : (Tryz.prog.info? 126).bind (·.zero) = some (.agg (headV 0 0 0)) := by kernel_rfl
theorem one126 (f g h : Int) : (headV f g h).all (·.oneCell') = true := by simp [headV, Value.oneCell']

/-- What Commit asks. -/
structure CmEnv (w : World) (s : Nat) (S : StoreV) (segs : List Int) (G : Nat → Prop) (l : Nat) (L : LogV) (fs : List Int) (n dn Bd : Nat) (F : Nat → Prop) : Prop where
  st : StoreAt w s S segs none true G
  lg : LogOf w S l L fs
  dk : DiskAt w L.d dn Bd F
  d : S.d = L.d
  num : WrNum S L n dn
  FG : ∀ k, F k → ¬ G k
  Fl : ¬ F l
  Gl : ¬ G l
  bd : Bd + 200 < 1000000000
  fs : 2 ≤ fs.length
  segs8 : 8 ≤ segs.length
  segs40 : segs.length ≤ 40
  room : 4 + segs.length / 8 ≤ (but L.x.seg L.x.seg segs).length

/-- What Commit leaves: the root on the disk, no work. -/
def CommitEnd (w : World) (s : Nat) (S : StoreV) (segs : List Int) (G : Nat → Prop) (l : Nat) (L : LogV) (dn Bd : Nat) (F : Nat → Prop) (f g h : Int) (e : Ending) (w' : World) : Prop := e = .returned (.bool true) ∧ ∃ m r G' F',
  StoreAt w' s (S.fresh m) segs (some r) false G' ∧ 48 ≤ r.sector ∧ r.sector < S.sct ∧ LogAt w' l (L.on 1 f g h) ∧ DiskAt w' L.d dn (Bd + 2) F' ∧ (∀ k, F' k → ¬ G' k) ∧ ¬ F' l ∧ ¬ G' l ∧ (∀ k, F' k → F k ∨ w.heap.size ≤ k) ∧ (∀ k, G' k → G k ∨ w.heap.size ≤ k) ∧
  Keep (fun k => F k ∨ G k ∨ k = l) w w'

set_option maxRecDepth 100000 in
set_option maxHeartbeats 4000000 in
theorem commit_ok (s : Nat) (S : StoreV) (segs : List Int) (G : Nat → Prop) (l : Nat) (L : LogV) (fs : List Int) (n dn Bd : Nat) (F : Nat → Prop) (f g h : Int) (w : World) (hE : CmEnv w s S segs G l L fs n dn Bd F)
    (hf : 0 ≤ f ∧ f ≤ 1099511627776) (hgg : 0 ≤ g ∧ g ≤ 1099511627777) (hhh : 0 ≤ h ∧ h ≤ 1099511627777) :
    Calls Tryz.prog 41 #[.pointer (some ⟨s, 0, none⟩), .int .i64 f, .int .i64 g, .int .i64 h] w (CommitEnd w s S segs G l L dn Bd F f g h) := by
  have HE := Lib.hid hE
  have Hz : Hid (Sized S none n) := Lib.hid ⟨hE.num.sct, hE.num.lo, hE.num.hi, fun r hr => by cases hr⟩
  have hrm : (1 : Int) ≤ ((segs.length : Int) - 4) * 8 := by have := hE.segs8; omega
  have hrm' : ¬ (((segs.length : Int) - 4) * 8 < 1) := by omega
  have c0 : w.cell? ⟨s, 0, none⟩ = some (.pointer (some ⟨L.d, 0, none⟩)) := by rw [← hE.d]; exact hE.st.cells.cell 0
  have Hsc : Hid (304 ≤ S.sct ∧ S.sct ≤ 16384) := Lib.hid (by have := hE.num.sct; have := hE.num.lo; have := hE.num.hi; omega)
  clear hE hrm
  go_enter_defers Tryz.func41, Tryz.ntmps41
  go_wp2_with (first
    | (refine wpList_buildL rfl 126 _ rfl _ _ (built126 f g h) rfl ?_)
    | (refine wpList_allocAt rfl 126 rfl (headV 0 0 0) zero126 ?_; intro w1 hz1 hk1 hs1; have HZ1 := Lib.hid hz1; have Hk1 := Lib.hid hk1; have Hs1 := Lib.hid hs1; clear hz1 hk1 hs1)
    | (refine wpList_storeRow rfl 126 _ _ rfl rfl w.heap.size (headV f g h) (headV 0 0 0) _ rfl rfl HZ1.out rfl size126 (one126 _ _ _) ?_; intro w2 hA2 hk2 hs2; have b2 : Below w.heap.size w w2 := Hk1.out.below.trans (hk2.belowOf (by have := Hs1.out; omega) (by intro b hb e; omega)); have HB2 := Lib.hid b2; have HH2 := Lib.hid hA2; have c0' : w2.cell? ⟨s, 0, none⟩ = some (.pointer (some ⟨L.d, 0, none⟩)) := Below.keepCell b2 c0; clear hA2 hk2 hs2 b2 c0 HZ1 Hk1 Hs1)
    | (go_at_call 25; refine (down_at L.d dn Bd F _ (HE.out.dk.below HB2.out)).mono ?_; rintro e w3 ⟨rfl, rfl⟩)
    | (go_at_call 65; refine (plan_ok s S segs none G _ (HE.out.st.below HB2.out)).mono ?_; rintro e w4 ⟨p, V, sub, rfl, hp, hb⟩; have HB4 := Lib.hid (HB2.out.trans (hb.mono HB2.out.size)); have HH4 := Lib.hid (Below.at hb HH2.out HH2.out.lt); have HP4 := Lib.hid hp; clear hp hb)
    | (go_at_call 66; refine (psize_ok p V sub _ _ HP4.out).mono ?_; rintro e w5 ⟨rfl, hb⟩; have HB5 := Lib.hid (HB4.out.trans (hb.mono HB4.out.size)); have HH5 := Lib.hid (Below.at hb HH4.out HH4.out.lt); clear hb)
    | (go_at_call 64; refine (cin_ok _ _ _ (by omega) (by omega)).mono ?_; rintro e w6 ⟨rfl, rfl⟩)
    | (go_at_call 67; refine (live_one s S segs none true G _ (HE.out.st.below HB5.out) (.inl rfl)).mono ?_; rintro e w7 ⟨rfl, hb⟩; have HB7 := Lib.hid (HB5.out.trans (hb.mono HB5.out.size)); have HH7 := Lib.hid (Below.at hb HH5.out HH5.out.lt); clear hb)
    | (go_at_call 68; refine (sroom_ok s S segs none true G _ (HE.out.st.below HB7.out) (by have := HE.out.segs8; omega) HE.out.segs40 Hsc.out.1 Hsc.out.2).mono ?_; rintro e w8 ⟨rfl, hb⟩; have HB8 := Lib.hid (HB7.out.trans (hb.mono HB7.out.size)); have HH8 := Lib.hid (Below.at hb HH7.out HH7.out.lt); clear hb)
    | (go_at_call 69; refine (ready_ok s S segs true n G l L fs _ (HE.out.st.below HB8.out) Hz.out HE.out.segs40 HE.out.segs8 (HE.out.lg.below HB8.out) HE.out.fs HE.out.room).mono ?_; rintro e w9 ⟨rfl, hb⟩; have HB9 := Lib.hid (HB8.out.trans (hb.mono HB8.out.size)); have HH9 := Lib.hid (Below.at hb HH8.out HH8.out.lt); clear hb))
  have rH : w9.rangeAt w.heap.size 0 (headV f g h).toList := HH9.out.range 0 9
  have hu126 := Tryz.underlying126
  have hz9 := HB9.out.size
  have hd9 : w9.drew.heap.size = w9.heap.size := rfl
  obtain ⟨D0, hD1, hD2, hFlt⟩ := HE.out.dk
  have hGlt := HE.out.st.lt
  have hllt := HE.out.lg.at_.lt
  have hbs : ¬ (F w.heap.size ∨ w.heap.size = l ∨ w.heap.size = S.base ∨ w.heap.size = S.last) := by
    rintro (e | e | e | e)
    · have := hFlt _ e; omega
    · omega
    · have := hGlt _ HE.out.st.gb.1; omega
    · have := hGlt _ HE.out.st.gb.2.1; omega
  clear HB2 HB4 HB5 HB7 HB8 HH2 HH4 HH5 HH7 HH8 HP4
  (try simp only [Act.put, List.setIfInBounds_toArray, List.set_cons_zero, List.set_cons_succ])
  refine wp_region_noPanic ?_
  refine T_region 5 (fun w' => w'.rangeAt w.heap.size 0 (headV f g h).toList) (by kernel_rfl) (by kernel_rfl) (by kernel_rfl) (by decide) (by kernel_rfl) rH (fun hHeld hU => ?_)
  refine T_take (i := 0) hU 54 ?_ rfl rfl (by decide) (by kernel_rfl) (by kernel_rfl) (fun _ _ _ h => h) (Or.inl ⟨by rfl, ?_⟩) hHeld ?_; rotate_left; (intro w hSw; (try dsimp only at hSw); go_simp); (try with_reducible rfl); clear hU; intro hU; (try simp only [Act.put, List.setIfInBounds_toArray, List.set_cons_zero, List.set_cons_succ])
  refine T_take (i := 1) hU 55 ?_ rfl rfl (by decide) (by kernel_rfl) (by kernel_rfl) (fun _ _ _ h => h) (Or.inl ⟨by rfl, ?_⟩) hHeld ?_; rotate_left; (intro w hSw; (try dsimp only at hSw); go_simp); (try with_reducible rfl); clear hU; intro hU; (try simp only [Act.put, List.setIfInBounds_toArray, List.set_cons_zero, List.set_cons_succ])
  refine T_take (i := 3) hU 57 (.agg (headV f g h)) rfl rfl (by decide) (by kernel_rfl) (by kernel_rfl) (fun _ _ _ h => h) (yields_load _ _ _ _ rfl _ _ rfl w.heap.size 0 rfl _ _ hu126 rfl (size126l f g h) (fun _ h => h)) hHeld ?_; clear hU; intro hU; (try simp only [Act.put, List.setIfInBounds_toArray, List.set_cons_zero, List.set_cons_succ])
  have hHeld2 := hHeld
  refine T_step (i := 2) hU rfl (by decide) (by kernel_rfl) (fun K hK => ?_); clear hU hHeld
  go_simp
  go_at_call 65
  refine (plan_ok s S segs none G _ (HE.out.st.below HB9.out).drew).mono ?_
  rintro e w10 ⟨p2, V2, sub2, rfl, hp10, hb10⟩
  have b10 : Below w9.heap.size w9 w10 := (World.drew_below0 w9).trans hb10
  have HB10 := Lib.hid (HB9.out.trans (b10.mono hz9))
  refine hK.out _ _ (Below.keepRange hb10 hHeld2) (fun hHeld hU => ?_); clear hK K; (try simp only [Act.put, List.setIfInBounds_toArray, List.set_cons_zero, List.set_cons_succ])
  have hHeld4 := hHeld
  refine T_step (i := 4) hU rfl (by decide) (by kernel_rfl) (fun K hK => ?_); clear hU hHeld
  go_simp
  go_at_call 70
  refine (fwrite_ok s S segs G p2 V2 sub2 w9.drew.heap.size l L fs n dn Bd F f g h w10 ⟨HE.out.st.below HB10.out, hp10, HE.out.lg.below HB10.out, HE.out.dk.below HB10.out⟩ HE.out.num (fun k hk => by have := hGlt k hk; omega) (fun k hk => by have := hFlt k hk; omega) (by omega) HE.out.FG HE.out.Fl HE.out.Gl HE.out.bd hf hgg hhh).mono ?_
  rintro e w11 ⟨rfl, st, ind, F', hS11, hL11, hD11, hFG11, hFl11, hGl11, hFF11, hst11, hind11, hk11⟩
  refine hK.out _ _ (hk11.keepRange hbs hHeld4) (fun hHeld hU => ?_); clear hK K; (try simp only [Act.put, List.setIfInBounds_toArray, List.set_cons_zero, List.set_cons_succ])
  refine T_last (N := 5) rfl (by kernel_rfl) (by kernel_rfl) (fun K hK => ?_); clear hU hHeld
  go_simp
  refine hK.out _ _ (NoPanic.normal ?_); clear hK K
  have hz10 := HB10.out.size
  have K11 := (Keep.of_below HB10.out (fun k => F k ∨ k = l ∨ k = S.base ∨ k = S.last)).trans hk11 (fun _ _ h => h)
  have hsub := hp10.ge.2.2.2.2.2.2
  have hz11 := K11.size
  go_wp2
  refine leaves_cons (f := 59) (args := #[.pointer (some ⟨s, 0, none⟩)]) (by simp) (by simp [go_sem]) ?_
  refine (abortD_ok s S.cells .returning _ hS11.cells rfl).mono ?_
  rintro e u' w12 ⟨rfl, rfl, hA12, i0, i1, i2, i3, i4, hk12, hz12⟩
  refine ⟨_, results_tmp rfl _ _ _, rfl, w11.heap.size, _, _, F', hS11.aborted hA12 i0 i1 i2 i3 i4 hk12 rfl, ?_, ?_, hk12.at hL11 (fun e => HE.out.Gl (e ▸ HE.out.st.gs)), hD11.kept hk12 (fun k hk e => hFG11 k hk (.inl (e ▸ HE.out.st.gs))), ?_, hFl11, ?_, ?_, ?_, ?_⟩
  · have := HE.out.num.seg; have := HE.out.num.at_; simp only; omega
  · have := HE.out.num.seg; have := HE.out.num.at_; have := HE.out.num.sct; simp only; omega
  · obtain ⟨_, _, _, hlt11⟩ := hD11
    rintro k hk (e | ⟨e, _⟩)
    · exact hFG11 k hk e
    · have := hlt11 k hk; omega
  · rintro (e | ⟨e, _⟩)
    · exact hGl11 e
    · omega
  · intro k hk
    rcases hFF11 k hk with h1 | h1
    · exact .inl h1
    · exact .inr (by omega)
  · rintro k ((e | e | e | e) | ⟨e, _⟩)
    · exact .inl e
    · exact .inr (by omega)
    · exact .inr (by omega)
    · exact .inr (by omega)
    · exact .inr (by omega)
  · refine (K11.mono ?_).trans hk12 ?_
    · rintro k _ (e | e | e | e)
      · exact .inl e
      · exact .inr (.inr e)
      · exact .inr (.inl (e ▸ HE.out.st.gb.1))
      · exact .inr (.inl (e ▸ HE.out.st.gb.2.1))
    · rintro k _ e
      exact .inr (.inl (e ▸ HE.out.st.gs))
end Go.Proofs.YtnndkfhpifgaiaaGreat
namespace Go.Proofs.YtnndkfhpifgaiaaGreat
open Go.RowKit

set_option maxRecDepth 100000 in
set_option maxHeartbeats 1000000 in
theorem same_ok (s l : Nat) (L : LogV) (w : World) (c6 : w.cell? ⟨s, 6, none⟩ = some (.pointer (some ⟨l, 0, none⟩))) (hL : LogAt w l L) :
    Calls Tryz.prog 73 #[.pointer (some ⟨s, 0, none⟩)] w (Ans (.agg (headV L.x.clock L.x.sb L.x.sn)) w) := by
  have hu126 := Tryz.underlying126
  have HL := Lib.hid hL
  clear hL
  go_enter Tryz.func73, Tryz.ntmps73
  go_wp2_with (first
    | (refine wpList_allocAt rfl 126 rfl (headV 0 0 0) zero126 ?_; intro w1 hz1 hk1 hs1; have HZ1 := Lib.hid hz1; have Hk1 := Lib.hid hk1; have Hs1 := Lib.hid hs1; have c6' : w1.cell? ⟨s, 6, none⟩ = some (.pointer (some ⟨l, 0, none⟩)) := hk1.keepCell id c6; have HL1 := Lib.hid (show LogAt w1 l L from hk1.at HL.out id); clear hz1 hk1 hs1 c6)
    | (go_at_call 75; refine (lplace_ok l L _ HL1.out).mono ?_; rintro e w2 ⟨rfl, hb⟩; have HZ2 := Lib.hid (Below.at hb HZ1.out HZ1.out.lt); have Hb2 := Lib.hid hb; clear hb)
    | (refine wpList_allocAt rfl 82 rfl zSlot zero82 ?_; intro w3 hz hk hs; have HY3 := Lib.hid hz; have HZ3 := Lib.hid (hk.at HZ2.out id); have Hk3 := Lib.hid hk; have Hs3 := Lib.hid hs; clear hz hk hs)
    | (refine wpList_storeRow rfl 82 _ _ rfl rfl w2.heap.size L.x.cells zSlot _ rfl rfl HY3.out rfl (size82 _) (one82 _) ?_; intro w4 hA hk hs; have x2 : w4.cell? ⟨w2.heap.size, 2, none⟩ = some (.int .i64 L.x.clock) := hA.cell 2; have x11 : w4.cell? ⟨w2.heap.size, 11, none⟩ = some (.int .i64 L.x.sb) := hA.cell 11; have x12 : w4.cell? ⟨w2.heap.size, 12, none⟩ = some (.int .i64 L.x.sn) := hA.cell 12; have HZ4 := Lib.hid (hk.at HZ3.out (by have := HZ2.out.lt; omega)); have Hk4 := Lib.hid hk; clear hA hk hs)
    | (refine wpList_buildL rfl 126 _ rfl _ _ (built126 L.x.clock L.x.sb L.x.sn) rfl ?_)
    | (refine wpList_storeRow rfl 126 _ _ rfl rfl w.heap.size (headV L.x.clock L.x.sb L.x.sn) (headV 0 0 0) _ rfl rfl HZ4.out rfl size126 (one126 _ _ _) ?_; intro w5 hA5 hk5 hs5))
  refine bodyPost_ret (v := .agg (headV L.x.clock L.x.sb L.x.sn)) (results_cell1 Tryz.results73 _ _ w.heap.size _ (headV L.x.clock L.x.sb L.x.sn) _ rfl hA5 hu126 rfl size126) rfl ⟨rfl, ?_⟩
  have B1 := Hk1.out.below
  have B2 := B1.trans (Hb2.out.mono B1.size)
  have B3 := B2.trans (Hk3.out.below.mono B2.size)
  have B4 := B3.trans (Hk4.out.belowOf B3.size (by intro b hb e; have := B2.size; omega))
  exact B4.trans (hk5.belowOf B4.size (by omega))

theorem index80 (m0 m1 m2 m3 : Int) (k : Nat) (hk : k < 4) : ∃ x, (x = m0 ∨ x = m1 ∨ x = m2 ∨ x = m3) ∧ ∀ w : World, (Instr.index 80 (.agg #[.int .i64 m0, .int .i64 m1, .int .i64 m2, .int .i64 m3]) (.int .i64 k)).run Tryz.prog w = .ok (.int .i64 x) w := by
  match k, hk with
  | 0, _ => exact ⟨m0, .inl rfl, fun w => by kernel_rfl⟩
  | 1, _ => exact ⟨m1, .inr (.inl rfl), fun w => by kernel_rfl⟩
  | 2, _ => exact ⟨m2, .inr (.inr (.inl rfl)), fun w => by kernel_rfl⟩
  | 3, _ => exact ⟨m3, .inr (.inr (.inr rfl)), fun w => by kernel_rfl⟩

theorem size80 (a b c d : Value) : (Tryz.prog.info? 80).map (·.size) = some ([a, b, c, d] : List Value).length := by kernel_rfl

/-- A sector that a map names: none, or one of a segment's. -/
def MapOk (S : StoreV) (x : Int) : Prop := 0 ≤ x ∧ x < S.sct

set_option maxRecDepth 100000 in
set_option maxHeartbeats 2000000 in
theorem holds_ok (s : Nat) (S : StoreV) (seg : Int) (n : Nat) (w : World) (hA : At w s S.cells 92) (hs : S.sct = 48 + 32 * n) (h0 : 8 ≤ n) (h1 : n ≤ 137) (hm : MapOk S S.m0 ∧ MapOk S S.m1 ∧ MapOk S S.m2 ∧ MapOk S S.m3) :
    Calls Tryz.prog 170 #[.pointer (some ⟨s, 0, none⟩), .int .i64 seg] w fun e w' => (∃ r : Bool, e = .returned (.bool r)) ∧ Below w.heap.size w w' := by
  have hu80 := Tryz.underlying80
  have hu25 := Tryz.underlying25
  have HA := Lib.hid hA
  have Hs := Lib.hid hs
  have Hm := Lib.hid hm
  clear hA hs hm
  go_enter Tryz.func170, Tryz.ntmps170
  go_wp2_with (first
    | (refine wpList_loadIn rfl 80 _ rfl s 8 rfl 92 S.cells HA.out [.int .i64 S.m0, .int .i64 S.m1, .int .i64 S.m2, .int .i64 S.m3] rfl _ rfl hu80 (size80 _ _ _ _) ?_))
  go_loopg [14] 4 (fun gk i wr => ∃ k : Nat, k ≤ 4 ∧ gk = 4 - k ∧ i = .int .i64 k ∧ Below w.heap.size w wr)
  case atStart => exact ⟨0, by omega, by omega, rfl, Below.refl _ _⟩
  case round =>
    obtain ⟨k, hk, hgk, rfl, hb⟩ := hrel
    have Hgk := Lib.hid hgk
    have HB := Lib.hid hb
    clear hgk hb
    by_cases hlt : k < 4
    · obtain ⟨x, hx, hix⟩ := index80 S.m0 S.m1 S.m2 S.m3 k hlt
      have hmx : MapOk S x := by
        obtain ⟨a, b, c, d⟩ := Hm.out
        rcases hx with rfl | rfl | rfl | rfl <;> assumption
      have Hmx := Lib.hid hmx
      have hwk : IntKind.i64.wrap ((k : Int) + 1) = k + 1 := by rw [IntKind.wrap_i64]; omega
      clear hx hmx
      by_cases hin : 48 ≤ x
      · have Hp := Lib.hid (fun W => at_in S.sct x n W Hs.out h0 h1 hin Hmx.out.2)
        clear hin
        by_cases hc : (x - 48) / 32 = seg
        · subst hc
          go_wp2_with (first
            | (refine wpList_loadIn rfl 25 _ rfl s 1 rfl 92 S.cells (Below.at HB.out HA.out HA.out.lt) [.int .i64 S.sct, .int .i64 32] rfl _ rfl hu25 (size25 _ _) ?_)
            | (go_at_call 165; refine (Hp.out _).mono ?_; rintro e w1 ⟨rfl, hb1⟩))
          go_ret
          exact ⟨⟨_, rfl⟩, HB.out.trans (hb1.mono HB.out.size)⟩
        · have q : ((x - 48) / 32 == seg) = false := by simpa using hc
          go_wp2_with (first
            | (refine wpList_loadIn rfl 25 _ rfl s 1 rfl 92 S.cells (Below.at HB.out HA.out HA.out.lt) [.int .i64 S.sct, .int .i64 32] rfl _ rfl hu25 (size25 _ _) ?_)
            | (go_at_call 165; refine (Hp.out _).mono ?_; rintro e w1 ⟨rfl, hb1⟩))
          go_roundg (4 - (k + 1))
          case measure => have := Hgk.out; omega
          case rel => exact ⟨k + 1, by omega, rfl, by go_num, HB.out.trans (hb1.mono HB.out.size)⟩
      · have Hp := Lib.hid (fun W => at_low S.sct x W (by omega))
        clear hin
        go_wp2_with (first
          | (refine wpList_loadIn rfl 25 _ rfl s 1 rfl 92 S.cells (Below.at HB.out HA.out HA.out.lt) [.int .i64 S.sct, .int .i64 32] rfl _ rfl hu25 (size25 _ _) ?_)
          | (go_at_call 165; refine (Hp.out _).mono ?_; rintro e w1 ⟨rfl, hb1⟩))
        go_roundg (4 - (k + 1))
        case measure => have := Hgk.out; omega
        case rel => exact ⟨k + 1, by omega, rfl, by go_num, HB.out.trans (hb1.mono HB.out.size)⟩
    · obtain rfl : k = 4 := by omega
      go_wp2
      go_ret
      exact ⟨⟨_, rfl⟩, HB.out⟩
end Go.Proofs.YtnndkfhpifgaiaaGreat
namespace Go.Proofs.YtnndkfhpifgaiaaGreat
open Go.RowKit

theorem StoreAt.withLog {w w' : World} {s : Nat} {S : StoreV} {segs : List Int} {R : Option RootV} {now : Bool} {G : Nat → Prop} {lp : Option Addr} (h : StoreAt w s S segs R now G) (hA : At w' s ({ S with lp := lp } : StoreV).cells 92) (hk : Keep (· = s) w w') : StoreAt w' s { S with lp := lp } segs R now G := by
  have nb : ∀ {k l}, IMap w k l → ¬ (k = s) := fun hi e => imap_ne_at hi h.cells e
  exact {
    cells := hA
    segs := ⟨hk.ownsRow h.segs.1 (fun b hb e => by subst e; exact own_ne_at h.segs.1 h.cells (by decide) hb rfl), h.segs.2⟩
    base := h.base.keep hk (nb h.base)
    last := h.last.imp fun l hl => hl.keep hk (nb hl)
    set := h.set.keep hk (nb h.set)
    touch := h.touch.keep hk (nb h.touch)
    nodes := h.nodes.keep hk (nb h.nodes)
    turn := h.turn.keep hk (nb h.turn)
    gone := h.gone.keep hk (nb h.gone)
    root := fun r hr => by
      obtain ⟨h1, h2, h3, h4, h5, h6⟩ := h.root r hr
      refine ⟨hk.at h1 (fun e => ?_), h2.keep hk (nb h2), h3.keep hk (nb h3), h4, h5, h6⟩
      have e1 : At w s r.cells 141 := e ▸ h1
      have e2 := h.cells
      unfold At at e1 e2
      rw [e1] at e2
      simp at e2
    gs := h.gs
    gb := h.gb
    ne := h.ne
    neR := h.neR
    lt := fun k hk' => Nat.lt_of_lt_of_le (h.lt k hk') hk.size }

theorem size78 : (Tryz.prog.info? 78).map (·.size) = some 1 := by kernel_rfl

/-- The store has a log behind slot x. -/
def RenewEnd (w : World) (s : Nat) (S : StoreV) (segs : List Int) (R : Option RootV) (now : Bool) (G : Nat → Prop) (x : SlotV) (e : Ending) (w' : World) : Prop := e = .returned (.tuple #[]) ∧ ∃ l fv, StoreAt w' s { S with lp := some ⟨l, 0, none⟩ } segs R now G ∧
  LogAt w' l ⟨S.d, S.sct, S.h, S.g, x, fv⟩ ∧ (∃ p m c, fv = .slice p m c) ∧ w.heap.size ≤ l ∧ Keep (· = s) w w'

set_option maxRecDepth 100000 in
set_option maxHeartbeats 4000000 in
theorem renew_ok (s : Nat) (S : StoreV) (segs : List Int) (R : Option RootV) (now : Bool) (n : Nat) (G : Nat → Prop) (x : SlotV) (w : World) (h : StoreAt w s S segs R now G) (hz : Sized S R n) (hl : segs.length ≤ 40) (hp : 0 < segs.length) (hm : MapOk S S.m0 ∧ MapOk S S.m1 ∧ MapOk S S.m2 ∧ MapOk S S.m3) :
    Calls Tryz.prog 123 #[.pointer (some ⟨s, 0, none⟩), .agg x.cells] w (RenewEnd w s S segs R now G x) := by
  have HS := Lib.hid h
  have Hz := Lib.hid hz
  have Hm := Lib.hid hm
  have Hl := Lib.hid hl
  clear h hz hm hl
  go_enter Tryz.func123, Tryz.ntmps123
  go_wp2_with (first
    | (refine wpList_boxAt rfl 82 _ rfl x.cells rfl ?_; intro w1 hA1 hk1 hs1; have HX1 := Lib.hid hA1; have HB1 := Lib.hid hk1.below; have x3 : w1.cell? ⟨w.heap.size, 3, none⟩ = some (.int .i64 x.seg) := hA1.cell 3; have x5 : w1.cell? ⟨w.heap.size, 5, none⟩ = some (.int .i64 x.next) := hA1.cell 5; clear hA1 hk1 hs1)
    | (go_at_call 76; refine (empty_ok s S segs R now n G _ _ _ (HS.out.below HB1.out) Hz.out Hl.out hp).mono ?_; rintro e w2 ⟨v, xs, rfl, hown, hxl, hxe, hb⟩; have HO2 := Lib.hid hown; have HX2 := Lib.hid (Below.at hb HX1.out HX1.out.lt); have HB2 := Lib.hid (HB1.out.trans (hb.mono HB1.out.size)); have Hxl := Lib.hid hxl; obtain ⟨pv, cv, rfl⟩ := ownsRow_slice hown; clear hown hxl hxe hb x3 x5))
  have hlb : xs.length < 9223372036854775807 := by have := Hl.out; have := Hxl.out; omega
  have hx40 : xs.length ≤ 40 := by have := Hl.out; have := Hxl.out; omega
  have Hx40 := Lib.hid hx40
  clear hx40
  go_loopg [4, 14] xs.length (fun gk u i wr => ∃ (k : Nat) (ys : List Int), k ≤ xs.length ∧ gk = xs.length - k ∧ i = .int .i64 k ∧ wr.ownsRow w2.heap.size 3 1 u ys.length (ys.map (Value.int .i64)) ∧ ys.length ≤ k ∧ Below w2.heap.size w2 wr)
  case atStart => exact ⟨0, [], by omega, by omega, rfl, World.ownsRow_nil _ _ _ _, by simp, Below.refl _ _⟩
  case round =>
    obtain ⟨k, ys, hk, hgk, rfl, hown, hyk, hb⟩ := hrel
    have Hgk := Lib.hid hgk
    have Hown := Lib.hid hown
    have Hyk := Lib.hid hyk
    have Hb := Lib.hid hb
    have HBr := Lib.hid (HB2.out.trans (hb.mono HB2.out.size))
    clear hgk hown hyk hb
    by_cases hlt : k < xs.length
    · obtain ⟨y, hy⟩ : ∃ y, xs[k]? = some y := ⟨_, List.getElem?_eq_getElem hlt⟩
      obtain ⟨pb, po, pc, hpb, hpv, hpc, hcell⟩ := (IntsAt.of_own HO2.out rfl).cells (by intro e; rw [e] at hlt; simp at hlt)
      simp only [Value.slice.injEq] at hpv
      obtain ⟨rfl, _, rfl⟩ := hpv
      have cx : wr.cell? ⟨pb, po + k, none⟩ = some (.int .i64 y) := by exact Below.keepCell Hb.out (hcell k y hy)
      have hw1 : IntKind.i64.wrap ((k : Int) + 1) = k + 1 := by rw [IntKind.wrap_i64]; have := Hx40.out; omega
      clear hpb hpc hcell hy
      go_wp2_with (first
        | (go_at_call 170; refine (holds_ok s S y n _ (HS.out.below HBr.out).cells Hz.out.sct Hz.out.lo Hz.out.hi Hm.out).mono ?_; rintro e w3 ⟨⟨r, rfl⟩, hb3⟩; have Hb3 := Lib.hid hb3; have HO3 := Lib.hid ((Keep.of_below hb3 (fun _ => False)).ownsRow Hown.out (fun _ _ h => h)); have hsz : w2.heap.size ≤ w3.heap.size := Nat.le_trans Hb.out.size hb3.size; clear hb3; cases r)
        | (refine wpList_appendInt rfl _ _ rfl w2.heap.size u4 ys.length _ rfl (HO3.out.alloc _) w3.heap.size y rfl ((At.new w3 _ _).cell 0) (by have := Hyk.out; have := Hx40.out; omega) (by simp; omega) ?_; intro v' w4 hown4 hgrow hblk))
      · have B5 := ((Hb.out.trans (Hb3.out.mono Hb.out.size)).alloc hsz _).grown hgrow (by simp; omega) (fun j hj => (HO3.out.lt j hj).1)
        go_roundg (xs.length - (k + 1))
        case measure => have := Hgk.out; omega
        case rel => exact ⟨k + 1, ys ++ [y], by omega, rfl, by go_num, by simpa using hown4, by have := Hyk.out; simp; omega, B5⟩
      · go_roundg (xs.length - (k + 1))
        case measure => have := Hgk.out; omega
        case rel => exact ⟨k + 1, ys, by omega, rfl, by go_num, HO3.out, by have := Hyk.out; omega, Hb.out.trans (Hb3.out.mono Hb.out.size)⟩
    · obtain rfl : k = xs.length := by omega
      obtain ⟨pu, cu, rfl⟩ := ownsRow_slice Hown.out
      have HI := Lib.hid (IntsAt.of_own Hown.out rfl)
      have HS8 := Lib.hid (HS.out.below HBr.out)
      have HX8 := Lib.hid (Below.at Hb.out HX2.out HX2.out.lt)
      have r1 : wr.rangeAt s 1 [.int .i64 S.sct, .int .i64 32] := HS8.out.cells.range 1 2
      have rx : wr.rangeAt w.heap.size 0 x.cells.toList := HX8.out.range 0 13
      have c0 : wr.cell? ⟨s, 0, none⟩ = some (.pointer (some ⟨S.d, 0, none⟩)) := HS8.out.cells.cell 0
      have c3 : wr.cell? ⟨s, 3, none⟩ = some (.int .i64 S.h) := HS8.out.cells.cell 3
      have c4 : wr.cell? ⟨s, 4, none⟩ = some (.int .i64 S.g) := HS8.out.cells.cell 4
      have hu25 := Tryz.underlying25
      have hu82 := Tryz.underlying82
      have hi82 : (Tryz.prog.info? 82).map (·.size) = some x.cells.toList.length := size82 x
      have hyx : ys.length ≤ 1000 := by have := Hyk.out; have := Hx40.out; omega
      have Hnew := Lib.hid (lnew_ok ⟨S.d, S.sct, S.h, S.g, x, .slice pu ys.length cu⟩ (.slice pu ys.length cu) ys wr.heap.size wr.drew HI.out (Nat.le_refl _) hyx)
      clear hyx
      go_wp2_with fail
      (try simp only [Act.put, List.setIfInBounds_toArray, List.set_cons_zero, List.set_cons_succ])
      refine wp_region_noPanic ?_
      refine T_region 22 (fun w' => w'.cell? ⟨s, 0, none⟩ = some (.pointer (some ⟨S.d, 0, none⟩)) ∧ w'.cell? ⟨s, 3, none⟩ = some (.int .i64 S.h) ∧ w'.cell? ⟨s, 4, none⟩ = some (.int .i64 S.g) ∧ w'.rangeAt s 1 [.int .i64 S.sct, .int .i64 32] ∧ w'.rangeAt w.heap.size 0 x.cells.toList) (by kernel_rfl) (by kernel_rfl) (by kernel_rfl) (by decide) (by kernel_rfl) ⟨c0, c3, c4, r1, rx⟩ (fun hHeld hU => ?_)
      refine T_take (i := 0) hU 27 ?_ rfl rfl (by decide) (by kernel_rfl) (by kernel_rfl) (fun _ _ _ h => h) (Or.inl ⟨by rfl, ?_⟩) hHeld ?_; rotate_left; (intro w hSw; (try dsimp only at hSw); go_simp); (try with_reducible rfl); clear hU; intro hU; (try simp only [Act.put, List.setIfInBounds_toArray, List.set_cons_zero, List.set_cons_succ])
      refine T_take (i := 1) hU 28 ?_ rfl rfl (by decide) (by kernel_rfl) (by kernel_rfl) (fun _ _ _ h => h) (Or.inl ⟨by rfl, ?_⟩) hHeld ?_; rotate_left; (intro w hSw; (try dsimp only at hSw); go_simp); (try with_reducible rfl); clear hU; intro hU; (try simp only [Act.put, List.setIfInBounds_toArray, List.set_cons_zero, List.set_cons_succ])
      refine T_take (i := 2) hU 29 ?_ rfl rfl (by decide) (by kernel_rfl) (by kernel_rfl) (fun _ _ _ h => h) (Or.inl ⟨by rfl, ?_⟩) hHeld ?_; rotate_left; (intro w hSw; (try dsimp only at hSw); go_simp); (try with_reducible rfl); clear hU; intro hU; (try simp only [Act.put, List.setIfInBounds_toArray, List.set_cons_zero, List.set_cons_succ])
      refine T_take (i := 3) hU 30 ?_ rfl rfl (by decide) (by kernel_rfl) (by kernel_rfl) (fun _ _ _ h => h) (Or.inl ⟨by rfl, ?_⟩) hHeld ?_; rotate_left; (intro w hSw; (try dsimp only at hSw); go_simp); (try with_reducible rfl); clear hU; intro hU; (try simp only [Act.put, List.setIfInBounds_toArray, List.set_cons_zero, List.set_cons_succ])
      refine T_take (i := 4) hU 31 ?_ rfl rfl (by decide) (by kernel_rfl) (by kernel_rfl) (fun _ _ _ h => h) (Or.inl ⟨by rfl, ?_⟩) hHeld ?_; rotate_left; (intro w hSw; (try dsimp only at hSw); go_simp); (try with_reducible rfl); clear hU; intro hU; (try simp only [Act.put, List.setIfInBounds_toArray, List.set_cons_zero, List.set_cons_succ])
      refine T_take (i := 5) hU 32 ?_ rfl rfl (by decide) (by kernel_rfl) (by kernel_rfl) (fun _ _ _ h => h) (Or.inl ⟨by rfl, ?_⟩) hHeld ?_; rotate_left; (intro w hSw; (try dsimp only at hSw); go_simp); (try with_reducible rfl); clear hU; intro hU; (try simp only [Act.put, List.setIfInBounds_toArray, List.set_cons_zero, List.set_cons_succ])
      refine T_take (i := 6) hU 33 ?_ rfl rfl (by decide) (by kernel_rfl) (by kernel_rfl) (fun _ _ _ h => h) (Or.inl ⟨by rfl, ?_⟩) hHeld ?_; rotate_left; (intro w hSw; (try dsimp only at hSw); go_simp); (try with_reducible rfl); clear hU; intro hU; (try simp only [Act.put, List.setIfInBounds_toArray, List.set_cons_zero, List.set_cons_succ])
      refine T_take (i := 7) hU 34 ?_ rfl rfl (by decide) (by kernel_rfl) (by kernel_rfl) (fun _ _ _ h => h) (Or.inl ⟨by rfl, ?_⟩) hHeld ?_; rotate_left; (intro w hSw; (try dsimp only at hSw); go_simp); (try with_reducible rfl); clear hU; intro hU; (try simp only [Act.put, List.setIfInBounds_toArray, List.set_cons_zero, List.set_cons_succ])
      refine T_take (i := 8) hU 35 (.agg #[.int .i64 S.sct, .int .i64 32]) rfl rfl (by decide) (by kernel_rfl) (by kernel_rfl) (fun _ _ _ h => h) (yields_load _ _ _ _ rfl _ _ rfl s 1 rfl _ _ hu25 rfl (size25 _ _) (fun _ h => h.2.2.2.1)) hHeld ?_; clear hU; intro hU; (try simp only [Act.put, List.setIfInBounds_toArray, List.set_cons_zero, List.set_cons_succ])
      refine T_take (i := 9) hU 36 ?_ rfl rfl (by decide) (by kernel_rfl) (by kernel_rfl) (fun _ _ _ h => h) (Or.inl ⟨by rfl, ?_⟩) hHeld ?_; rotate_left; (intro w hSw; (try dsimp only at hSw); go_simp); (try with_reducible rfl); clear hU; intro hU; (try simp only [Act.put, List.setIfInBounds_toArray, List.set_cons_zero, List.set_cons_succ])
      refine T_take (i := 10) hU 37 ?_ rfl rfl (by decide) (by kernel_rfl) (by kernel_rfl) (fun _ _ _ h => h) (Or.inl ⟨by rfl, ?_⟩) hHeld ?_; rotate_left; (intro w hSw; (try dsimp only at hSw); go_simp); (try with_reducible rfl); clear hU; intro hU; (try simp only [Act.put, List.setIfInBounds_toArray, List.set_cons_zero, List.set_cons_succ])
      refine T_take (i := 11) hU 38 ?_ rfl rfl (by decide) (by kernel_rfl) (by kernel_rfl) (fun _ _ _ h => h) (Or.inl ⟨by rfl, ?_⟩) hHeld ?_; rotate_left; (intro w hSw; (try dsimp only at hSw); go_simp); (try with_reducible rfl); clear hU; intro hU; (try simp only [Act.put, List.setIfInBounds_toArray, List.set_cons_zero, List.set_cons_succ])
      refine T_take (i := 12) hU 39 ?_ rfl rfl (by decide) (by kernel_rfl) (by kernel_rfl) (fun _ _ _ h => h) (Or.inl ⟨by rfl, ?_⟩) hHeld ?_; rotate_left; (intro w hSw; (try dsimp only at hSw); go_simp); (try with_reducible rfl); clear hU; intro hU; (try simp only [Act.put, List.setIfInBounds_toArray, List.set_cons_zero, List.set_cons_succ])
      refine T_take (i := 13) hU 40 ?_ rfl rfl (by decide) (by kernel_rfl) (by kernel_rfl) (fun _ _ _ h => h) (Or.inl ⟨by rfl, ?_⟩) hHeld ?_; rotate_left; (intro w hSw; (try dsimp only at hSw); go_simp); (try with_reducible rfl); clear hU; intro hU; (try simp only [Act.put, List.setIfInBounds_toArray, List.set_cons_zero, List.set_cons_succ])
      refine T_take (i := 14) hU 41 ?_ rfl rfl (by decide) (by kernel_rfl) (by kernel_rfl) (fun _ _ _ h => h) (Or.inl ⟨by rfl, ?_⟩) hHeld ?_; rotate_left; (intro w hSw; (try dsimp only at hSw); go_simp); (try with_reducible rfl); clear hU; intro hU; (try simp only [Act.put, List.setIfInBounds_toArray, List.set_cons_zero, List.set_cons_succ])
      refine T_take (i := 15) hU 42 ?_ rfl rfl (by decide) (by kernel_rfl) (by kernel_rfl) (fun _ _ _ h => h) (Or.inl ⟨by rfl, ?_⟩) hHeld ?_; rotate_left; (intro w hSw; (try dsimp only at hSw); go_simp); (try with_reducible rfl); clear hU; intro hU; (try simp only [Act.put, List.setIfInBounds_toArray, List.set_cons_zero, List.set_cons_succ])
      refine T_take (i := 16) hU 43 ?_ rfl rfl (by decide) (by kernel_rfl) (by kernel_rfl) (fun _ _ _ h => h) (Or.inl ⟨by rfl, ?_⟩) hHeld ?_; rotate_left; (intro w hSw; (try dsimp only at hSw); go_simp); (try with_reducible rfl); clear hU; intro hU; (try simp only [Act.put, List.setIfInBounds_toArray, List.set_cons_zero, List.set_cons_succ])
      refine T_take (i := 17) hU 44 (.agg x.cells) rfl rfl (by decide) (by kernel_rfl) (by kernel_rfl) (fun _ _ _ h => h) (yields_load _ _ _ _ rfl _ _ rfl w.heap.size 0 rfl _ _ hu82 rfl hi82 (fun _ h => h.2.2.2.2)) hHeld ?_; clear hU; intro hU; (try simp only [Act.put, List.setIfInBounds_toArray, List.set_cons_zero, List.set_cons_succ])
      refine T_take (i := 18) hU 45 ?_ rfl rfl (by decide) (by kernel_rfl) (by kernel_rfl) (fun _ _ _ h => h) (Or.inl ⟨by rfl, ?_⟩) hHeld ?_; rotate_left; (intro w hSw; (try dsimp only at hSw); go_simp); (try with_reducible rfl); clear hU; intro hU; (try simp only [Act.put, List.setIfInBounds_toArray, List.set_cons_zero, List.set_cons_succ])
      have hHeld19 := hHeld
      refine T_step (i := 19) hU rfl (by decide) (by kernel_rfl) (fun K hK => ?_); clear hU hHeld
      go_simp
      go_at_call 39
      refine Hnew.out.mono ?_
      rintro e w9 ⟨l, fv, rfl, hl9, hL9, hrow9, hb9⟩
      refine hK.out _ _ (⟨Below.keepCell hb9 hHeld19.1, Below.keepCell hb9 hHeld19.2.1, Below.keepCell hb9 hHeld19.2.2.1, Below.keepRange hb9 hHeld19.2.2.2.1, Below.keepRange hb9 hHeld19.2.2.2.2⟩) (fun hHeld hU => ?_); clear hK K; (try simp only [Act.put, List.setIfInBounds_toArray, List.set_cons_zero, List.set_cons_succ])
      refine T_take (i := 20) hU 47 ?_ rfl rfl (by decide) (by kernel_rfl) (by kernel_rfl) (fun _ _ _ h => h) (Or.inl ⟨by rfl, ?_⟩) hHeld ?_; rotate_left; (intro w hSw; (try dsimp only at hSw); go_simp); (try with_reducible rfl); clear hU; intro hU; (try simp only [Act.put, List.setIfInBounds_toArray, List.set_cons_zero, List.set_cons_succ])
      refine T_take (i := 21) hU 48 ?_ rfl rfl (by decide) (by kernel_rfl) (by kernel_rfl) (fun _ _ _ h => h) (Or.inl ⟨by rfl, ?_⟩) hHeld ?_; rotate_left; (intro w hSw; (try dsimp only at hSw); go_simp); (try with_reducible rfl); clear hU; intro hU; (try simp only [Act.put, List.setIfInBounds_toArray, List.set_cons_zero, List.set_cons_succ])
      refine T_last (N := 22) rfl (by kernel_rfl) (by kernel_rfl) (fun K hK => ?_); clear hU hHeld
      refine step_storeCell rfl 78 _ _ rfl rfl s 6 (.pointer (some ⟨l, 0, none⟩)) S.cells 92 (by with_unfolding_all exact rfl) (by with_unfolding_all exact rfl) (Below.at hb9 (show At wr.drew s S.cells 92 from HS8.out.cells) HS8.out.cells.lt) (show 6 < 19 by omega) size78 rfl rfl (fun w10 hA10 hk10 hs10 => ?_)
      refine hK.out _ _ (NoPanic.normal ?_); clear hK K
      go_wp2
      go_end0
      have b9 : Below wr.heap.size wr w9 := (World.drew_below0 wr).trans hb9
      have HS9 := HS8.out.below b9
      have hls : l ≠ s := fun e => by have := HS8.out.cells.lt; have hd : wr.drew.heap.size = wr.heap.size := rfl; omega
      obtain ⟨pf, cf, hfv⟩ := ownsRow_slice hrow9
      refine ⟨rfl, l, fv, HS9.withLog hA10 hk10, hk10.at hL9 hls, ⟨pf, _, cf, hfv⟩, ?_, ?_⟩
      · have := HBr.out.size; have hd : wr.drew.heap.size = wr.heap.size := rfl; omega
      · exact (Keep.of_below (HBr.out.trans (b9.mono HBr.out.size)) _).trans hk10 (fun _ _ h => h)
end Go.Proofs.YtnndkfhpifgaiaaGreat
namespace Go.Proofs.YtnndkfhpifgaiaaGreat
open Go.RowKit

def whereV (m0 m1 m2 m3 : Int) : Array Value := #[.int .i64 m0, .int .i64 m1, .int .i64 m2, .int .i64 m3]
theorem size80a (m0 m1 m2 m3 : Int) : (Tryz.prog.info? 80).map (·.size) = some (whereV m0 m1 m2 m3).size := by kernel_rfl
theorem one80 (m0 m1 m2 m3 : Int) : (whereV m0 m1 m2 m3).all (·.oneCell') = true := by simp [whereV, Value.oneCell']
/-- The slot that is saved. -/
def SlotV.to (x : SlotV) (num m0 m1 m2 m3 : Int) : SlotV := { x with num := num, m0 := m0, m1 := m1, m2 := m2, m3 := m3 }
/-- The store behind it. -/
def StoreV.to (S : StoreV) (num m0 m1 m2 m3 : Int) : StoreV := { S with num := num, m0 := m0, m1 := m1, m2 := m2, m3 := m3 }

theorem StoreAt.to {w w' : World} {s : Nat} {S : StoreV} {segs : List Int} {R : Option RootV} {now : Bool} {G : Nat → Prop} {num m0 m1 m2 m3 : Int} (h : StoreAt w s S segs R now G) (hA : At w' s (S.to num m0 m1 m2 m3).cells 92) (hk : Keep (· = s) w w') : StoreAt w' s (S.to num m0 m1 m2 m3) segs R now G := by
  have nb : ∀ {k l}, IMap w k l → ¬ (k = s) := fun hi e => imap_ne_at hi h.cells e
  exact {
    cells := hA
    segs := ⟨hk.ownsRow h.segs.1 (fun b hb e => by subst e; exact own_ne_at h.segs.1 h.cells (by decide) hb rfl), h.segs.2⟩
    base := h.base.keep hk (nb h.base)
    last := h.last.imp fun l hl => hl.keep hk (nb hl)
    set := h.set.keep hk (nb h.set)
    touch := h.touch.keep hk (nb h.touch)
    nodes := h.nodes.keep hk (nb h.nodes)
    turn := h.turn.keep hk (nb h.turn)
    gone := h.gone.keep hk (nb h.gone)
    root := fun r hr => by
      obtain ⟨h1, h2, h3, h4, h5, h6⟩ := h.root r hr
      refine ⟨hk.at h1 (fun e => ?_), h2.keep hk (nb h2), h3.keep hk (nb h3), h4, h5, h6⟩
      have e1 : At w s r.cells 141 := e ▸ h1
      have e2 := h.cells
      unfold At at e1 e2
      rw [e1] at e2
      simp at e2
    gs := h.gs
    gb := h.gb
    ne := h.ne
    neR := h.neR
    lt := fun k hk' => Nat.lt_of_lt_of_le (h.lt k hk') hk.size }

/-- What save leaves. -/
def SaveEnd (w : World) (s : Nat) (S : StoreV) (segs : List Int) (R : Option RootV) (now : Bool) (G : Nat → Prop) (L : LogV) (dn Bd : Nat) (F : Nat → Prop) (m0 m1 m2 m3 : Int) (e : Ending) (w' : World) : Prop := e = .returned (.bool true) ∧ ∃ l fv F',
  StoreAt w' s { S.to 1 m0 m1 m2 m3 with lp := some ⟨l, 0, none⟩ } segs R now G ∧ LogAt w' l ⟨S.d, S.sct, S.h, S.g, L.x.to 1 m0 m1 m2 m3, fv⟩ ∧ (∃ p m c, fv = .slice p m c) ∧ DiskAt w' S.d dn (Bd + 1) F' ∧ (∀ k, F' k → F k ∨ w.heap.size ≤ k) ∧ (∀ k, F' k → ¬ G k) ∧ w.heap.size ≤ l ∧ ¬ F' l ∧ Keep (fun k => F k ∨ k = s) w w'

set_option maxRecDepth 100000 in
set_option maxHeartbeats 4000000 in
theorem save_step (s : Nat) (S : StoreV) (segs : List Int) (R : Option RootV) (now : Bool) (n : Nat) (G : Nat → Prop) (l : Nat) (L : LogV) (dn Bd : Nat) (F : Nat → Prop) (m0 m1 m2 m3 : Int) (w : World) (h : StoreAt w s S segs R now G) (hz : Sized S R n) (hl : segs.length ≤ 40) (hp : 0 < segs.length)
    (hL : LogAt w l L) (hlp : S.lp = some ⟨l, 0, none⟩) (hd : DiskAt w S.d dn Bd F) (hFG : ∀ k, F k → ¬ G k) (hnum : S.num = 0) (hh : 1 ≤ S.h ∧ S.h ≤ 16) (hg : 1 ≤ S.g ∧ S.g ≤ 65535) (hok : (L.x.to 1 m0 m1 m2 m3).Ok) (hn : 48 ≤ dn) (hn' : dn ≤ 16384) (hBd : Bd + 10 < 1000000000)
    (hm : MapOk S m0 ∧ MapOk S m1 ∧ MapOk S m2 ∧ MapOk S m3) :
    Calls Tryz.prog 78 #[.pointer (some ⟨s, 0, none⟩), .agg (whereV m0 m1 m2 m3)] w (SaveEnd w s S segs R now G L dn Bd F m0 m1 m2 m3) := by
  have hu80 := Tryz.underlying80
  have hu82 := Tryz.underlying82
  have HS := Lib.hid h
  have HL := Lib.hid hL
  have Hd := Lib.hid hd
  have c6 : w.cell? ⟨s, 6, none⟩ = some (.pointer (some ⟨l, 0, none⟩)) := by rw [← hlp]; exact h.cells.cell 6
  have Hz := Lib.hid hz
  have Hnum := Lib.hid hnum
  clear h hL hd hlp hz hnum
  go_enter Tryz.func78, Tryz.ntmps78
  go_wp2_with (first
    | (refine wpList_boxAt rfl 80 _ rfl (whereV m0 m1 m2 m3) rfl ?_; intro w1 hA1 hk1 hs1; have HW1 := Lib.hid hA1; have HB1 := Lib.hid hk1.below; have Hs1 := Lib.hid hs1; have c6' : w1.cell? ⟨s, 6, none⟩ = some (.pointer (some ⟨l, 0, none⟩)) := hk1.keepCell id c6; have HL1 := Lib.hid (show LogAt w1 l L from hk1.at HL.out id); clear hA1 hk1 hs1 c6)
    | (go_at_call 75; refine (lplace_ok l L _ HL1.out).mono ?_; rintro e w2 ⟨rfl, hb⟩; have HW2 := Lib.hid (Below.at hb HW1.out HW1.out.lt); have HB2 := Lib.hid (HB1.out.trans (hb.mono HB1.out.size)); clear hb)
    | (refine wpList_allocAt rfl 82 rfl zSlot zero82 ?_; intro w3 hz hk hs; have HY3 := Lib.hid hz; have Hk3 := Lib.hid hk; have Hs3 := Lib.hid hs; clear hz hk hs)
    | (refine wpList_storeRow rfl 82 _ _ rfl rfl w2.heap.size L.x.cells zSlot _ rfl rfl HY3.out rfl (size82 _) (one82 _) ?_; intro w4 hA hk hs; have b24 : Below w2.heap.size w2 w4 := Hk3.out.below.trans (hk.belowOf (by have := Hs3.out; omega) (by intro b hb e; omega)); have HY4 := Lib.hid hA; have HW4 := Lib.hid (Below.at b24 HW2.out HW2.out.lt); have HB4 := Lib.hid (HB2.out.trans (b24.mono HB2.out.size)); have Hwy := Lib.hid HW2.out.lt; clear hA hk hs b24 c6'))
  have HS4 := Lib.hid (HS.out.below HB4.out)
  have n1 : ¬ (s = w2.heap.size) := by have := HS.out.cells.lt; have := HB2.out.size; omega
  have n2 : ¬ (w.heap.size = w2.heap.size) := by have := Hwy.out; omega
  have d7 : w4.cell? ⟨s, 7, none⟩ = some (.int .i64 0) := by rw [← Hnum.out]; exact HS4.out.cells.cell 7
  have rw4 : w4.rangeAt w.heap.size 0 (whereV m0 m1 m2 m3).toList := HW4.out.range 0 4
  have hi80 : (Tryz.prog.info? 80).map (·.size) = some (whereV m0 m1 m2 m3).toList.length := size80a m0 m1 m2 m3
  (try simp only [Act.put, List.setIfInBounds_toArray, List.set_cons_zero, List.set_cons_succ])
  refine wp_region_noPanic ?_
  refine T_region 9 (fun w' => w'.cell? ⟨s, 7, none⟩ = some (.int .i64 0) ∧ w'.rangeAt w.heap.size 0 (whereV m0 m1 m2 m3).toList) (by kernel_rfl) (by kernel_rfl) (by kernel_rfl) (by decide) (by kernel_rfl) ⟨d7, rw4⟩ (fun hHeld hU => ?_)
  refine T_take (i := 0) hU 11 ?_ rfl rfl (by decide) (by kernel_rfl) (by kernel_rfl) (fun _ _ _ h => h) (Or.inl ⟨by rfl, ?_⟩) hHeld ?_; rotate_left; (intro w hSw; (try dsimp only at hSw); go_simp); (try with_reducible rfl); clear hU; intro hU; (try simp only [Act.put, List.setIfInBounds_toArray, List.set_cons_zero, List.set_cons_succ])
  refine T_take (i := 1) hU 12 ?_ rfl rfl (by decide) (by kernel_rfl) (by kernel_rfl) (fun _ _ _ h => h) (Or.inl ⟨by rfl, ?_⟩) hHeld ?_; rotate_left; (intro w hSw; (try dsimp only at hSw); go_simp); (try with_reducible rfl); clear hU; intro hU; (try simp only [Act.put, List.setIfInBounds_toArray, List.set_cons_zero, List.set_cons_succ])
  refine T_take (i := 2) hU 13 ?_ rfl rfl (by decide) (by kernel_rfl) (by kernel_rfl) (fun _ _ _ h => h) (Or.inl ⟨by rfl, ?_⟩) hHeld ?_; rotate_left; (intro w hSw; (try dsimp only at hSw); go_simp); (try with_reducible rfl); clear hU; intro hU; (try simp only [Act.put, List.setIfInBounds_toArray, List.set_cons_zero, List.set_cons_succ])
  refine T_take (i := 3) hU 14 ?_ rfl rfl (by decide) (by kernel_rfl) (by kernel_rfl) (fun _ _ _ h => h) (Or.inl ⟨by rfl, ?_⟩) hHeld ?_; rotate_left; (intro w hSw; (try dsimp only at hSw); go_simp); (try with_reducible rfl); clear hU; intro hU; (try simp only [Act.put, List.setIfInBounds_toArray, List.set_cons_zero, List.set_cons_succ])
  refine T_take (i := 4) hU 15 ?_ rfl rfl (by decide) (by kernel_rfl) (by kernel_rfl) (fun _ _ _ h => h) (Or.inl ⟨by rfl, ?_⟩) hHeld ?_; rotate_left; (intro w hSw; (try dsimp only at hSw); go_simp); (try with_reducible rfl); clear hU; intro hU; (try simp only [Act.put, List.setIfInBounds_toArray, List.set_cons_zero, List.set_cons_succ])
  refine T_take (i := 5) hU 16 (.agg (whereV m0 m1 m2 m3)) rfl rfl (by decide) (by kernel_rfl) (by kernel_rfl) (fun _ _ _ h => h) (yields_load _ _ _ _ rfl _ _ rfl w.heap.size 0 rfl _ _ hu80 rfl hi80 (fun _ h => h.2)) hHeld ?_; clear hU; intro hU; (try simp only [Act.put, List.setIfInBounds_toArray, List.set_cons_zero, List.set_cons_succ])
  refine T_take (i := 6) hU 17 ?_ rfl rfl (by decide) (by kernel_rfl) (by kernel_rfl) (fun _ _ _ h => h) (Or.inl ⟨by rfl, ?_⟩) hHeld ?_; rotate_left; (intro w hSw; (try dsimp only at hSw); go_simp); (try with_reducible rfl); clear hU; intro hU; (try simp only [Act.put, List.setIfInBounds_toArray, List.set_cons_zero, List.set_cons_succ])
  have hHeld7 := hHeld
  refine T_step (i := 7) hU rfl (by decide) (by kernel_rfl) (fun K hK => ?_); clear hU hHeld
  refine step_storeCell rfl 3 _ _ rfl rfl w2.heap.size 0 (.int .i64 1) L.x.cells 82 (by with_unfolding_all exact rfl) (by with_unfolding_all exact rfl) (show At w4.drew w2.heap.size L.x.cells 82 from HY4.out) (show 0 < 13 by omega) size3 rfl rfl (fun w5 hA5 hk5 hs5 => ?_)
  refine hK.out _ _ (⟨hk5.keepCell n1 hHeld7.1, hk5.keepRange n2 hHeld7.2⟩) (fun hHeld hU => ?_); clear hK K; (try simp only [Act.put, List.setIfInBounds_toArray, List.set_cons_zero, List.set_cons_succ])
  refine T_take (i := 8) hU 18 ?_ rfl rfl (by decide) (by kernel_rfl) (by kernel_rfl) (fun _ _ _ h => h) (Or.inl ⟨by rfl, ?_⟩) hHeld ?_; rotate_left; (intro w hSw; (try dsimp only at hSw); go_simp); (try with_reducible rfl); clear hU; intro hU; (try simp only [Act.put, List.setIfInBounds_toArray, List.set_cons_zero, List.set_cons_succ])
  refine T_last (N := 9) rfl (by kernel_rfl) (by kernel_rfl) (fun K hK => ?_); clear hU hHeld
  refine step_storeRow' rfl 80 _ _ rfl rfl w2.heap.size 7 (whereV m0 m1 m2 m3) _ 82 (by with_unfolding_all exact rfl) (by with_unfolding_all exact rfl) hA5 (show 11 ≤ 13 by omega) (size80a _ _ _ _) (one80 _ _ _ _) (fun w6 hA6 hk6 hs6 => ?_)
  refine hK.out _ _ (NoPanic.normal ?_); clear hK K
  have K46 : Keep (· = w2.heap.size) w4 w6 := (Keep.ofDrew hk5).trans hk6 (fun _ _ h => h)
  have HY6 := Lib.hid (show At w6 w2.heap.size (L.x.to 1 m0 m1 m2 m3).cells 82 from hA6)
  have HW6 := Lib.hid (K46.at HW4.out n2)
  have hz4 := HB4.out.size
  have hwy := Hwy.out
  have hb2 := HB2.out.size
  have hyz := HY6.out.lt
  have HB6 := Lib.hid (HB4.out.trans (K46.belowOf hz4 (by intro b hb e; omega)))
  have Hord := Lib.hid (And.intro hb2 (And.intro hwy hyz))
  clear K46 hA5 hk5 hs5 hA6 hk6 hs6 hz4 hwy hb2 hyz HY4 HW4 HB4 HS4 d7 rw4 hHeld7 HW1 HW2 HB1 HB2 Hs1 Hk3 Hs3 HY3 HL1 n1 n2
  have hFlt : ∀ k, F k → k < w.heap.size := by obtain ⟨_, _, _, h3⟩ := Hd.out; exact h3
  have hGlt := HS.out.lt
  have nFs : ¬ F s := fun e => hFG s e HS.out.gs
  have nFy : ¬ F w2.heap.size := fun e => by have := hFlt _ e; have := Hord.out; omega
  have nFW : ¬ F w.heap.size := fun e => by have := hFlt _ e; omega
  have HS6 := Lib.hid (HS.out.below HB6.out)
  have a0 : w6.cell? ⟨s, 0, none⟩ = some (.pointer (some ⟨S.d, 0, none⟩)) := HS6.out.cells.cell 0
  have a3 : w6.cell? ⟨s, 3, none⟩ = some (.int .i64 S.h) := HS6.out.cells.cell 3
  have a4 : w6.cell? ⟨s, 4, none⟩ = some (.int .i64 S.g) := HS6.out.cells.cell 4
  have ry : w6.rangeAt w2.heap.size 0 (L.x.to 1 m0 m1 m2 m3).cells.toList := HY6.out.range 0 13
  have hi82 : (Tryz.prog.info? 82).map (·.size) = some (L.x.to 1 m0 m1 m2 m3).cells.toList.length := size82 _
  have Hsv := Lib.hid (save_ok S.d dn Bd F S.h S.g (L.x.to 1 m0 m1 m2 m3) w6.drew (Hd.out.below HB6.out).drew hh hg hok rfl hn hn' hBd)
  go_wp2_with fail
  (try simp only [Act.put, List.setIfInBounds_toArray, List.set_cons_zero, List.set_cons_succ])
  refine wp_region_noPanic ?_
  refine T_region 14 (fun w' => w'.cell? ⟨s, 0, none⟩ = some (.pointer (some ⟨S.d, 0, none⟩)) ∧ w'.cell? ⟨s, 3, none⟩ = some (.int .i64 S.h) ∧ w'.cell? ⟨s, 4, none⟩ = some (.int .i64 S.g) ∧ w'.rangeAt w2.heap.size 0 (L.x.to 1 m0 m1 m2 m3).cells.toList) (by kernel_rfl) (by kernel_rfl) (by kernel_rfl) (by decide) (by kernel_rfl) ⟨a0, a3, a4, ry⟩ (fun hHeld hU => ?_)
  refine T_take (i := 0) hU 19 ?_ rfl rfl (by decide) (by kernel_rfl) (by kernel_rfl) (fun _ _ _ h => h) (Or.inl ⟨by rfl, ?_⟩) hHeld ?_; rotate_left; (intro w hSw; (try dsimp only at hSw); go_simp); (try with_reducible rfl); clear hU; intro hU; (try simp only [Act.put, List.setIfInBounds_toArray, List.set_cons_zero, List.set_cons_succ])
  refine T_take (i := 1) hU 20 ?_ rfl rfl (by decide) (by kernel_rfl) (by kernel_rfl) (fun _ _ _ h => h) (Or.inl ⟨by rfl, ?_⟩) hHeld ?_; rotate_left; (intro w hSw; (try dsimp only at hSw); go_simp); (try with_reducible rfl); clear hU; intro hU; (try simp only [Act.put, List.setIfInBounds_toArray, List.set_cons_zero, List.set_cons_succ])
  refine T_take (i := 2) hU 21 ?_ rfl rfl (by decide) (by kernel_rfl) (by kernel_rfl) (fun _ _ _ h => h) (Or.inl ⟨by rfl, ?_⟩) hHeld ?_; rotate_left; (intro w hSw; (try dsimp only at hSw); go_simp); (try with_reducible rfl); clear hU; intro hU; (try simp only [Act.put, List.setIfInBounds_toArray, List.set_cons_zero, List.set_cons_succ])
  refine T_take (i := 3) hU 22 ?_ rfl rfl (by decide) (by kernel_rfl) (by kernel_rfl) (fun _ _ _ h => h) (Or.inl ⟨by rfl, ?_⟩) hHeld ?_; rotate_left; (intro w hSw; (try dsimp only at hSw); go_simp); (try with_reducible rfl); clear hU; intro hU; (try simp only [Act.put, List.setIfInBounds_toArray, List.set_cons_zero, List.set_cons_succ])
  refine T_take (i := 4) hU 23 ?_ rfl rfl (by decide) (by kernel_rfl) (by kernel_rfl) (fun _ _ _ h => h) (Or.inl ⟨by rfl, ?_⟩) hHeld ?_; rotate_left; (intro w hSw; (try dsimp only at hSw); go_simp); (try with_reducible rfl); clear hU; intro hU; (try simp only [Act.put, List.setIfInBounds_toArray, List.set_cons_zero, List.set_cons_succ])
  refine T_take (i := 5) hU 24 ?_ rfl rfl (by decide) (by kernel_rfl) (by kernel_rfl) (fun _ _ _ h => h) (Or.inl ⟨by rfl, ?_⟩) hHeld ?_; rotate_left; (intro w hSw; (try dsimp only at hSw); go_simp); (try with_reducible rfl); clear hU; intro hU; (try simp only [Act.put, List.setIfInBounds_toArray, List.set_cons_zero, List.set_cons_succ])
  refine T_take (i := 6) hU 25 ?_ rfl rfl (by decide) (by kernel_rfl) (by kernel_rfl) (fun _ _ _ h => h) (Or.inl ⟨by rfl, ?_⟩) hHeld ?_; rotate_left; (intro w hSw; (try dsimp only at hSw); go_simp); (try with_reducible rfl); clear hU; intro hU; (try simp only [Act.put, List.setIfInBounds_toArray, List.set_cons_zero, List.set_cons_succ])
  refine T_take (i := 7) hU 26 ?_ rfl rfl (by decide) (by kernel_rfl) (by kernel_rfl) (fun _ _ _ h => h) (Or.inl ⟨by rfl, ?_⟩) hHeld ?_; rotate_left; (intro w hSw; (try dsimp only at hSw); go_simp); (try with_reducible rfl); clear hU; intro hU; (try simp only [Act.put, List.setIfInBounds_toArray, List.set_cons_zero, List.set_cons_succ])
  refine T_take (i := 8) hU 27 ?_ rfl rfl (by decide) (by kernel_rfl) (by kernel_rfl) (fun _ _ _ h => h) (Or.inl ⟨by rfl, ?_⟩) hHeld ?_; rotate_left; (intro w hSw; (try dsimp only at hSw); go_simp); (try with_reducible rfl); clear hU; intro hU; (try simp only [Act.put, List.setIfInBounds_toArray, List.set_cons_zero, List.set_cons_succ])
  refine T_take (i := 9) hU 28 ?_ rfl rfl (by decide) (by kernel_rfl) (by kernel_rfl) (fun _ _ _ h => h) (Or.inl ⟨by rfl, ?_⟩) hHeld ?_; rotate_left; (intro w hSw; (try dsimp only at hSw); go_simp); (try with_reducible rfl); clear hU; intro hU; (try simp only [Act.put, List.setIfInBounds_toArray, List.set_cons_zero, List.set_cons_succ])
  refine T_take (i := 10) hU 29 ?_ rfl rfl (by decide) (by kernel_rfl) (by kernel_rfl) (fun _ _ _ h => h) (Or.inl ⟨by rfl, ?_⟩) hHeld ?_; rotate_left; (intro w hSw; (try dsimp only at hSw); go_simp); (try with_reducible rfl); clear hU; intro hU; (try simp only [Act.put, List.setIfInBounds_toArray, List.set_cons_zero, List.set_cons_succ])
  refine T_take (i := 11) hU 30 ?_ rfl rfl (by decide) (by kernel_rfl) (by kernel_rfl) (fun _ _ _ h => h) (Or.inl ⟨by rfl, ?_⟩) hHeld ?_; rotate_left; (intro w hSw; (try dsimp only at hSw); go_simp); (try with_reducible rfl); clear hU; intro hU; (try simp only [Act.put, List.setIfInBounds_toArray, List.set_cons_zero, List.set_cons_succ])
  refine T_take (i := 12) hU 31 (.agg (L.x.to 1 m0 m1 m2 m3).cells) rfl rfl (by decide) (by kernel_rfl) (by kernel_rfl) (fun _ _ _ h => h) (yields_load _ _ _ _ rfl _ _ rfl w2.heap.size 0 rfl _ _ hu82 rfl hi82 (fun _ h => h.2.2.2)) hHeld ?_; clear hU; intro hU; (try simp only [Act.put, List.setIfInBounds_toArray, List.set_cons_zero, List.set_cons_succ])
  have hHeld13 := hHeld
  refine T_step (i := 13) hU rfl (by decide) (by kernel_rfl) (fun K hK => ?_); clear hU hHeld
  go_simp
  go_at_call 122
  refine Hsv.out.mono ?_
  rintro e w7 ⟨rfl, hst⟩
  have hkF := hst.keep
  refine hK.out _ _ (⟨hkF.keepCell nFs hHeld13.1, hkF.keepCell nFs hHeld13.2.1, hkF.keepCell nFs hHeld13.2.2.1, hkF.keepRange nFy hHeld13.2.2.2⟩) (fun hHeld hU => ?_); clear hK K; (try simp only [Act.put, List.setIfInBounds_toArray, List.set_cons_zero, List.set_cons_succ])
  refine T_last (N := 14) rfl (by kernel_rfl) (by kernel_rfl) (fun K hK => ?_); clear hU hHeld
  go_simp
  refine hK.out _ _ (NoPanic.normal ?_); clear hK K
  obtain ⟨F', hD7, hF7, hk7⟩ := hst.ofDrew
  have HY7 := Lib.hid (hk7.at HY6.out nFy)
  have HW7 := Lib.hid (hk7.at HW6.out nFW)
  have HS7 := Lib.hid (HS6.out.keep hk7 (fun k hg hf => hFG k hf hg))
  have HD7 := Lib.hid hD7
  have HF7 := Lib.hid hF7
  have Hk7 := Lib.hid hk7
  clear hkF hst hD7 hF7 hk7 a0 a3 a4 ry HY6 HW6 hHeld13 Hsv
  have y0 : w7.cell? ⟨w2.heap.size, 0, none⟩ = some (.int .i64 1) := HY7.out.cell 0
  have rw7 : w7.rangeAt w.heap.size 0 (whereV m0 m1 m2 m3).toList := HW7.out.range 0 4
  have n1 : ¬ (w2.heap.size = s) := by have := HS.out.cells.lt; have := Hord.out; omega
  have n2 : ¬ (w.heap.size = s) := by have := HS.out.cells.lt; omega
  go_wp2_with fail
  (try simp only [Act.put, List.setIfInBounds_toArray, List.set_cons_zero, List.set_cons_succ])
  refine wp_region_noPanic ?_
  refine T_region 10 (fun w' => w'.cell? ⟨w2.heap.size, 0, none⟩ = some (.int .i64 1) ∧ w'.rangeAt w.heap.size 0 (whereV m0 m1 m2 m3).toList) (by kernel_rfl) (by kernel_rfl) (by kernel_rfl) (by decide) (by kernel_rfl) ⟨y0, rw7⟩ (fun hHeld hU => ?_)
  refine T_take (i := 0) hU 34 ?_ rfl rfl (by decide) (by kernel_rfl) (by kernel_rfl) (fun _ _ _ h => h) (Or.inl ⟨by rfl, ?_⟩) hHeld ?_; rotate_left; (intro w hSw; (try dsimp only at hSw); go_simp); (try with_reducible rfl); clear hU; intro hU; (try simp only [Act.put, List.setIfInBounds_toArray, List.set_cons_zero, List.set_cons_succ])
  refine T_take (i := 1) hU 35 ?_ rfl rfl (by decide) (by kernel_rfl) (by kernel_rfl) (fun _ _ _ h => h) (Or.inl ⟨by rfl, ?_⟩) hHeld ?_; rotate_left; (intro w hSw; (try dsimp only at hSw); go_simp); (try with_reducible rfl); clear hU; intro hU; (try simp only [Act.put, List.setIfInBounds_toArray, List.set_cons_zero, List.set_cons_succ])
  refine T_take (i := 2) hU 36 ?_ rfl rfl (by decide) (by kernel_rfl) (by kernel_rfl) (fun _ _ _ h => h) (Or.inl ⟨by rfl, ?_⟩) hHeld ?_; rotate_left; (intro w hSw; (try dsimp only at hSw); go_simp); (try with_reducible rfl); clear hU; intro hU; (try simp only [Act.put, List.setIfInBounds_toArray, List.set_cons_zero, List.set_cons_succ])
  refine T_take (i := 3) hU 37 ?_ rfl rfl (by decide) (by kernel_rfl) (by kernel_rfl) (fun _ _ _ h => h) (Or.inl ⟨by rfl, ?_⟩) hHeld ?_; rotate_left; (intro w hSw; (try dsimp only at hSw); go_simp); (try with_reducible rfl); clear hU; intro hU; (try simp only [Act.put, List.setIfInBounds_toArray, List.set_cons_zero, List.set_cons_succ])
  refine T_take (i := 4) hU 38 (.agg (whereV m0 m1 m2 m3)) rfl rfl (by decide) (by kernel_rfl) (by kernel_rfl) (fun _ _ _ h => h) (yields_load _ _ _ _ rfl _ _ rfl w.heap.size 0 rfl _ _ hu80 rfl hi80 (fun _ h => h.2)) hHeld ?_; clear hU; intro hU; (try simp only [Act.put, List.setIfInBounds_toArray, List.set_cons_zero, List.set_cons_succ])
  refine T_take (i := 5) hU 39 ?_ rfl rfl (by decide) (by kernel_rfl) (by kernel_rfl) (fun _ _ _ h => h) (Or.inl ⟨by rfl, ?_⟩) hHeld ?_; rotate_left; (intro w hSw; (try dsimp only at hSw); go_simp); (try with_reducible rfl); clear hU; intro hU; (try simp only [Act.put, List.setIfInBounds_toArray, List.set_cons_zero, List.set_cons_succ])
  refine T_take (i := 6) hU 40 ?_ rfl rfl (by decide) (by kernel_rfl) (by kernel_rfl) (fun _ _ _ h => h) (Or.inl ⟨by rfl, ?_⟩) hHeld ?_; rotate_left; (intro w hSw; (try dsimp only at hSw); go_simp); (try with_reducible rfl); clear hU; intro hU; (try simp only [Act.put, List.setIfInBounds_toArray, List.set_cons_zero, List.set_cons_succ])
  have hHeld7 := hHeld
  refine T_step (i := 7) hU rfl (by decide) (by kernel_rfl) (fun K hK => ?_); clear hU hHeld
  refine step_storeCell rfl 3 _ _ rfl rfl s 7 (.int .i64 1) S.cells 92 (by with_unfolding_all exact rfl) (by with_unfolding_all exact rfl) (show At w7.drew s S.cells 92 from HS7.out.cells) (show 7 < 19 by omega) size3 rfl rfl (fun w8 hA8 hk8 hs8 => ?_)
  refine hK.out _ _ (⟨hk8.keepCell n1 hHeld7.1, hk8.keepRange n2 hHeld7.2⟩) (fun hHeld hU => ?_); clear hK K; (try simp only [Act.put, List.setIfInBounds_toArray, List.set_cons_zero, List.set_cons_succ])
  refine T_take (i := 8) hU 41 ?_ rfl rfl (by decide) (by kernel_rfl) (by kernel_rfl) (fun _ _ _ h => h) (Or.inl ⟨by rfl, ?_⟩) hHeld ?_; rotate_left; (intro w hSw; (try dsimp only at hSw); go_simp); (try with_reducible rfl); clear hU; intro hU; (try simp only [Act.put, List.setIfInBounds_toArray, List.set_cons_zero, List.set_cons_succ])
  refine T_take (i := 9) hU 42 ?_ rfl rfl (by decide) (by kernel_rfl) (by kernel_rfl) (fun _ _ _ h => h) (Or.inl ⟨by rfl, ?_⟩) hHeld ?_; rotate_left; (intro w hSw; (try dsimp only at hSw); go_simp); (try with_reducible rfl); clear hU; intro hU; (try simp only [Act.put, List.setIfInBounds_toArray, List.set_cons_zero, List.set_cons_succ])
  refine T_last (N := 10) rfl (by kernel_rfl) (by kernel_rfl) (fun K hK => ?_); clear hU hHeld
  refine step_storeRow' rfl 80 _ _ rfl rfl s 8 (whereV m0 m1 m2 m3) _ 92 (by with_unfolding_all exact rfl) (by with_unfolding_all exact rfl) hA8 (show 12 ≤ 19 by omega) (size80a _ _ _ _) (one80 _ _ _ _) (fun w9 hA9 hk9 hs9 => ?_)
  refine hK.out _ _ (NoPanic.normal ?_); clear hK K
  have K79 : Keep (· = s) w7 w9 := (Keep.ofDrew hk8).trans hk9 (fun _ _ h => h)
  have HS9 := Lib.hid (HS7.out.to (num := 1) (m0 := m0) (m1 := m1) (m2 := m2) (m3 := m3) (show At w9 s (S.to 1 m0 m1 m2 m3).cells 92 from hA9) K79)
  have HY9 := Lib.hid (K79.at HY7.out n1)
  have HK79 := Lib.hid K79
  have hz9 := K79.size
  have hz7 := Hk7.out.size
  have hz6 := HB6.out.size
  clear hA8 hk8 hs8 hA9 hk9 hs9 K79 y0 rw7 hHeld7
  have Hrn := Lib.hid (renew_ok s (S.to 1 m0 m1 m2 m3) segs R now n G (L.x.to 1 m0 m1 m2 m3) w9 HS9.out ⟨Hz.out.sct, Hz.out.lo, Hz.out.hi, Hz.out.root⟩ hl hp hm)
  go_wp2_with (first
    | (refine wpList_load_row rfl 82 _ rfl w2.heap.size rfl 82 (L.x.to 1 m0 m1 m2 m3).cells (0, 0) _ HY9.out hu82 rfl (size82 _) ?_)
    | (go_at_call 123; refine Hrn.out.mono ?_; rintro e w10 ⟨rfl, l', fv, hS10, hL10, hfv, hl10, hk10⟩))
  go_ret
  have hD9 := HD7.out.kept HK79.out (fun k hf e => by
    rcases HF7.out k hf with h1 | h1
    · exact nFs (e ▸ h1)
    · have := HS.out.cells.lt; omega)
  have nF' : ∀ k, F' k → ¬ G k := fun k hf hg => by
    rcases HF7.out k hf with h1 | h1
    · exact hFG k h1 hg
    · have := hGlt k hg; omega
  have hF'lt : ∀ k, F' k → k < w9.heap.size := by obtain ⟨_, _, _, h3⟩ := hD9; exact h3
  refine ⟨rfl, l', fv, F', hS10, hL10, hfv, hD9.kept hk10 (fun k hf e => nF' k hf (e ▸ HS.out.gs)), ?_, nF', by omega, fun hf => by have := hF'lt _ hf; omega, ?_⟩
  · intro k hf
    rcases HF7.out k hf with h1 | h1
    · exact .inl h1
    · exact .inr (by omega)
  · exact (((Keep.of_below HB6.out (fun k => F k ∨ k = s)).trans Hk7.out (fun _ _ h => .inl h)).trans HK79.out (fun _ _ h => .inr h)).trans hk10 (fun _ _ h => .inr h)
end Go.Proofs.YtnndkfhpifgaiaaGreat
