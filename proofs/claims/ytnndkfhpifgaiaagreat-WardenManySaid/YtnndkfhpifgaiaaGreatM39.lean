/-
  file.Checkpoint (UNDER WAY: ends in a sorry at region 8).
-/
import Derived.Test.YtnndkfhpifgaiaaGreatM38
import Derived.Test.YtnndkfhpifgaiaaGreatM23
set_option linter.unusedVariables false
set_option linter.unusedSimpArgs false
namespace Go.Proofs.YtnndkfhpifgaiaaGreat
open Go.RowKit

theorem zero80 : (Tryz.prog.info? 80).bind (·.zero) = some (.agg (whereV 0 0 0 0)) := by kernel_rfl

/-- The two variables stand. -/
def CpMid (w : World) (f g h m0 m1 m2 m3 : Int) (u6 u7 : Value) (w' : World) : Prop := ∃ hb wb, u6 = .pointer (some ⟨hb, 0, none⟩) ∧ u7 = .pointer (some ⟨wb, 0, none⟩) ∧ hb ≠ wb ∧ w.heap.size ≤ hb ∧ w.heap.size ≤ wb ∧ At w' hb (headV f g h) 126 ∧ At w' wb (whereV m0 m1 m2 m3) 80 ∧ Below w.heap.size w w'

/-- A head with a list. -/
def headL (f g h : Int) (lv : Value) : Array Value := #[.int .i64 0, .int .i64 0, .int .i64 0, .int .i64 0, .int .i64 0, .int .i64 f, .int .i64 g, .int .i64 h, lv]
def mapEs (ps : List Int) : List (Int × Int × Int) := ps.map fun p => (4, 1, p)
def eCells (es : List (Int × Int × Int)) : List Value := es.flatMap fun e => [.int .i64 e.1, .int .i64 e.2.1, .int .i64 e.2.2]
theorem eCells_snoc (ps : List Int) (p : Int) : eCells (mapEs (ps ++ [p])) = eCells (mapEs ps) ++ [.int .i64 4, .int .i64 1, .int .i64 p] := by simp [eCells, mapEs]

theorem own_ne_own {w : World} {b1 b2 n1 n2 k s1 s2 : Nat} {e1 e2 : TypeId} {v1 v2 : Value} {x1 x2 : List Value} (h1 : w.ownsRow b1 e1 s1 v1 n1 x1) (h2 : w.ownsRow b2 e2 s2 v2 n2 x2) (hT : e1 ≠ e2) (hk : v1.ownBlock = some k) : ¬ v2.ownBlock = some k := by
  intro hk2
  obtain ⟨_, h1⟩ := h1
  obtain ⟨_, h2⟩ := h2
  rcases h1 with ⟨rfl, rfl⟩ | ⟨g, cap, cur, rfl, hb, hg, _⟩
  · simp [Value.ownBlock] at hk
  · rcases h2 with ⟨rfl, rfl⟩ | ⟨g2, cap2, cur2, rfl, hb2, hg2, _⟩
    · simp [Value.ownBlock] at hk2
    · simp only [Value.ownBlock, Option.some.injEq] at hk hk2
      subst hk; subst hk2
      rw [hg] at hg2
      simp at hg2
      exact hT hg2.2

/-- Parts of the map that are to be written. -/
structure CpParts (wc wr : World) (hb : Nat) (f g h : Int) (u lv : Value) (k : Nat) (ps : List Int) (ss : List ByteArray) : Prop where
  hd : At wr hb (headL f g h lv) 126
  es : wr.ownsRow wc.heap.size 146 3 lv ps.length (eCells (mapEs ps))
  bs : wr.ownsRow wc.heap.size 9 1 u ps.length (ss.map Value.string)
  len : ss.length = ps.length
  le : ps.length ≤ k
  ok : ∀ p ∈ ps, 0 ≤ p ∧ p < 4
  sz : ∀ s ∈ ss, s.size = 256
  keep : Keep (· = hb) wc wr

theorem add0 (g j : Nat) : (⟨g, 0, none⟩ : Addr).add j = ⟨g, j, none⟩ := by unfold Addr.add; split <;> simp_all
theorem eCells_at : ∀ (ps : List Int) (k : Nat) (p : Int), ps[k]? = some p → (eCells (mapEs ps))[k * 3 + 2]? = some (.int .i64 p)
  | [], k, p, h => by simp at h
  | x :: ps, 0, p, h => by simp at h; subst h; simp [eCells, mapEs]
  | x :: ps, k + 1, p, h => by
    have := eCells_at ps k p (by simpa using h)
    have e : (k + 1) * 3 + 2 = (k * 3 + 2) + 3 := by omega
    rw [e]
    simpa [eCells, mapEs] using this

theorem StoreAt.relast {w w' : World} {s : Nat} {S : StoreV} {segs : List Int} {R : Option RootV} {now : Bool} {G K : Nat → Prop} (h : StoreAt w s S segs R now G) (hk : Keep K w w') (hG : ∀ k, G k → k ≠ S.last → ¬ K k) (hl : ∃ l, IMap w' S.last l) : StoreAt w' s S segs R now G := by
  obtain ⟨ll, h1⟩ := h.last
  have hst := h
  exact {
    cells := hk.at hst.cells (hG s hst.gs (fun e => imap_ne_at h1 hst.cells e.symm))
    segs := ⟨hk.ownsRow hst.segs.1 (fun b hb => hG b (hst.segs.2 b hb) (fun e => imap_ne_own (e ▸ h1) hst.segs.1 hb)), hst.segs.2⟩
    base := hst.base.keep hk (hG _ hst.gb.1 hst.ne.2.2.2.2.2.2.2.1)
    last := hl
    set := hst.set.keep hk (hG _ hst.gb.2.2.1 (fun e => hst.ne.2.2.2.2.2.2.2.2.2.2.2.2.2.2.2.1 e.symm))
    touch := hst.touch.keep hk (hG _ hst.gb.2.2.2.1 (fun e => hst.ne.2.2.2.2.2.2.2.2.2.2.2.2.2.2.2.2.1 e.symm))
    nodes := hst.nodes.keep hk (hG _ hst.gb.2.2.2.2.1 (fun e => hst.ne.2.2.2.2.2.2.2.2.2.2.1 e.symm))
    turn := hst.turn.keep hk (hG _ hst.gb.2.2.2.2.2.1 (fun e => hst.ne.2.2.2.2.2.2.2.2.2.2.2.1 e.symm))
    gone := hst.gone.keep hk (hG _ hst.gb.2.2.2.2.2.2 (fun e => hst.ne.2.2.2.2.2.2.2.2.2.2.2.2.2.2.2.2.2 e.symm))
    root := fun r hr => by
      obtain ⟨a1, a2, a3, a4, a5, a6⟩ := hst.root r hr
      obtain ⟨b1, b2, b3, b4⟩ := hst.neR r hr
      exact ⟨hk.at a1 (hG _ a4 (fun e => imap_ne_at (e ▸ h1) a1 rfl)), a2.keep hk (hG _ a5 (fun e => b3 e.symm)), a3.keep hk (hG _ a6 (fun e => b4 e.symm)), a4, a5, a6⟩
    gs := hst.gs
    gb := hst.gb
    ne := hst.ne
    neR := hst.neR
    lt := fun k hk' => Nat.lt_of_lt_of_le (hst.lt k hk') hk.size }

/-- What Checkpoint leaves. -/
def CpEnd (w : World) (s : Nat) (S : StoreV) (segs : List Int) (R : Option RootV) (G : Nat → Prop) (l dn Bd : Nat) (F : Nat → Prop) (e : Ending) (w' : World) : Prop := e = .returned (.bool true) ∧ ∃ S' l' L' F',
  StoreAt w' s S' segs R false G ∧ S'.lp = some ⟨l', 0, none⟩ ∧ LogAt w' l' L' ∧ S'.d = S.d ∧ S'.h = S.h ∧ DiskAt w' S.d dn (Bd + 10) F' ∧ (∀ k, F' k → F k ∨ w.heap.size ≤ k) ∧ (∀ k, F' k → ¬ G k) ∧ ¬ F' l' ∧ w.heap.size ≤ l' ∧ Keep (fun k => F k ∨ G k ∨ k = l) w w'

set_option maxRecDepth 100000 in
set_option maxHeartbeats 4000000 in
theorem checkpoint_ok (s : Nat) (S : StoreV) (segs : List Int) (r : RootV) (G : Nat → Prop) (l : Nat) (L : LogV) (n dn Bd : Nat) (F : Nat → Prop) (w : World) (h : StoreAt w s S segs (some r) false G) (hz : Sized S (some r) n)
    (hL : LogAt w l L) (hlp : S.lp = some ⟨l, 0, none⟩) (hd : DiskAt w S.d dn Bd F) (hm0 : S.m0 = 0 ∧ S.m1 = 0 ∧ S.m2 = 0 ∧ S.m3 = 0) (hN : WrNum S L n dn) (hLd : L.d = S.d) (hLh : L.h = S.h ∧ L.g = S.g) (hnum : S.num = 0) (hx : (0 ≤ L.x.clock ∧ L.x.clock ≤ 1099511627776) ∧ (0 ≤ L.x.sb ∧ L.x.sb ≤ 1099511627777) ∧ (0 ≤ L.x.sn ∧ L.x.sn ≤ 1099511627777))
    (hseq : L.x.seq ≤ 1000) (hfv : ∃ p m c, L.fv = .slice p m c) (hFG : ∀ k, F k → ¬ G k) (hFl : ¬ F l) (hGl : ¬ G l) (hBd : Bd + 200 < 1000000000) (hl : segs.length ≤ 40) (hp : 0 < segs.length) :
    Calls Tryz.prog 42 #[.pointer (some ⟨s, 0, none⟩)] w (CpEnd w s S segs (some r) G l dn Bd F) := by
  have HS := Lib.hid h
  have HL := Lib.hid hL
  have Hd := Lib.hid hd
  have Hz := Lib.hid hz
  have hs1 : r.sector < 16384 := by have := (hz.root r rfl).2; have := hz.sct; have := hz.hi; omega
  have hs0 : 0 ≤ r.sector := by have := (hz.root r rfl).1; omega
  have c0 : w.cell? ⟨s, 0, none⟩ = some (.pointer (some ⟨S.d, 0, none⟩)) := h.cells.cell 0
  have Hm0 := Lib.hid hm0
  have HN := Lib.hid hN
  have Hx := Lib.hid hx
  have hat := hN.at_
  have Hbd := Lib.hid (And.intro hseq hBd)
  clear h hL hd hz hm0 hN hx hseq hBd
  go_enter Tryz.func42, Tryz.ntmps42
  go_wp2_with (first
    | (go_at_call 25; refine (down_at S.d dn Bd F _ Hd.out).mono ?_; rintro e w1 ⟨rfl, rfl⟩)
    | (go_at_call 71; refine (inew_ok _).mono ?_; rintro e w2 ⟨rfl, hM, hb⟩; have HM2 := Lib.hid hM; have HB2 := Lib.hid hb; have m12 : w2.cell? ⟨s, 12, none⟩ = some (.map (some S.base)) := (HS.out.below hb).cells.cell 12; clear hM hb)
    | (refine wpList_rangeM rfl _ 83 rfl 3 139 Tryz.underlying83 S.base (baseL (some r)) rfl (HS.out.below HB2.out).base ?_; intro w3 hit hk hs; have HI3 := Lib.hid hit; have HM3 := Lib.hid (HM2.out.keep hk id); have HB3 := Lib.hid (HB2.out.trans (hk.below.mono HB2.out.size)); have Hs3 := Lib.hid hs; clear hit hk hs m12))
  have Hmz := Lib.hid HM2.out.lt
  clear HM2 HB2
  have hGlt := HS.out.lt
  have m19 : w3.cell? ⟨r.st, 19, none⟩ = some (.int .i64 r.sector) := ((HS.out.below HB3.out).root r rfl).1.cell 19
  refine wp_loop_rounds 2 ?_; rw [rounds_succ]
  go_wp2_with (first
    | (refine wpList_nextOne rfl _ rfl w2.heap.size S.base (baseL (some r)) 1 (.pointer (some ⟨r.st, 0, none⟩)) rfl HI3.out ?_; intro w4 hit hk hs hent; have HI4 := Lib.hid hit; have HM4 := Lib.hid (HM3.out.keep hk (by have := Hmz.out; omega)); have HB4 := Lib.hid (HB3.out.trans (hk.belowOf HB3.out.size (by intro b hb e; have := Hmz.out; omega))); have m19' : w4.cell? ⟨r.st, 19, none⟩ = some (.int .i64 r.sector) := ((HS.out.below HB4.out).root r rfl).1.cell 19; clear hit hk hs m19)
    | (go_at_call 72; refine (iset_ok w.heap.size 1 r.sector _ HM4.out (by decide) (by decide) hs0 hs1).mono ?_; rintro e w5 ⟨rfl, hM, hk⟩; have HM5 := Lib.hid hM; have HI5 := Lib.hid (HI4.out.keep hk (by have := Hmz.out; omega) (by have := hGlt _ HS.out.gb.1; omega)); have HB5 := Lib.hid (HB4.out.trans (hk.belowOf HB4.out.size (by intro b hb e; omega))); clear hM hk))
  rw [rounds_succ]
  go_wp2_with (first
    | (refine wpList_nextDone rfl _ rfl w2.heap.size S.base (baseL (some r)) rfl HI5.out ?_))
  have hu80 := Tryz.underlying80
  have hi80 : (Tryz.prog.info? 80).map (·.size) = some (whereV S.m0 S.m1 S.m2 S.m3).toList.length := size80a _ _ _ _
  have rs : w5.rangeAt s 8 (whereV S.m0 S.m1 S.m2 S.m3).toList := (HS.out.below HB5.out).cells.range 8 4
  go_cut [6, 7] (fun u6 u7 w' => CpMid w5 L.x.clock L.x.sb L.x.sn S.m0 S.m1 S.m2 S.m3 u6 u7 w')
  case first =>
    have BB : Below w.heap.size w w5.drew := HB5.out.trans ((World.drew_below0 w5).mono HB5.out.size)
    have B5 : Below w5.heap.size w5 w5.drew := World.drew_below0 w5
    have hd5 : w5.drew.heap.size = w5.heap.size := rfl
    (try simp only [Act.put, List.setIfInBounds_toArray, List.set_cons_zero, List.set_cons_succ])
    refine wp_region_noPanic ?_
    refine T_region 9 (fun w' => w'.rangeAt s 8 (whereV S.m0 S.m1 S.m2 S.m3).toList) (by kernel_rfl) (by kernel_rfl) (by kernel_rfl) (by decide) (by kernel_rfl) rs (fun hHeld hU => ?_)
    refine T_take (i := 0) hU 40 ?_ rfl rfl (by decide) (by kernel_rfl) (by kernel_rfl) (fun _ _ _ h => h) (Or.inl ⟨by rfl, ?_⟩) hHeld ?_; rotate_left; (intro w hSw; (try dsimp only at hSw); go_simp); (try with_reducible rfl); clear hU; intro hU; (try simp only [Act.put, List.setIfInBounds_toArray, List.set_cons_zero, List.set_cons_succ])
    refine T_take (i := 2) hU 42 ?_ rfl rfl (by decide) (by kernel_rfl) (by kernel_rfl) (fun _ _ _ h => h) (Or.inl ⟨by rfl, ?_⟩) hHeld ?_; rotate_left; (intro w hSw; (try dsimp only at hSw); go_simp); (try with_reducible rfl); clear hU; intro hU; (try simp only [Act.put, List.setIfInBounds_toArray, List.set_cons_zero, List.set_cons_succ])
    refine T_take (i := 3) hU 43 ?_ rfl rfl (by decide) (by kernel_rfl) (by kernel_rfl) (fun _ _ _ h => h) (Or.inl ⟨by rfl, ?_⟩) hHeld ?_; rotate_left; (intro w hSw; (try dsimp only at hSw); go_simp); (try with_reducible rfl); clear hU; intro hU; (try simp only [Act.put, List.setIfInBounds_toArray, List.set_cons_zero, List.set_cons_succ])
    refine T_take (i := 4) hU 44 ?_ rfl rfl (by decide) (by kernel_rfl) (by kernel_rfl) (fun _ _ _ h => h) (Or.inl ⟨by rfl, ?_⟩) hHeld ?_; rotate_left; (intro w hSw; (try dsimp only at hSw); go_simp); (try with_reducible rfl); clear hU; intro hU; (try simp only [Act.put, List.setIfInBounds_toArray, List.set_cons_zero, List.set_cons_succ])
    refine T_take (i := 5) hU 45 (.agg (whereV S.m0 S.m1 S.m2 S.m3)) rfl rfl (by decide) (by kernel_rfl) (by kernel_rfl) (fun _ _ _ h => h) (yields_load _ _ _ _ rfl _ _ rfl s 8 rfl _ _ hu80 rfl hi80 (fun _ h => h)) hHeld ?_; clear hU; intro hU; (try simp only [Act.put, List.setIfInBounds_toArray, List.set_cons_zero, List.set_cons_succ])
    refine T_ways3 (i := 1) (j := 6) (k := 7) (by kernel_rfl) (T_way (i := 1) hU rfl (by decide) (by kernel_rfl) (fun K hK => ?_)) (T_way (i := 6) hU rfl (by decide) (by kernel_rfl) (fun K hK => ?_)) (T_way (i := 7) hU rfl (by decide) (by kernel_rfl) (fun K hK => ?_))
    · have hHeld1 := hHeld
      clear hU hHeld
      go_simp
      go_at_call 73
      refine (same_ok s l L _ (by rw [← hlp]; exact (HS.out.below BB).cells.cell 6) (Below.at BB HL.out HL.out.lt)).mono ?_
      rintro e x ⟨rfl, hbx⟩
      (try replace AH := Below.at hbx AH AH.lt)
      (try replace AW := Below.at hbx AW AW.lt)
      replace BB := BB.trans (hbx.mono BB.size)
      replace B5 := B5.trans (hbx.mono B5.size)
      refine hK.out _ _ (Below.keepRange hbx hHeld1) (fun hHeld hU => ?_); clear hK K; (try simp only [Act.put, List.setIfInBounds_toArray, List.set_cons_zero, List.set_cons_succ])
      refine T_ways2 (i := 6) (j := 7) (by kernel_rfl) (T_way (i := 6) hU rfl (by decide) (by kernel_rfl) (fun K hK => ?_)) (T_way (i := 7) hU rfl (by decide) (by kernel_rfl) (fun K hK => ?_))
      · have hHeld6 := hHeld
        clear hU hHeld
        refine step_allocN rfl _ rfl 6 rfl _ zero126 (fun x hb hb0 hb1 AH hk => ?_)
        (try have hne : hb ≠ wb := by have := AW.lt; omega)
        (try replace AW := hk.at AW id)
        have hbB : w5.heap.size ≤ hb := Nat.le_trans B5.size hb0
        replace BB := BB.trans (hk.below.mono BB.size)
        replace B5 := B5.trans (hk.below.mono B5.size)
        refine hK.out _ _ (hk.keepRange id hHeld6) (fun hHeld hU => ?_); clear hK K; (try simp only [Act.put, List.setIfInBounds_toArray, List.set_cons_zero, List.set_cons_succ])
        have hHeld7 := hHeld
        refine T_step (i := 7) hU rfl (by decide) (by kernel_rfl) (fun K hK => ?_); clear hU hHeld
        refine step_allocN rfl _ rfl 7 rfl _ zero80 (fun x wb wb0 wb1 AW hk => ?_)
        (try have hne : hb ≠ wb := by have := AH.lt; omega)
        (try replace AH := hk.at AH id)
        have wbB : w5.heap.size ≤ wb := Nat.le_trans B5.size wb0
        replace BB := BB.trans (hk.below.mono BB.size)
        replace B5 := B5.trans (hk.below.mono B5.size)
        refine hK.out _ _ (hk.keepRange id hHeld7) (fun hHeld hU => ?_); clear hK K; (try simp only [Act.put, List.setIfInBounds_toArray, List.set_cons_zero, List.set_cons_succ])
        have hHeld8 := hHeld
        refine T_step (i := 8) hU rfl (by decide) (by kernel_rfl) (fun K hK => ?_); clear hU hHeld
        refine step_storeRow' rfl 126 _ _ rfl rfl hb 0 (headV L.x.clock L.x.sb L.x.sn) _ 126 (by with_unfolding_all exact rfl) (by with_unfolding_all exact rfl) AH (show 9 ≤ 9 by omega) size126 (one126 _ _ _) (fun x hA hk hs => ?_)
        have AH2 : At x hb (headV L.x.clock L.x.sb L.x.sn) 126 := hA
        replace AW := hk.at AW (fun e => hne e.symm)
        replace B5 := B5.trans (hk.belowOf B5.size (by omega))
        have hsb : ¬ (s = hb) := fun e => by have := HS.out.cells.lt; have := HB5.out.size; omega
        refine hK.out _ _ (hk.keepRange hsb hHeld8) (fun hHeld hU => ?_); clear hK K; (try simp only [Act.put, List.setIfInBounds_toArray, List.set_cons_zero, List.set_cons_succ])
        refine T_last (N := 9) rfl (by kernel_rfl) (by kernel_rfl) (fun K hK => ?_); clear hU hHeld
        refine step_storeRow' rfl 80 _ _ rfl rfl wb 0 (whereV S.m0 S.m1 S.m2 S.m3) _ 80 (by with_unfolding_all exact rfl) (by with_unfolding_all exact rfl) AW (show 4 ≤ 4 by omega) (size80a _ _ _ _) (one80 _ _ _ _) (fun x hA2 hk2 hs2 => ?_)
        refine hK.out _ _ (NoPanic.normal ?_); clear hK K
        go_wp2_with fail
        go_meet
        exact ⟨hb, wb, rfl, rfl, hne, hbB, wbB, hk2.at AH2 hne, hA2, B5.trans (hk2.belowOf B5.size (by omega))⟩
      · have hHeld7 := hHeld
        clear hU hHeld
        refine step_allocN rfl _ rfl 7 rfl _ zero80 (fun x wb wb0 wb1 AW hk => ?_)
        (try have hne : hb ≠ wb := by have := AH.lt; omega)
        (try replace AH := hk.at AH id)
        have wbB : w5.heap.size ≤ wb := Nat.le_trans B5.size wb0
        replace BB := BB.trans (hk.below.mono BB.size)
        replace B5 := B5.trans (hk.below.mono B5.size)
        refine hK.out _ _ (hk.keepRange id hHeld7) (fun hHeld hU => ?_); clear hK K; (try simp only [Act.put, List.setIfInBounds_toArray, List.set_cons_zero, List.set_cons_succ])
        have hHeld6 := hHeld
        refine T_step (i := 6) hU rfl (by decide) (by kernel_rfl) (fun K hK => ?_); clear hU hHeld
        refine step_allocN rfl _ rfl 6 rfl _ zero126 (fun x hb hb0 hb1 AH hk => ?_)
        (try have hne : hb ≠ wb := by have := AW.lt; omega)
        (try replace AW := hk.at AW id)
        have hbB : w5.heap.size ≤ hb := Nat.le_trans B5.size hb0
        replace BB := BB.trans (hk.below.mono BB.size)
        replace B5 := B5.trans (hk.below.mono B5.size)
        refine hK.out _ _ (hk.keepRange id hHeld6) (fun hHeld hU => ?_); clear hK K; (try simp only [Act.put, List.setIfInBounds_toArray, List.set_cons_zero, List.set_cons_succ])
        have hHeld8 := hHeld
        refine T_step (i := 8) hU rfl (by decide) (by kernel_rfl) (fun K hK => ?_); clear hU hHeld
        refine step_storeRow' rfl 126 _ _ rfl rfl hb 0 (headV L.x.clock L.x.sb L.x.sn) _ 126 (by with_unfolding_all exact rfl) (by with_unfolding_all exact rfl) AH (show 9 ≤ 9 by omega) size126 (one126 _ _ _) (fun x hA hk hs => ?_)
        have AH2 : At x hb (headV L.x.clock L.x.sb L.x.sn) 126 := hA
        replace AW := hk.at AW (fun e => hne e.symm)
        replace B5 := B5.trans (hk.belowOf B5.size (by omega))
        have hsb : ¬ (s = hb) := fun e => by have := HS.out.cells.lt; have := HB5.out.size; omega
        refine hK.out _ _ (hk.keepRange hsb hHeld8) (fun hHeld hU => ?_); clear hK K; (try simp only [Act.put, List.setIfInBounds_toArray, List.set_cons_zero, List.set_cons_succ])
        refine T_last (N := 9) rfl (by kernel_rfl) (by kernel_rfl) (fun K hK => ?_); clear hU hHeld
        refine step_storeRow' rfl 80 _ _ rfl rfl wb 0 (whereV S.m0 S.m1 S.m2 S.m3) _ 80 (by with_unfolding_all exact rfl) (by with_unfolding_all exact rfl) AW (show 4 ≤ 4 by omega) (size80a _ _ _ _) (one80 _ _ _ _) (fun x hA2 hk2 hs2 => ?_)
        refine hK.out _ _ (NoPanic.normal ?_); clear hK K
        go_wp2_with fail
        go_meet
        exact ⟨hb, wb, rfl, rfl, hne, hbB, wbB, hk2.at AH2 hne, hA2, B5.trans (hk2.belowOf B5.size (by omega))⟩
    · have hHeld6 := hHeld
      clear hU hHeld
      refine step_allocN rfl _ rfl 6 rfl _ zero126 (fun x hb hb0 hb1 AH hk => ?_)
      (try have hne : hb ≠ wb := by have := AW.lt; omega)
      (try replace AW := hk.at AW id)
      have hbB : w5.heap.size ≤ hb := Nat.le_trans B5.size hb0
      replace BB := BB.trans (hk.below.mono BB.size)
      replace B5 := B5.trans (hk.below.mono B5.size)
      refine hK.out _ _ (hk.keepRange id hHeld6) (fun hHeld hU => ?_); clear hK K; (try simp only [Act.put, List.setIfInBounds_toArray, List.set_cons_zero, List.set_cons_succ])
      refine T_ways2 (i := 1) (j := 7) (by kernel_rfl) (T_way (i := 1) hU rfl (by decide) (by kernel_rfl) (fun K hK => ?_)) (T_way (i := 7) hU rfl (by decide) (by kernel_rfl) (fun K hK => ?_))
      · have hHeld1 := hHeld
        clear hU hHeld
        go_simp
        go_at_call 73
        refine (same_ok s l L _ (by rw [← hlp]; exact (HS.out.below BB).cells.cell 6) (Below.at BB HL.out HL.out.lt)).mono ?_
        rintro e x ⟨rfl, hbx⟩
        (try replace AH := Below.at hbx AH AH.lt)
        (try replace AW := Below.at hbx AW AW.lt)
        replace BB := BB.trans (hbx.mono BB.size)
        replace B5 := B5.trans (hbx.mono B5.size)
        refine hK.out _ _ (Below.keepRange hbx hHeld1) (fun hHeld hU => ?_); clear hK K; (try simp only [Act.put, List.setIfInBounds_toArray, List.set_cons_zero, List.set_cons_succ])
        have hHeld7 := hHeld
        refine T_step (i := 7) hU rfl (by decide) (by kernel_rfl) (fun K hK => ?_); clear hU hHeld
        refine step_allocN rfl _ rfl 7 rfl _ zero80 (fun x wb wb0 wb1 AW hk => ?_)
        (try have hne : hb ≠ wb := by have := AH.lt; omega)
        (try replace AH := hk.at AH id)
        have wbB : w5.heap.size ≤ wb := Nat.le_trans B5.size wb0
        replace BB := BB.trans (hk.below.mono BB.size)
        replace B5 := B5.trans (hk.below.mono B5.size)
        refine hK.out _ _ (hk.keepRange id hHeld7) (fun hHeld hU => ?_); clear hK K; (try simp only [Act.put, List.setIfInBounds_toArray, List.set_cons_zero, List.set_cons_succ])
        have hHeld8 := hHeld
        refine T_step (i := 8) hU rfl (by decide) (by kernel_rfl) (fun K hK => ?_); clear hU hHeld
        refine step_storeRow' rfl 126 _ _ rfl rfl hb 0 (headV L.x.clock L.x.sb L.x.sn) _ 126 (by with_unfolding_all exact rfl) (by with_unfolding_all exact rfl) AH (show 9 ≤ 9 by omega) size126 (one126 _ _ _) (fun x hA hk hs => ?_)
        have AH2 : At x hb (headV L.x.clock L.x.sb L.x.sn) 126 := hA
        replace AW := hk.at AW (fun e => hne e.symm)
        replace B5 := B5.trans (hk.belowOf B5.size (by omega))
        have hsb : ¬ (s = hb) := fun e => by have := HS.out.cells.lt; have := HB5.out.size; omega
        refine hK.out _ _ (hk.keepRange hsb hHeld8) (fun hHeld hU => ?_); clear hK K; (try simp only [Act.put, List.setIfInBounds_toArray, List.set_cons_zero, List.set_cons_succ])
        refine T_last (N := 9) rfl (by kernel_rfl) (by kernel_rfl) (fun K hK => ?_); clear hU hHeld
        refine step_storeRow' rfl 80 _ _ rfl rfl wb 0 (whereV S.m0 S.m1 S.m2 S.m3) _ 80 (by with_unfolding_all exact rfl) (by with_unfolding_all exact rfl) AW (show 4 ≤ 4 by omega) (size80a _ _ _ _) (one80 _ _ _ _) (fun x hA2 hk2 hs2 => ?_)
        refine hK.out _ _ (NoPanic.normal ?_); clear hK K
        go_wp2_with fail
        go_meet
        exact ⟨hb, wb, rfl, rfl, hne, hbB, wbB, hk2.at AH2 hne, hA2, B5.trans (hk2.belowOf B5.size (by omega))⟩
      · have hHeld7 := hHeld
        clear hU hHeld
        refine step_allocN rfl _ rfl 7 rfl _ zero80 (fun x wb wb0 wb1 AW hk => ?_)
        (try have hne : hb ≠ wb := by have := AH.lt; omega)
        (try replace AH := hk.at AH id)
        have wbB : w5.heap.size ≤ wb := Nat.le_trans B5.size wb0
        replace BB := BB.trans (hk.below.mono BB.size)
        replace B5 := B5.trans (hk.below.mono B5.size)
        refine hK.out _ _ (hk.keepRange id hHeld7) (fun hHeld hU => ?_); clear hK K; (try simp only [Act.put, List.setIfInBounds_toArray, List.set_cons_zero, List.set_cons_succ])
        have hHeld1 := hHeld
        refine T_step (i := 1) hU rfl (by decide) (by kernel_rfl) (fun K hK => ?_); clear hU hHeld
        go_simp
        go_at_call 73
        refine (same_ok s l L _ (by rw [← hlp]; exact (HS.out.below BB).cells.cell 6) (Below.at BB HL.out HL.out.lt)).mono ?_
        rintro e x ⟨rfl, hbx⟩
        (try replace AH := Below.at hbx AH AH.lt)
        (try replace AW := Below.at hbx AW AW.lt)
        replace BB := BB.trans (hbx.mono BB.size)
        replace B5 := B5.trans (hbx.mono B5.size)
        refine hK.out _ _ (Below.keepRange hbx hHeld1) (fun hHeld hU => ?_); clear hK K; (try simp only [Act.put, List.setIfInBounds_toArray, List.set_cons_zero, List.set_cons_succ])
        have hHeld8 := hHeld
        refine T_step (i := 8) hU rfl (by decide) (by kernel_rfl) (fun K hK => ?_); clear hU hHeld
        refine step_storeRow' rfl 126 _ _ rfl rfl hb 0 (headV L.x.clock L.x.sb L.x.sn) _ 126 (by with_unfolding_all exact rfl) (by with_unfolding_all exact rfl) AH (show 9 ≤ 9 by omega) size126 (one126 _ _ _) (fun x hA hk hs => ?_)
        have AH2 : At x hb (headV L.x.clock L.x.sb L.x.sn) 126 := hA
        replace AW := hk.at AW (fun e => hne e.symm)
        replace B5 := B5.trans (hk.belowOf B5.size (by omega))
        have hsb : ¬ (s = hb) := fun e => by have := HS.out.cells.lt; have := HB5.out.size; omega
        refine hK.out _ _ (hk.keepRange hsb hHeld8) (fun hHeld hU => ?_); clear hK K; (try simp only [Act.put, List.setIfInBounds_toArray, List.set_cons_zero, List.set_cons_succ])
        refine T_last (N := 9) rfl (by kernel_rfl) (by kernel_rfl) (fun K hK => ?_); clear hU hHeld
        refine step_storeRow' rfl 80 _ _ rfl rfl wb 0 (whereV S.m0 S.m1 S.m2 S.m3) _ 80 (by with_unfolding_all exact rfl) (by with_unfolding_all exact rfl) AW (show 4 ≤ 4 by omega) (size80a _ _ _ _) (one80 _ _ _ _) (fun x hA2 hk2 hs2 => ?_)
        refine hK.out _ _ (NoPanic.normal ?_); clear hK K
        go_wp2_with fail
        go_meet
        exact ⟨hb, wb, rfl, rfl, hne, hbB, wbB, hk2.at AH2 hne, hA2, B5.trans (hk2.belowOf B5.size (by omega))⟩
    · have hHeld7 := hHeld
      clear hU hHeld
      refine step_allocN rfl _ rfl 7 rfl _ zero80 (fun x wb wb0 wb1 AW hk => ?_)
      (try have hne : hb ≠ wb := by have := AH.lt; omega)
      (try replace AH := hk.at AH id)
      have wbB : w5.heap.size ≤ wb := Nat.le_trans B5.size wb0
      replace BB := BB.trans (hk.below.mono BB.size)
      replace B5 := B5.trans (hk.below.mono B5.size)
      refine hK.out _ _ (hk.keepRange id hHeld7) (fun hHeld hU => ?_); clear hK K; (try simp only [Act.put, List.setIfInBounds_toArray, List.set_cons_zero, List.set_cons_succ])
      refine T_ways2 (i := 1) (j := 6) (by kernel_rfl) (T_way (i := 1) hU rfl (by decide) (by kernel_rfl) (fun K hK => ?_)) (T_way (i := 6) hU rfl (by decide) (by kernel_rfl) (fun K hK => ?_))
      · have hHeld1 := hHeld
        clear hU hHeld
        go_simp
        go_at_call 73
        refine (same_ok s l L _ (by rw [← hlp]; exact (HS.out.below BB).cells.cell 6) (Below.at BB HL.out HL.out.lt)).mono ?_
        rintro e x ⟨rfl, hbx⟩
        (try replace AH := Below.at hbx AH AH.lt)
        (try replace AW := Below.at hbx AW AW.lt)
        replace BB := BB.trans (hbx.mono BB.size)
        replace B5 := B5.trans (hbx.mono B5.size)
        refine hK.out _ _ (Below.keepRange hbx hHeld1) (fun hHeld hU => ?_); clear hK K; (try simp only [Act.put, List.setIfInBounds_toArray, List.set_cons_zero, List.set_cons_succ])
        have hHeld6 := hHeld
        refine T_step (i := 6) hU rfl (by decide) (by kernel_rfl) (fun K hK => ?_); clear hU hHeld
        refine step_allocN rfl _ rfl 6 rfl _ zero126 (fun x hb hb0 hb1 AH hk => ?_)
        (try have hne : hb ≠ wb := by have := AW.lt; omega)
        (try replace AW := hk.at AW id)
        have hbB : w5.heap.size ≤ hb := Nat.le_trans B5.size hb0
        replace BB := BB.trans (hk.below.mono BB.size)
        replace B5 := B5.trans (hk.below.mono B5.size)
        refine hK.out _ _ (hk.keepRange id hHeld6) (fun hHeld hU => ?_); clear hK K; (try simp only [Act.put, List.setIfInBounds_toArray, List.set_cons_zero, List.set_cons_succ])
        have hHeld8 := hHeld
        refine T_step (i := 8) hU rfl (by decide) (by kernel_rfl) (fun K hK => ?_); clear hU hHeld
        refine step_storeRow' rfl 126 _ _ rfl rfl hb 0 (headV L.x.clock L.x.sb L.x.sn) _ 126 (by with_unfolding_all exact rfl) (by with_unfolding_all exact rfl) AH (show 9 ≤ 9 by omega) size126 (one126 _ _ _) (fun x hA hk hs => ?_)
        have AH2 : At x hb (headV L.x.clock L.x.sb L.x.sn) 126 := hA
        replace AW := hk.at AW (fun e => hne e.symm)
        replace B5 := B5.trans (hk.belowOf B5.size (by omega))
        have hsb : ¬ (s = hb) := fun e => by have := HS.out.cells.lt; have := HB5.out.size; omega
        refine hK.out _ _ (hk.keepRange hsb hHeld8) (fun hHeld hU => ?_); clear hK K; (try simp only [Act.put, List.setIfInBounds_toArray, List.set_cons_zero, List.set_cons_succ])
        refine T_last (N := 9) rfl (by kernel_rfl) (by kernel_rfl) (fun K hK => ?_); clear hU hHeld
        refine step_storeRow' rfl 80 _ _ rfl rfl wb 0 (whereV S.m0 S.m1 S.m2 S.m3) _ 80 (by with_unfolding_all exact rfl) (by with_unfolding_all exact rfl) AW (show 4 ≤ 4 by omega) (size80a _ _ _ _) (one80 _ _ _ _) (fun x hA2 hk2 hs2 => ?_)
        refine hK.out _ _ (NoPanic.normal ?_); clear hK K
        go_wp2_with fail
        go_meet
        exact ⟨hb, wb, rfl, rfl, hne, hbB, wbB, hk2.at AH2 hne, hA2, B5.trans (hk2.belowOf B5.size (by omega))⟩
      · have hHeld6 := hHeld
        clear hU hHeld
        refine step_allocN rfl _ rfl 6 rfl _ zero126 (fun x hb hb0 hb1 AH hk => ?_)
        (try have hne : hb ≠ wb := by have := AW.lt; omega)
        (try replace AW := hk.at AW id)
        have hbB : w5.heap.size ≤ hb := Nat.le_trans B5.size hb0
        replace BB := BB.trans (hk.below.mono BB.size)
        replace B5 := B5.trans (hk.below.mono B5.size)
        refine hK.out _ _ (hk.keepRange id hHeld6) (fun hHeld hU => ?_); clear hK K; (try simp only [Act.put, List.setIfInBounds_toArray, List.set_cons_zero, List.set_cons_succ])
        have hHeld1 := hHeld
        refine T_step (i := 1) hU rfl (by decide) (by kernel_rfl) (fun K hK => ?_); clear hU hHeld
        go_simp
        go_at_call 73
        refine (same_ok s l L _ (by rw [← hlp]; exact (HS.out.below BB).cells.cell 6) (Below.at BB HL.out HL.out.lt)).mono ?_
        rintro e x ⟨rfl, hbx⟩
        (try replace AH := Below.at hbx AH AH.lt)
        (try replace AW := Below.at hbx AW AW.lt)
        replace BB := BB.trans (hbx.mono BB.size)
        replace B5 := B5.trans (hbx.mono B5.size)
        refine hK.out _ _ (Below.keepRange hbx hHeld1) (fun hHeld hU => ?_); clear hK K; (try simp only [Act.put, List.setIfInBounds_toArray, List.set_cons_zero, List.set_cons_succ])
        have hHeld8 := hHeld
        refine T_step (i := 8) hU rfl (by decide) (by kernel_rfl) (fun K hK => ?_); clear hU hHeld
        refine step_storeRow' rfl 126 _ _ rfl rfl hb 0 (headV L.x.clock L.x.sb L.x.sn) _ 126 (by with_unfolding_all exact rfl) (by with_unfolding_all exact rfl) AH (show 9 ≤ 9 by omega) size126 (one126 _ _ _) (fun x hA hk hs => ?_)
        have AH2 : At x hb (headV L.x.clock L.x.sb L.x.sn) 126 := hA
        replace AW := hk.at AW (fun e => hne e.symm)
        replace B5 := B5.trans (hk.belowOf B5.size (by omega))
        have hsb : ¬ (s = hb) := fun e => by have := HS.out.cells.lt; have := HB5.out.size; omega
        refine hK.out _ _ (hk.keepRange hsb hHeld8) (fun hHeld hU => ?_); clear hK K; (try simp only [Act.put, List.setIfInBounds_toArray, List.set_cons_zero, List.set_cons_succ])
        refine T_last (N := 9) rfl (by kernel_rfl) (by kernel_rfl) (fun K hK => ?_); clear hU hHeld
        refine step_storeRow' rfl 80 _ _ rfl rfl wb 0 (whereV S.m0 S.m1 S.m2 S.m3) _ 80 (by with_unfolding_all exact rfl) (by with_unfolding_all exact rfl) AW (show 4 ≤ 4 by omega) (size80a _ _ _ _) (one80 _ _ _ _) (fun x hA2 hk2 hs2 => ?_)
        refine hK.out _ _ (NoPanic.normal ?_); clear hK K
        go_wp2_with fail
        go_meet
        exact ⟨hb, wb, rfl, rfl, hne, hbB, wbB, hk2.at AH2 hne, hA2, B5.trans (hk2.belowOf B5.size (by omega))⟩
  case rest =>
    obtain ⟨hb, wb, rfl, rfl, hne, hbB, wbB, AH, AW, hbc⟩ := hcut
    have Hgeo : Hid (w5.heap.size ≤ hb ∧ w5.heap.size ≤ wb ∧ hb ≠ wb) := Lib.hid ⟨hbB, wbB, hne⟩
    have AHc := Lib.hid AH
    have AWc := Lib.hid AW
    have HB5' := Lib.hid (And.intro HB5.out.size HM5.out.lt)
    have HBc := Lib.hid (HB5.out.trans (hbc.mono HB5.out.size))
    have HMc := Lib.hid (HM5.out.below hbc)
    clear hbB wbB hne AH AW hbc HB5 HM5 HI5 rs
    go_wp2_with fail
    go_loopg [8, 46] 4 (fun gk u i wr => ∃ (k : Nat) (ps : List Int) (ss : List ByteArray) (lv : Value), k ≤ 4 ∧ gk = 4 - k ∧ i = .int .i64 k ∧ CpParts wc wr hb L.x.clock L.x.sb L.x.sn u lv k ps ss)
    case atStart => exact ⟨0, [], [], .slice none 0 0, by omega, by omega, rfl, AHc.out, World.ownsRow_nil _ _ _ _, World.ownsRow_nil _ _ _ _, rfl, Nat.le_refl _, by simp, by simp, Keep.refl _ _⟩
    case round =>
      obtain ⟨k, ps, ss, lv, hk, hgk, rfl, hP⟩ := hrel
      have Hgk := Lib.hid hgk
      have HP := Lib.hid hP
      clear hgk hP
      by_cases hlt : k < 4
      · have HBr := Lib.hid (HBc.out.trans (HP.out.keep.belowOf HBc.out.size (by intro c hc e; have := Hgeo.out; have := HB5'.out; omega)))
        have hcz := Lib.hid HP.out.keep.size
        obtain ⟨pl, cl, rfl⟩ := ownsRow_slice HP.out.es
        have ck : wr.cell? ⟨s, 8 + k, none⟩ = some (.int .i64 0) := (HS.out.below HBr.out).cells.cell (8 + k) |>.trans (by
          obtain ⟨e0, e1, e2, e3⟩ := Hm0.out
          match k, hlt with
          | 0, _ => simp [StoreV.cells, e0]
          | 1, _ => simp [StoreV.cells, e1]
          | 2, _ => simp [StoreV.cells, e2]
          | 3, _ => simp [StoreV.cells, e3])
        have hMr := Lib.hid (HMc.out.keep HP.out.keep (by have := Hgeo.out; have := HB5'.out; omega))
        go_wp2_with (first
          | (go_at_call 74; refine (iput_ok w.heap.size k _ hMr.out (by omega)).mono ?_; rintro e w6 ⟨s1, hs1, rfl, hb6⟩; have ck' : w6.cell? ⟨s, 8 + k, none⟩ = some (.int .i64 0) := Below.keepCell hb6 ck; have HB6 := Lib.hid hb6; have Hs1 := Lib.hid hs1; clear hb6 hs1 ck)
          | (go_at_call 62; refine (fblank_ok _).mono ?_; rintro e w7 ⟨s2, hs2, rfl, hb7⟩; have HB7 := Lib.hid (HB6.out.trans (hb7.mono HB6.out.size)); have h8 : w7.cell? ⟨hb, 8, none⟩ = some (.slice pl ps.length cl) := Below.keepCell HB7.out (HP.out.hd.cell 8); have HD7 := Lib.hid (Below.at HB7.out HP.out.hd HP.out.hd.lt); clear hb7 hs2 ck'; cases hq : (s1.toList == s2.toList))
          | (refine wpList_buildL rfl 146 _ rfl _ _ (built146 4 1 k) rfl ?_)
          | (refine wpList_appendEnt rfl _ _ rfl wc.heap.size (.slice pl ps.length cl) ps.length _ rfl (((Keep.of_below HB7.out (fun _ => False)).ownsRow HP.out.es (fun _ _ h => h)).alloc _) w7.heap.size 4 1 k rfl (At.new _ _ _) (by have := HP.out.le; omega) (by have := HB7.out.size; have := hcz.out; simp; omega) ?_; intro lv' w8 hown8 hgrow8 hblk8; obtain ⟨pl8, cl8, rfl⟩ := ownsRow_slice hown8; have HO8 := Lib.hid hown8; have HK8 := Lib.hid (((Keep.refl (fun b => Value.ownBlock (.slice pl ps.length cl) = some b) w7).alloc _).grown hgrow8 (fun j hj => .inl hj)); have HD8 := Lib.hid (HK8.out.at HD7.out (fun e => own_ne_at HP.out.es HP.out.hd (by decide) e rfl)); clear hown8 hgrow8 hblk8 h8)
          | (refine wpList_storeCell rfl 124 _ _ rfl rfl hb 8 (.slice pl8 (ps.length + 1) cl8) _ _ rfl rfl HD8.out (show (8 : Nat) < 9 by decide) size124 rfl rfl ?_; intro w9 hA9 hk9 hs9; have HU8 := Lib.hid (HK8.out.ownsRow ((Keep.of_below HB7.out (fun _ => False)).ownsRow HP.out.bs (fun _ _ h => h)) (fun b hb e => own_ne_own HP.out.es HP.out.bs (by decide) e hb)); have HD9 := Lib.hid (show At w9 hb (headL L.x.clock L.x.sb L.x.sn (.slice pl8 (ps.length + 1) cl8)) 126 from hA9); have HK9 := Lib.hid hk9; have HU9 := Lib.hid (hk9.ownsRow HU8.out (fun b hb1 e => own_ne_at HP.out.bs HP.out.hd (by decide) hb1 e)); clear hA9 hk9 hs9)
          | (refine wpList_appendBlk rfl _ _ rfl wc.heap.size u8 ps.length _ rfl (HU9.out.alloc _) w9.heap.size s1 rfl (At.new _ _ _) (by have := HP.out.le; omega) (by have := HB7.out.size; have := HK8.out.size; have := HK9.out.size; have := hcz.out; simp; omega) ?_; intro u10 w10 hown10 hgrow10 hblk10; have HO10 := Lib.hid hown10; have HK10 := Lib.hid (((Keep.refl (fun b => Value.ownBlock u8 = some b) w9).alloc _).grown hgrow10 (fun j hj => .inl hj)); clear hown10 hgrow10 hblk10))
        · go_roundg (4 - (k + 1))
          case measure => have := Hgk.out; omega
          case rel =>
            refine ⟨k + 1, ps ++ [(k : Int)], ss ++ [s1], .slice pl8 (ps.length + 1) cl8, by omega, rfl, by go_num, ?_⟩
            have nb : ∀ b, u8.ownBlock = some b → b ≠ hb := fun b e => own_ne_at HP.out.bs HP.out.hd (by decide) e
            exact {
              hd := HK10.out.at HD9.out (fun e => nb _ e rfl)
              es := by
                rw [List.length_append, eCells_snoc]
                exact HK10.out.ownsRow (HK9.out.ownsRow HO8.out (fun b e e2 => own_ne_at HO8.out HD8.out (by decide) e e2)) (fun b e e2 => own_ne_own HO8.out HU8.out (by decide) e e2)
              bs := by rw [List.length_append, List.map_append]; exact HO10.out
              len := by simp [HP.out.len]
              le := by have := HP.out.le; simp; omega
              ok := fun p hp => by
                rcases List.mem_append.1 hp with hp | hp
                · exact HP.out.ok p hp
                · simp at hp; subst hp; omega
              sz := fun t ht => by
                rcases List.mem_append.1 ht with ht | ht
                · exact HP.out.sz t ht
                · simp at ht; subst ht; exact Hs1.out
              keep := by
                have hz := hcz.out
                have hz7 := HB7.out.size
                have k7 : Keep (· = hb) wc w7 := HP.out.keep.trans (Keep.of_below HB7.out (fun _ => False)) (fun _ _ h => h.elim)
                have k8 : Keep (· = hb) wc w8 := k7.trans HK8.out (fun b hb1 e => by have := (HP.out.es.lt b e).1; omega)
                exact (k8.trans HK9.out (fun _ _ h => h)).trans HK10.out (fun b hb1 e => by have := (HP.out.bs.lt b e).1; omega) }
        · go_roundg (4 - (k + 1))
          case measure => have := Hgk.out; omega
          case rel =>
            refine ⟨k + 1, ps, ss, .slice pl ps.length cl, by omega, rfl, by go_num, ?_⟩
            exact {
              hd := HD7.out
              es := (Keep.of_below HB7.out (fun _ => False)).ownsRow HP.out.es (fun _ _ h => h)
              bs := (Keep.of_below HB7.out (fun _ => False)).ownsRow HP.out.bs (fun _ _ h => h)
              len := HP.out.len
              le := by have := HP.out.le; omega
              ok := HP.out.ok
              sz := HP.out.sz
              keep := HP.out.keep.trans (Keep.of_below HB7.out (fun _ => False)) (fun _ _ h => h.elim) }
      · obtain rfl : k = 4 := by omega
        have HBr := Lib.hid (HBc.out.trans (HP.out.keep.belowOf HBc.out.size (by intro c hc e; have := Hgeo.out; have := HB5'.out; omega)))
        have hkw := Lib.hid (HP.out.keep.at AWc.out (fun e => Hgeo.out.2.2 e.symm))
        have HSr := Lib.hid (HS.out.below HBr.out)
        have HLr := Lib.hid (Below.at HBr.out HL.out HL.out.lt)
        have c6 : wr.cell? ⟨s, 6, none⟩ = some (.pointer (some ⟨l, 0, none⟩)) := by rw [← hlp]; exact HSr.out.cells.cell 6
        have hP := HP.out
        obtain ⟨pl, cl, rfl⟩ := ownsRow_slice hP.es
        obtain ⟨pu, cu, rfl⟩ := ownsRow_slice hP.bs
        have hm4 : ps.length ≤ 4 := hP.le
        have HE := Lib.hid (entries_of_list (es := mapEs ps) hP.es (by simp [mapEs]) (by intro e he; obtain ⟨p, hp, rfl⟩ := List.mem_map.1 he; exact .inr ⟨rfl, rfl, (hP.ok p hp).1, by have := (hP.ok p hp).2; simp only; omega⟩))
        have HQ := Lib.hid (blocks_of_list hP.bs hP.len hP.sz)
        have HDr := Lib.hid hP.hd
        have Hps := Lib.hid (And.intro hP.es hP.ok)
        clear hP HP HMc AWc AHc
        have hz0 := Lib.hid (And.intro HBr.out.size hGlt)
        go_wp2_with (first
          | (go_at_call 75; refine (lplace_ok l L _ HLr.out).mono ?_; rintro e w11 ⟨rfl, hb⟩; have HB11 := Lib.hid hb; clear hb)
          | (refine wpList_allocAt rfl 82 rfl zSlot zero82 ?_; intro w12 hz hk hs; have HY12 := Lib.hid hz; have Hk12 := Lib.hid hk; have Hs12 := Lib.hid hs; clear hz hk hs)
          | (refine wpList_storeRow rfl 82 _ _ rfl rfl w11.heap.size L.x.cells zSlot _ rfl rfl HY12.out rfl (size82 _) (one82 _) ?_; intro w13 hA hk hs; have b13 : Below w11.heap.size w11 w13 := Hk12.out.below.trans (hk.belowOf (by have := Hs12.out; omega) (by intro b hb e; omega)); have HX13 := Lib.hid hA; have HB13 := Lib.hid (HB11.out.trans (b13.mono HB11.out.size)); clear hA hk hs b13 c6))
        have x4 : w13.cell? ⟨w11.heap.size, 4, none⟩ = some (.int .i64 L.x.at_) := HX13.out.cell 4
        have s2 : w13.cell? ⟨s, 2, none⟩ = some (.int .i64 32) := (HSr.out.below HB13.out).cells.cell 2
        have hw1 : IntKind.i64.wrap (L.x.at_ + 1) = L.x.at_ + 1 := by rw [IntKind.wrap_i64]; omega
        have hw2 : IntKind.i64.wrap (L.x.at_ + 1 + (ps.length : Int)) = L.x.at_ + 1 + ps.length := by rw [IntKind.wrap_i64]; omega
        have hdc : decide ((32 : Int) < L.x.at_ + 1 + ps.length) = false := by simp; omega
        (try simp only [Act.put, List.setIfInBounds_toArray, List.set_cons_zero, List.set_cons_succ])
        refine wp_region_noPanic ?_
        refine T_region 11 (fun w' => w'.cell? ⟨w11.heap.size, 4, none⟩ = some (.int .i64 L.x.at_) ∧ w'.cell? ⟨s, 2, none⟩ = some (.int .i64 32)) (by kernel_rfl) (by kernel_rfl) (by kernel_rfl) (by decide) (by kernel_rfl) ⟨x4, s2⟩ (fun hHeld hU => ?_)
        refine T_take (i := 0) hU 81 ?_ rfl rfl (by decide) (by kernel_rfl) (by kernel_rfl) (fun _ _ _ h => h) (Or.inl ⟨by rfl, ?_⟩) hHeld ?_; rotate_left; (intro w hSw; (try dsimp only at hSw); go_simp); (try with_reducible rfl); clear hU; intro hU; (try simp only [Act.put, List.setIfInBounds_toArray, List.set_cons_zero, List.set_cons_succ])
        refine T_take (i := 1) hU 82 ?_ rfl rfl (by decide) (by kernel_rfl) (by kernel_rfl) (fun _ _ _ h => h) (Or.inl ⟨by rfl, ?_⟩) hHeld ?_; rotate_left; (intro w hSw; (try dsimp only at hSw); go_simp); (try with_reducible rfl); clear hU; intro hU; (try simp only [Act.put, List.setIfInBounds_toArray, List.set_cons_zero, List.set_cons_succ])
        refine T_take (i := 2) hU 83 ?_ rfl rfl (by decide) (by kernel_rfl) (by kernel_rfl) (fun _ _ _ h => h) (Or.inl ⟨by rfl, ?_⟩) hHeld ?_; rotate_left; (intro w hSw; (try dsimp only at hSw); go_simp); (try with_reducible rfl); clear hU; intro hU; (try simp only [Act.put, List.setIfInBounds_toArray, List.set_cons_zero, List.set_cons_succ])
        refine T_take (i := 3) hU 84 ?_ rfl rfl (by decide) (by kernel_rfl) (by kernel_rfl) (fun _ _ _ h => h) (Or.inl ⟨by rfl, ?_⟩) hHeld ?_; rotate_left; (intro w hSw; (try dsimp only at hSw); go_simp); (try with_reducible rfl); clear hU; intro hU; (try simp only [Act.put, List.setIfInBounds_toArray, List.set_cons_zero, List.set_cons_succ])
        refine T_take (i := 4) hU 85 ?_ rfl rfl (by decide) (by kernel_rfl) (by kernel_rfl) (fun _ _ _ h => h) (Or.inl ⟨by rfl, ?_⟩) hHeld ?_; rotate_left; (intro w hSw; (try dsimp only at hSw); go_simp); (try with_reducible rfl); clear hU; intro hU; (try simp only [Act.put, List.setIfInBounds_toArray, List.set_cons_zero, List.set_cons_succ])
        refine T_take (i := 5) hU 86 ?_ rfl rfl (by decide) (by kernel_rfl) (by kernel_rfl) (fun _ _ _ h => h) (Or.inl ⟨by rfl, ?_⟩) hHeld ?_; rotate_left; (intro w hSw; (try dsimp only at hSw); go_simp); (try with_reducible rfl); clear hU; intro hU; (try simp only [Act.put, List.setIfInBounds_toArray, List.set_cons_zero, List.set_cons_succ])
        refine T_take (i := 6) hU 87 ?_ rfl rfl (by decide) (by kernel_rfl) (by kernel_rfl) (fun _ _ _ h => h) (Or.inl ⟨by rfl, ?_⟩) hHeld ?_; rotate_left; (intro w hSw; (try dsimp only at hSw); go_simp); (try with_reducible rfl); clear hU; intro hU; (try simp only [Act.put, List.setIfInBounds_toArray, List.set_cons_zero, List.set_cons_succ])
        refine T_take (i := 7) hU 88 ?_ rfl rfl (by decide) (by kernel_rfl) (by kernel_rfl) (fun _ _ _ h => h) (Or.inl ⟨by rfl, ?_⟩) hHeld ?_; rotate_left; (intro w hSw; (try dsimp only at hSw); go_simp); (try with_reducible rfl); clear hU; intro hU; (try simp only [Act.put, List.setIfInBounds_toArray, List.set_cons_zero, List.set_cons_succ])
        refine T_take (i := 8) hU 89 ?_ rfl rfl (by decide) (by kernel_rfl) (by kernel_rfl) (fun _ _ _ h => h) (Or.inl ⟨by rfl, ?_⟩) hHeld ?_; rotate_left; (intro w hSw; (try dsimp only at hSw); go_simp); (try with_reducible rfl); clear hU; intro hU; (try simp only [Act.put, List.setIfInBounds_toArray, List.set_cons_zero, List.set_cons_succ])
        refine T_take (i := 9) hU 90 ?_ rfl rfl (by decide) (by kernel_rfl) (by kernel_rfl) (fun _ _ _ h => h) (Or.inl ⟨by rfl, ?_⟩) hHeld ?_; rotate_left; (intro w hSw; (try dsimp only at hSw); go_simp); (try with_reducible rfl); clear hU; intro hU; (try simp only [Act.put, List.setIfInBounds_toArray, List.set_cons_zero, List.set_cons_succ])
        refine T_take (i := 10) hU 91 ?_ rfl rfl (by decide) (by kernel_rfl) (by kernel_rfl) (fun _ _ _ h => h) (Or.inl ⟨by rfl, ?_⟩) hHeld ?_; rotate_left; (intro w hSw; (try dsimp only at hSw); go_simp); (try with_reducible rfl); clear hU; intro hU; (try simp only [Act.put, List.setIfInBounds_toArray, List.set_cons_zero, List.set_cons_succ])
        refine T_last (N := 11) rfl (by kernel_rfl) (by kernel_rfl) (fun K hK => ?_); clear hU hHeld
        go_simp
        refine hK.out _ _ (NoPanic.normal ?_); clear hK K
        obtain ⟨D0, hD1, hD2, hFlt⟩ := Hd.out
        have hllt := HL.out.lt
        have nF : ∀ k, w.heap.size ≤ k → ¬ (F k ∨ k = l) := fun k hk e => e.elim (fun hf => by have := hFlt k hf; omega) (fun e => by omega)
        have nG : ∀ k, G k → ¬ (F k ∨ k = l) := fun k hg e => e.elim (fun hf => hFG k hf hg) (fun e => hGl (e ▸ hg))
        have HnF := Lib.hid nF
        have HnG := Lib.hid nG
        have ns := nG s HS.out.gs
        have nhb := nF hb (by have := Hgeo.out; have := HB5'.out; omega)
        have HSn := Lib.hid (And.intro ns nhb)
        have HB13w := Lib.hid (HBr.out.trans (HB13.out.mono HBr.out.size))
        have c6 : w13.cell? ⟨s, 6, none⟩ = some (.pointer (some ⟨l, 0, none⟩)) := by rw [← hlp]; exact (HSr.out.below HB13.out).cells.cell 6
        have rh : w13.rangeAt hb 0 (headL L.x.clock L.x.sb L.x.sn (.slice pl ps.length cl)).toList := (Below.at HB13.out HDr.out HDr.out.lt).range 0 9
        have hu126 := Tryz.underlying126
        have hi126 : (Tryz.prog.info? 126).map (·.size) = some (headL L.x.clock L.x.sb L.x.sn (.slice pl ps.length cl)).toList.length := size126
        have BD : Below wr.heap.size wr w13.drew.drew := (HB13.out.trans ((World.drew_below0 w13).mono HB13.out.size)).trans ((World.drew_below0 w13.drew).mono HB13.out.size)
        have Happ := Lib.hid (append_ok l dn Bd n F L 0 0 0 0 0 L.x.clock L.x.sb L.x.sn (.slice pl ps.length cl) (.slice pu ps.length cu) ps.length w13.drew.drew (hLd ▸ (Hd.out.below HB13w.out).drew.drew) (show LogAt w13 l L from Below.at HB13w.out HL.out HL.out.lt) hFl
          ((HE.out.below BD).mono BD.size) ((HQ.out.below BD (Nat.le_refl _)).mono BD.size) (by omega) (HN.out.lsct.trans HN.out.sct) (HN.out.dn.trans HN.out.lsct.symm) HN.out.lo HN.out.hi HN.out.seg ⟨HN.out.at_.1, by have := HN.out.at_; omega⟩ HN.out.h HN.out.g HN.out.life HN.out.seq HN.out.next Hx.out.1 Hx.out.2.1 Hx.out.2.2 (by have := Hbd.out; omega) hfv)
        clear BD x4 s2 hw1 hw2 hdc nF nG ns nhb hFlt hD1 hD2
        go_wp2_with fail
        (try simp only [Act.put, List.setIfInBounds_toArray, List.set_cons_zero, List.set_cons_succ])
        refine wp_region_noPanic ?_
        refine T_region 11 (fun w' => w'.cell? ⟨s, 6, none⟩ = some (.pointer (some ⟨l, 0, none⟩)) ∧ w'.rangeAt hb 0 (headL L.x.clock L.x.sb L.x.sn (.slice pl ps.length cl)).toList) (by kernel_rfl) (by kernel_rfl) (by kernel_rfl) (by decide) (by kernel_rfl) ⟨c6, rh⟩ (fun hHeld hU => ?_)
        refine T_take (i := 0) hU 121 ?_ rfl rfl (by decide) (by kernel_rfl) (by kernel_rfl) (fun _ _ _ h => h) (Or.inl ⟨by rfl, ?_⟩) hHeld ?_; rotate_left; (intro w hSw; (try dsimp only at hSw); go_simp); (try with_reducible rfl); clear hU; intro hU; (try simp only [Act.put, List.setIfInBounds_toArray, List.set_cons_zero, List.set_cons_succ])
        refine T_take (i := 1) hU 122 ?_ rfl rfl (by decide) (by kernel_rfl) (by kernel_rfl) (fun _ _ _ h => h) (Or.inl ⟨by rfl, ?_⟩) hHeld ?_; rotate_left; (intro w hSw; (try dsimp only at hSw); go_simp); (try with_reducible rfl); clear hU; intro hU; (try simp only [Act.put, List.setIfInBounds_toArray, List.set_cons_zero, List.set_cons_succ])
        refine T_take (i := 2) hU 123 ?_ rfl rfl (by decide) (by kernel_rfl) (by kernel_rfl) (fun _ _ _ h => h) (Or.inl ⟨by rfl, ?_⟩) hHeld ?_; rotate_left; (intro w hSw; (try dsimp only at hSw); go_simp); (try with_reducible rfl); clear hU; intro hU; (try simp only [Act.put, List.setIfInBounds_toArray, List.set_cons_zero, List.set_cons_succ])
        refine T_take (i := 3) hU 124 ?_ rfl rfl (by decide) (by kernel_rfl) (by kernel_rfl) (fun _ _ _ h => h) (Or.inl ⟨by rfl, ?_⟩) hHeld ?_; rotate_left; (intro w hSw; (try dsimp only at hSw); go_simp); (try with_reducible rfl); clear hU; intro hU; (try simp only [Act.put, List.setIfInBounds_toArray, List.set_cons_zero, List.set_cons_succ])
        refine T_take (i := 4) hU 125 (.agg (headL L.x.clock L.x.sb L.x.sn (.slice pl ps.length cl))) rfl rfl (by decide) (by kernel_rfl) (by kernel_rfl) (fun _ _ _ h => h) (yields_load _ _ _ _ rfl _ _ rfl hb 0 rfl _ _ hu126 rfl hi126 (fun _ h => h.2)) hHeld ?_; clear hU; intro hU; (try simp only [Act.put, List.setIfInBounds_toArray, List.set_cons_zero, List.set_cons_succ])
        refine T_take (i := 5) hU 126 ?_ rfl rfl (by decide) (by kernel_rfl) (by kernel_rfl) (fun _ _ _ h => h) (Or.inl ⟨by rfl, ?_⟩) hHeld ?_; rotate_left; (intro w hSw; (try dsimp only at hSw); go_simp); (try with_reducible rfl); clear hU; intro hU; (try simp only [Act.put, List.setIfInBounds_toArray, List.set_cons_zero, List.set_cons_succ])
        have hHeld6 := hHeld
        refine T_step (i := 6) hU rfl (by decide) (by kernel_rfl) (fun K hK => ?_); clear hU hHeld
        go_simp
        go_at_call 77
        refine Happ.out.mono ?_
        rintro e w14 ⟨vs, F1, rfl, hd14, hF14, hk14, hl14, hvs⟩
        obtain ⟨pvs, cvs, rfl⟩ := ownsRow_slice hvs
        refine hK.out _ _ (⟨hk14.keepCell HSn.out.1 hHeld6.1, hk14.keepRange HSn.out.2 hHeld6.2⟩) (fun hHeld hU => ?_); clear hK K; (try simp only [Act.put, List.setIfInBounds_toArray, List.set_cons_zero, List.set_cons_succ])
        refine T_take (i := 7) hU 120 ?_ rfl rfl (by decide) (by kernel_rfl) (by kernel_rfl) (fun _ _ _ h => h) (Or.inl ⟨by rfl, ?_⟩) hHeld ?_; rotate_left; (intro w hSw; (try dsimp only at hSw); go_simp); (try with_reducible rfl); clear hU; intro hU; (try simp only [Act.put, List.setIfInBounds_toArray, List.set_cons_zero, List.set_cons_succ])
        refine T_take (i := 8) hU 128 ?_ rfl rfl (by decide) (by kernel_rfl) (by kernel_rfl) (fun _ _ _ h => h) (Or.inl ⟨by rfl, ?_⟩) hHeld ?_; rotate_left; (intro w hSw; (try dsimp only at hSw); go_simp); (try with_reducible rfl); clear hU; intro hU; (try simp only [Act.put, List.setIfInBounds_toArray, List.set_cons_zero, List.set_cons_succ])
        refine T_take (i := 9) hU 129 ?_ rfl rfl (by decide) (by kernel_rfl) (by kernel_rfl) (fun _ _ _ h => h) (Or.inl ⟨by rfl, ?_⟩) hHeld ?_; rotate_left; (intro w hSw; (try dsimp only at hSw); go_simp); (try with_reducible rfl); clear hU; intro hU; (try simp only [Act.put, List.setIfInBounds_toArray, List.set_cons_zero, List.set_cons_succ])
        refine T_take (i := 10) hU 12 ?_ rfl rfl (by decide) (by kernel_rfl) (by kernel_rfl) (fun _ _ _ h => h) (Or.inl ⟨by rfl, ?_⟩) hHeld ?_; rotate_left; (intro w hSw; (try dsimp only at hSw); go_simp); (try with_reducible rfl); clear hU; intro hU; (try simp only [Act.put, List.setIfInBounds_toArray, List.set_cons_zero, List.set_cons_succ])
        refine T_last (N := 11) rfl (by kernel_rfl) (by kernel_rfl) (fun K hK => ?_); clear hU hHeld
        go_simp
        refine hK.out _ _ (NoPanic.normal ?_); clear hK K
        have k14 : Keep (fun k => F k ∨ k = l) w13 w14 := Keep.ofDrew (Keep.ofDrew hk14)
        have HK14 := Lib.hid k14
        have HD14 := Lib.hid (k14.at (Below.at HB13.out HDr.out HDr.out.lt) HSn.out.2)
        have hwB : w.heap.size ≤ wb := by have := Hgeo.out; have := HB5'.out; omega
        have HW14 := Lib.hid (k14.at (Below.at HB13.out hkw.out hkw.out.lt) (HnF.out wb hwB))
        have HO14 := Lib.hid (k14.ownsRow ((Keep.of_below HB13.out (fun _ => False)).ownsRow Hps.out.1 (fun _ _ h => h)) (fun b hb1 => HnF.out b (by have := (Hps.out.1.lt b hb1).1; have := HBc.out.size; omega)))
        have Hd14 := Lib.hid hd14
        have HF14 := Lib.hid hF14
        have Hl14 := Lib.hid hl14
        have HV14 := Lib.hid hvs
        clear k14 hk14 hd14 hF14 hl14 hvs c6 rh hHeld6 hwB
        go_wp2
        have hmlt : ps.length < 9223372036854775807 := by omega
        have Hm4 := Lib.hid hm4
        have hS0 : Hid (0 < S.sct) := Lib.hid (by have := HN.out.sct; have := HN.out.lo; omega)
        go_loopg [134] ps.length (fun gk i wr => ∃ (k : Nat) (ms : List Int), k ≤ ps.length ∧ gk = ps.length - k ∧ i = .int .i64 k ∧ ms.length = 4 ∧ (∀ x ∈ ms, 0 ≤ x ∧ x < S.sct) ∧ At wr wb (icells ms).toArray 80 ∧ Keep (· = wb) w14 wr)
        case atStart =>
          refine ⟨0, [S.m0, S.m1, S.m2, S.m3], by omega, by omega, rfl, rfl, ?_, HW14.out, Keep.refl _ _⟩
          intro x hx
          obtain ⟨e0, e1, e2, e3⟩ := Hm0.out
          have := hS0.out
          simp [e0, e1, e2, e3] at hx
          omega
        case round =>
          obtain ⟨k3, ms, hk3, hgk3, rfl, hml, hmx, hAw, hKw⟩ := hrel
          have Hgk3 := Lib.hid hgk3
          have Hms := Lib.hid (And.intro hml hmx)
          have HAw := Lib.hid hAw
          have HKw := Lib.hid hKw
          clear hgk3 hml hmx hAw hKw
          by_cases hlt3 : k3 < ps.length
          · obtain ⟨p, hp3⟩ : ∃ p, ps[k3]? = some p := ⟨_, List.getElem?_eq_getElem hlt3⟩
            have hpr := Hps.out.2 p (List.mem_of_getElem? hp3)
            obtain ⟨g, cap, cur, hsl, hgb, hgr⟩ := HO14.out.2.resolve_left (by rintro ⟨e1, e2⟩; omega)
            simp only [Value.slice.injEq] at hsl
            obtain ⟨rfl, _, rfl⟩ := hsl
            obtain ⟨gv, capv, curv, hslv, hgbv, hgrv⟩ := HV14.out.2.resolve_left (by rintro ⟨e1, e2⟩; omega)
            simp only [Value.slice.injEq] at hslv
            obtain ⟨rfl, _, rfl⟩ := hslv
            have hng : g ≠ wb := own_ne_at HO14.out HW14.out (by decide) rfl
            have hngv : gv ≠ wb := own_ne_at HV14.out HW14.out (by decide) rfl
            have c8 : wr.cell? ⟨hb, 8, none⟩ = some (.slice (some ⟨g, 0, none⟩) ps.length cl) := HKw.out.keepCell Hgeo.out.2.2 (HD14.out.cell 8)
            have cp : wr.cell? ⟨g, k3 * 3 + 2, none⟩ = some (.int .i64 p) := HKw.out.keepCell hng (by (have := HO14.out.cells (g := g) rfl (k3 * 3 + 2) _ (eCells_at ps k3 p hp3); rwa [add0] at this))
            have cx : wr.cell? ⟨gv, k3, none⟩ = some (.int .i64 (48 + L.x.seg * 32 + L.x.at_ + 1 + (k3 : Int))) := HKw.out.keepCell hngv (by (have := HV14.out.cells (g := gv) rfl k3 (.int .i64 (48 + L.x.seg * 32 + L.x.at_ + 1 + (k3 : Int))) (by simp [hlt3]); rwa [add0] at this))
            have hp0 : (0 : Int) ≤ p := hpr.1
            have hp4 : p < 4 := hpr.2
            have hsz4 : p.toNat < (icells ms).toArray.size := by have := Hms.out.1; simp [icells]; omega
            clear hgb hgr hgbv hgrv hng hngv hp3
            go_wp2_with (first
              | (refine wpList_storeCell rfl 3 _ _ rfl rfl wb p.toNat (.int .i64 (48 + L.x.seg * 32 + L.x.at_ + 1 + (k3 : Int))) (icells ms).toArray 80 rfl rfl HAw.out hsz4 size3 rfl rfl ?_; intro w15 hA15 hk15 hs15))
            go_roundg (ps.length - (k3 + 1))
            case measure => have := Hgk3.out; omega
            case rel =>
              refine ⟨k3 + 1, ms.set p.toNat (48 + L.x.seg * 32 + L.x.at_ + 1 + (k3 : Int)), by omega, rfl, by go_num, by rw [List.length_set]; exact Hms.out.1, fun x hx => ?_, by rw [← icells_set]; exact hA15, HKw.out.trans hk15 (fun _ _ h => h)⟩
              rcases List.mem_or_eq_of_mem_set hx with h1 | h1
              · exact Hms.out.2 x h1
              · subst h1
                have := HN.out.seg; have := HN.out.at_; have := HN.out.sct; have := Hm4.out
                omega
          · obtain rfl : k3 = ps.length := by omega
            obtain ⟨n0, n1, n2, n3, rfl⟩ : ∃ n0 n1 n2 n3, ms = [n0, n1, n2, n3] := by
              have := Hms.out.1
              match ms, this with
              | [a, b, c, d], _ => exact ⟨a, b, c, d, rfl⟩
            have hMk : MapOk S n0 ∧ MapOk S n1 ∧ MapOk S n2 ∧ MapOk S n3 := ⟨Hms.out.2 n0 (by simp), Hms.out.2 n1 (by simp), Hms.out.2 n2 (by simp), Hms.out.2 n3 (by simp)⟩
            have HMk := Lib.hid hMk
            have HS14 := Lib.hid ((HS.out.below HB13w.out).keep HK14.out (fun k hg => HnG.out k hg))
            have hwbG : ∀ k, G k → ¬ (k = wb) := fun k hg e => by have := hGlt k hg; have := Hgeo.out; have := HB5'.out; omega
            have HSw := Lib.hid (HS14.out.keep HKw.out hwbG)
            have hlwb : ¬ (l = wb) := by have := Hgeo.out; have := HB5'.out; omega
            have HLw := Lib.hid (HKw.out.at Hl14.out hlwb)
            have c6 : wr.cell? ⟨s, 6, none⟩ = some (.pointer (some ⟨l, 0, none⟩)) := by rw [← hlp]; exact HSw.out.cells.cell 6
            clear hMk hwbG
            go_wp2_with (first
              | (go_at_call 75; refine (lplace_ok l _ _ HLw.out).mono ?_; rintro e w16 ⟨rfl, hb⟩; have HB16 := Lib.hid hb; clear hb)
              | (refine wpList_allocAt rfl 82 rfl zSlot zero82 ?_; intro w17 hz hk hs; have HY17 := Lib.hid hz; have Hk17 := Lib.hid hk; have Hs17 := Lib.hid hs; clear hz hk hs)
              | (refine wpList_storeRow rfl 82 _ _ rfl rfl w16.heap.size (L.on ps.length L.x.clock L.x.sb L.x.sn).x.cells zSlot _ rfl rfl HY17.out rfl (size82 _) (one82 _) ?_; intro w18 hA hk hs; have b18 : Below w16.heap.size w16 w18 := Hk17.out.below.trans (hk.belowOf (by have := Hs17.out; omega) (by intro b hb e; omega)); have HX18 := Lib.hid hA; have HB18 := Lib.hid (HB16.out.trans (b18.mono HB16.out.size)); clear hA hk hs b18 c6))
            have HS18 := Lib.hid (HSw.out.below HB18.out)
            have y3 : w18.cell? ⟨w16.heap.size, 3, none⟩ = some (.int .i64 L.x.seg) := HX18.out.cell 3
            have y6 : w18.cell? ⟨w16.heap.size, 6, none⟩ = some (.int .i64 (L.x.seq + 1)) := HX18.out.cell 6
            have s13 : w18.cell? ⟨s, 13, none⟩ = some (.map (some S.last)) := HS18.out.cells.cell 13
            have hw3 : IntKind.i64.wrap (L.x.seq + 1 - 1) = L.x.seq := by rw [IntKind.wrap_i64]; have := HN.out.seq; omega
            obtain ⟨ll, hll⟩ := HS18.out.last
            have Hll := Lib.hid hll
            clear hll
            (try simp only [Act.put, List.setIfInBounds_toArray, List.set_cons_zero, List.set_cons_succ])
            refine wp_region_noPanic ?_
            refine T_region 9 (fun w' => w'.cell? ⟨w16.heap.size, 3, none⟩ = some (.int .i64 L.x.seg) ∧ w'.cell? ⟨w16.heap.size, 6, none⟩ = some (.int .i64 (L.x.seq + 1)) ∧ w'.cell? ⟨s, 13, none⟩ = some (.map (some S.last))) (by kernel_rfl) (by kernel_rfl) (by kernel_rfl) (by decide) (by kernel_rfl) ⟨y3, y6, s13⟩ (fun hHeld hU => ?_)
            refine T_take (i := 0) hU 153 ?_ rfl rfl (by decide) (by kernel_rfl) (by kernel_rfl) (fun _ _ _ h => h) (Or.inl ⟨by rfl, ?_⟩) hHeld ?_; rotate_left; (intro w hSw; (try dsimp only at hSw); go_simp); (try with_reducible rfl); clear hU; intro hU; (try simp only [Act.put, List.setIfInBounds_toArray, List.set_cons_zero, List.set_cons_succ])
            refine T_take (i := 1) hU 154 ?_ rfl rfl (by decide) (by kernel_rfl) (by kernel_rfl) (fun _ _ _ h => h) (Or.inl ⟨by rfl, ?_⟩) hHeld ?_; rotate_left; (intro w hSw; (try dsimp only at hSw); go_simp); (try with_reducible rfl); clear hU; intro hU; (try simp only [Act.put, List.setIfInBounds_toArray, List.set_cons_zero, List.set_cons_succ])
            refine T_take (i := 2) hU 155 ?_ rfl rfl (by decide) (by kernel_rfl) (by kernel_rfl) (fun _ _ _ h => h) (Or.inl ⟨by rfl, ?_⟩) hHeld ?_; rotate_left; (intro w hSw; (try dsimp only at hSw); go_simp); (try with_reducible rfl); clear hU; intro hU; (try simp only [Act.put, List.setIfInBounds_toArray, List.set_cons_zero, List.set_cons_succ])
            refine T_take (i := 3) hU 156 ?_ rfl rfl (by decide) (by kernel_rfl) (by kernel_rfl) (fun _ _ _ h => h) (Or.inl ⟨by rfl, ?_⟩) hHeld ?_; rotate_left; (intro w hSw; (try dsimp only at hSw); go_simp); (try with_reducible rfl); clear hU; intro hU; (try simp only [Act.put, List.setIfInBounds_toArray, List.set_cons_zero, List.set_cons_succ])
            refine T_take (i := 4) hU 157 ?_ rfl rfl (by decide) (by kernel_rfl) (by kernel_rfl) (fun _ _ _ h => h) (Or.inl ⟨by rfl, ?_⟩) hHeld ?_; rotate_left; (intro w hSw; (try dsimp only at hSw); go_simp); (try with_reducible rfl); clear hU; intro hU; (try simp only [Act.put, List.setIfInBounds_toArray, List.set_cons_zero, List.set_cons_succ])
            refine T_take (i := 5) hU 158 ?_ rfl rfl (by decide) (by kernel_rfl) (by kernel_rfl) (fun _ _ _ h => h) (Or.inl ⟨by rfl, ?_⟩) hHeld ?_; rotate_left; (intro w hSw; (try dsimp only at hSw); go_simp); (try with_reducible rfl); clear hU; intro hU; (try simp only [Act.put, List.setIfInBounds_toArray, List.set_cons_zero, List.set_cons_succ])
            refine T_take (i := 6) hU 159 ?_ rfl rfl (by decide) (by kernel_rfl) (by kernel_rfl) (fun _ _ _ h => h) (Or.inl ⟨by rfl, ?_⟩) hHeld ?_; rotate_left; (intro w hSw; (try dsimp only at hSw); go_simp); (try with_reducible rfl); clear hU; intro hU; (try simp only [Act.put, List.setIfInBounds_toArray, List.set_cons_zero, List.set_cons_succ])
            refine T_take (i := 7) hU 160 ?_ rfl rfl (by decide) (by kernel_rfl) (by kernel_rfl) (fun _ _ _ h => h) (Or.inl ⟨by rfl, ?_⟩) hHeld ?_; rotate_left; (intro w hSw; (try dsimp only at hSw); go_simp); (try with_reducible rfl); clear hU; intro hU; (try simp only [Act.put, List.setIfInBounds_toArray, List.set_cons_zero, List.set_cons_succ])
            refine T_take (i := 8) hU 161 ?_ rfl rfl (by decide) (by kernel_rfl) (by kernel_rfl) (fun _ _ _ h => h) (Or.inl ⟨by rfl, ?_⟩) hHeld ?_; rotate_left; (intro w hSw; (try dsimp only at hSw); go_simp); (try with_reducible rfl); clear hU; intro hU; (try simp only [Act.put, List.setIfInBounds_toArray, List.set_cons_zero, List.set_cons_succ])
            refine T_last (N := 9) rfl (by kernel_rfl) (by kernel_rfl) (fun K hK => ?_); clear hU hHeld
            refine step_putM rfl _ _ _ 84 rfl rfl 3 3 .i64 Tryz.underlying84 Tryz.underlying3 S.last ll (by with_unfolding_all exact rfl) Hll.out.drew L.x.seg (by with_unfolding_all exact rfl) _ (by with_unfolding_all exact rfl) (fun w20 hm20 hk20 hs20 => ?_)
            refine hK.out _ _ (NoPanic.normal ?_); clear hK K
            have hk20' : Keep (· = S.last) w18 w20 := Keep.ofDrew hk20
            have HK20 := Lib.hid hk20'
            have HS20 := Lib.hid (HS18.out.relast hk20' (fun k hg hne e => hne e) ⟨_, hm20⟩)
            have nwl : ¬ (wb = S.last) := fun e => by have := hGlt _ HS.out.gb.2.1; have := Hgeo.out; have := HB5'.out; omega
            have nll : ¬ (l = S.last) := fun e => hGl (e ▸ HS.out.gb.2.1)
            have HA20 := Lib.hid (hk20'.at (Below.at HB18.out HAw.out HAw.out.lt) nwl)
            have HL20 := Lib.hid (hk20'.at (Below.at HB18.out HLw.out HLw.out.lt) nll)
            have hu80' := Tryz.underlying80
            have hdF1 : ∀ k, F1 k → k < w14.heap.size := by obtain ⟨_, _, _, h3⟩ := Hd14.out; exact h3
            have hz13 := HB13w.out.size
            have hF1 : ∀ k, F1 k → F k ∨ w.heap.size ≤ k := fun k hf => (HF14.out k hf).imp id (fun h1 => by have hd : w13.drew.drew.heap.size = w13.heap.size := rfl; omega)
            have hF1G : ∀ k, F1 k → ¬ G k := fun k hf hg => by
              rcases hF1 k hf with h1 | h1
              · exact hFG k h1 hg
              · have := hGlt k hg; omega
            have hFlt' : ∀ k, F k → k < w.heap.size := by obtain ⟨_, _, _, h3⟩ := Hd.out; exact h3
            have nwF : ¬ F1 wb := fun hf => by
              rcases HF14.out wb hf with h1 | h1
              · have := hFlt' _ h1; have := Hgeo.out; have := HB5'.out; omega
              · have hd : w13.drew.drew.heap.size = w13.heap.size := rfl
                have := hkw.out.lt; have := HB13.out.size; omega
            have hd20 : DiskAt w20 S.d dn (Bd + ps.length + 1) F1 := by
              have h1 : DiskAt w14 S.d dn (Bd + ps.length + 1) F1 := hLd ▸ Hd14.out
              have h2 := h1.kept HKw.out (fun k hf e => nwF (e ▸ hf))
              exact (h2.below HB18.out).kept HK20.out (fun k hf e => hF1G k hf (e ▸ HS.out.gb.2.1))
            have hokx : ((L.on ps.length L.x.clock L.x.sb L.x.sn).x.to 1 n0 n1 n2 n3).Ok := by
              have hn := HN.out
              have hmk := HMk.out
              have a1 := hn.sct
              have a2 := hn.hi
              have a3 := hn.at_
              have a4 := hn.seg
              have a5 := Hbd.out.1
              have a6 := hn.seq
              have a7 := Hm4.out
              obtain ⟨⟨p1, p2⟩, ⟨p3, p4⟩, ⟨p5, p6⟩, ⟨p7, p8⟩⟩ := hmk
              exact ⟨by simp [SlotV.to], hn.life, Hx.out.1, by simp only [SlotV.to, LogV.on]; omega, by simp only [SlotV.to, LogV.on]; omega, hn.next, by simp only [SlotV.to, LogV.on]; omega, by simp only [SlotV.to]; omega, by simp only [SlotV.to]; omega, by simp only [SlotV.to]; omega, by simp only [SlotV.to]; omega, Hx.out.2.1, Hx.out.2.2⟩
            have hh := HN.out.h
            have hg := HN.out.g
            rw [hLh.1] at hh
            rw [hLh.2] at hg
            have Hsave := Lib.hid (save_step s S segs (some r) false n G l (L.on ps.length L.x.clock L.x.sb L.x.sn) dn (Bd + ps.length + 1) F1 n0 n1 n2 n3 w20 HS20.out Hz.out hl hp HL20.out hlp hd20 hF1G hnum hh hg hokx (by have := HN.out.dn; have := HN.out.sct; have := HN.out.lo; omega) (by have := HN.out.dn; have := HN.out.sct; have := HN.out.hi; omega) (by have := Hbd.out; have := Hm4.out; omega) HMk.out)
            clear hokx hd20 nwF
            go_wp2_with (first
              | (refine wpList_load_row rfl 80 _ rfl wb rfl 80 (whereV n0 n1 n2 n3) (0, 0) _ HA20.out hu80' rfl (size80a _ _ _ _) ?_)
              | (go_at_call 78; refine Hsave.out.mono ?_; rintro e w21 ⟨rfl, l2, fv2, F2, hS21, hL21, hfv21, hD21, hF21, hFG21, hl21, hFl21, hk21⟩))
            go_ret
            have hz14 := HK14.out.size
            have hzw := HKw.out.size
            have hz18 := HB18.out.size
            have hz20 := HK20.out.size
            have hd : w13.drew.drew.heap.size = w13.heap.size := rfl
            refine ⟨rfl, _, l2, _, F2, hS21, rfl, hL21, rfl, rfl, hD21.mono (by have := Hm4.out; omega), fun k hf => ?_, hFG21, hFl21, by omega, ?_⟩
            · rcases hF21 k hf with h1 | h1
              · exact hF1 k h1
              · exact .inr (by omega)
            · have k1 : Keep (fun k => F k ∨ G k ∨ k = l) w w14 := (Keep.of_below HB13w.out (fun k => F k ∨ G k ∨ k = l)).trans HK14.out (fun k _ h => h.elim .inl (fun h => .inr (.inr h)))
              have k2 : Keep (fun k => F k ∨ G k ∨ k = l) w wr := k1.trans HKw.out (fun k hk e => by have := Hgeo.out; have := HB5'.out; omega)
              have k3 : Keep (fun k => F k ∨ G k ∨ k = l) w w20 := (k2.trans (Keep.of_below HB18.out (fun _ => False)) (fun _ _ h => h.elim)).trans HK20.out (fun k _ e => .inr (.inl (e ▸ HS.out.gb.2.1)))
              exact k3.trans hk21 (fun k hk e => by
                rcases e with e | e
                · exact (hF1 k e).imp id (fun h1 => by omega)
                · exact .inr (.inl (e ▸ HS.out.gs)))
end Go.Proofs.YtnndkfhpifgaiaaGreat
