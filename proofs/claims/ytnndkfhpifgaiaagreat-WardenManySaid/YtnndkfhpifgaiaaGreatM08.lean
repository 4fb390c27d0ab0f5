/-
  disk.Flush.
-/
import Derived.Test.YtnndkfhpifgaiaaGreatM07
set_option linter.unusedVariables false
set_option linter.unusedSimpArgs false
namespace Go.Proofs.YtnndkfhpifgaiaaGreat
open Go.RowKit

theorem size116 : (Tryz.prog.info? 116).map (·.size) = some 256 := by kernel_rfl

/-- What waits of an owner: its k-th write lies there. -/
theorem DiskIs.write_at {w : World} {d n B : Nat} {D : Dk} (h : DiskIs w d n B D) {o : Nat} (ho : o < 17) {g m cap k : Nat} (hv : D.ws[o]? = some (.slice (some ⟨g, 0, none⟩) m cap)) (hk : k < m) :
    ∃ cs, w.rangeAt g (k * 258) cs ∧ WrOk n cs ∧ g < w.heap.size := by
  obtain ⟨v, k', xs, h1, h2, h3, h4⟩ := h.waits o ho
  rw [hv] at h1; simp only [Option.some.injEq] at h1; subst h1
  rcases h2.2 with ⟨h, _⟩ | ⟨g', cap', cur, he, _, hg, hn, hm, hs, ht⟩
  · cases h
  · simp only [Value.slice.injEq, Option.some.injEq, Addr.mk.injEq] at he
    obtain ⟨⟨rfl, _, _⟩, rfl, rfl⟩ := he
    refine ⟨(xs.drop (k * 258)).take 258, ?_, h4 k hk, (Array.getElem?_eq_some_iff.1 hg).1⟩
    intro j u hj
    have A : At w g cur 118 := hg
    rw [A.cell]
    rw [List.getElem?_take] at hj
    split at hj
    · rename_i hlt
      rw [List.getElem?_drop, ← ht, List.getElem?_take] at hj
      split at hj
      · simpa using hj
      · cases hj
    · cases hj

/-- What a flush leaves. -/
def FlushEnd (d n B : Nat) (D : Dk) (w w' : World) : Prop := ∃ D', DiskIs w' d n B D' ∧ (∀ k, D'.foot d k → D.foot d k) ∧ Keep (D.foot d) w w'

theorem flush_end {w wr : World} {d n B : Nat} {D D' : Dk} (h : DiskIs wr d n B D') (hbd : D'.bd = D.bd) (hws : D'.ws = D.ws) (hk : Keep (D.foot d) w wr) {o : Nat} (ho : o < 17) :
    FlushEnd d n B D w (wr.setCell ⟨d, 1 + o, none⟩ (.slice none 0 0)) := by
  refine ⟨_, forget_is (w := w) h ho, fun k hf => ?_, hk.setCell (a := ⟨d, 1 + o, none⟩) (.inl (.inl rfl)) _⟩
  rcases forget_foot h.wsize ho k hf with h1 | h1 | h1
  · exact .inl h1
  · exact .inr (.inl (h1.trans hbd))
  · rw [hws] at h1; exact .inr (.inr h1)

theorem WrOk.one {n : Nat} {cs : List Value} (h : WrOk n cs) : ∀ v ∈ cs, v.oneCell' = true := by
  obtain ⟨t, i, bs, _, _, rfl⟩ := h.2
  intro v hv
  simp only [List.mem_cons] at hv
  rcases hv with rfl | rfl | hv
  · rfl
  · rfl
  · exact bcells_one bs v hv
theorem WrOk.parts {n : Nat} {cs : List Value} (h : WrOk n cs) : ∃ (t : Int) (i : Nat) (bs : List UInt8), i < n ∧ bs.length = 256 ∧ cs = .int .i64 t :: .int .i64 i :: bcells bs := h.2

/-- A sector turns: the disk behind it. -/
theorem flush_is {w w1 : World} {d n B : Nat} {D : Dk} (h : DiskIs w d n B D) {i : Nat} (hi : i < n) {bs : List UInt8} (hbs : bs.length = 256)
    (hA : At w1 D.bd (D.dur.toList.take (i * 256) ++ (bcells bs).toArray.toList ++ D.dur.toList.drop (i * 256 + (bcells bs).toArray.size)).toArray 116) (hk : Keep (· = D.bd) w w1) :
    ∃ D', DiskIs w1 d n B D' ∧ D'.bd = D.bd ∧ D'.ws = D.ws := by
  have hl : D.dur.toList.length = n * 256 := by simpa using h.dsize
  refine ⟨{ D with dur := (D.dur.toList.take (i * 256) ++ (bcells bs).toArray.toList ++ D.dur.toList.drop (i * 256 + (bcells bs).toArray.size)).toArray }, ⟨?_, hA, ?_, ?_, h.wsize, ?_, h.ne, h.apart⟩, rfl, rfl⟩
  · exact hk.at h.cells h.ne
  · simp [hl, bcells_length, hbs]; omega
  · intro v hv
    simp only [List.mem_append] at hv
    rcases hv with (hv | hv) | hv
    · exact h.bytes v (List.mem_of_mem_take hv)
    · exact bcells_isB bs v (by simpa using hv)
    · exact h.bytes v (List.mem_of_mem_drop hv)
  · intro j hj
    obtain ⟨u, m, ys, h1, h2, h3, h4⟩ := h.waits j hj
    exact ⟨u, m, ys, h1, hk.ownsRow h2 (fun b hb => (h.apart j u b h1 hb).2.1), h3, h4⟩

set_option maxRecDepth 10000 in
set_option maxHeartbeats 1000000 in
theorem flush_ok (d n B : Nat) (D : Dk) (o g m cap : Nat) (w : World) (hd : DiskIs w d n B D) (h0 : o < 17) (hn : n ≤ 16384) (hv : D.ws[o]? = some (.slice (some ⟨g, 0, none⟩) m cap)) (hm : m ≤ B) (hB : B ≤ 1000000000) :
    Calls Tryz.prog 33 #[.pointer (some ⟨d, 0, none⟩), .int .i64 o] w fun e w' => e = .returned (.bool true) ∧ FlushEnd d n B D w w' := by
  have hc20 := hd.c20
  have hcw : w.cell? ⟨d, 1 + o, none⟩ = some (.slice (some ⟨g, 0, none⟩) m cap) := by rw [hd.cw h0]; exact hv
  have e17 : (o : Int) < 17 := by omega
  have hmB : (m : Int) ≤ 1000000000 := by omega
  have Hv := Lib.hid hv
  clear hv
  go_enter Tryz.func33, Tryz.ntmps33
  go_wp2_with (first | (go_at_call 54; refine (nobody_no _ _ (by omega) (by omega)).mono ?_; rintro e w' ⟨rfl, rfl⟩))
  go_loopw [22] (fun i wr => ∃ k : Nat, k ≤ m ∧ i = .int .i64 k ∧ ∃ D', DiskIs wr d n B D' ∧ D'.bd = D.bd ∧ D'.ws = D.ws ∧ Keep (D.foot d) w wr) (fun i _ => m - (intOf i).toNat)
  case atStart => exact ⟨0, Nat.zero_le _, rfl, D, hd, rfl, rfl, Keep.refl _ _⟩
  case round =>
    obtain ⟨k, hk, rfl, D', hd', hbd, hws, hkeep⟩ := hrel
    by_cases hlt : k < m
    · obtain ⟨cs, hcs, hok, hglt⟩ := hd'.write_at h0 (by rw [hws]; exact Hv.out) hlt
      obtain ⟨t, i, bs, hi, hbs, hcse⟩ := hok.parts
      have Hcs := Lib.hid hcse
      have c0 := hd'.c0
      have Hbd := Lib.hid hbd
      have Hws := Lib.hid hws
      clear hcse hbd hws
      have hi118 : (Tryz.prog.info? 118).map (·.size) = some cs.length := by rw [hok.1]; exact size118
      have hu118 := Tryz.underlying118
      have hsz : (#[Value.int .i64 0, Value.int .i64 0] ++ z256).size = cs.toArray.size := by simp [z256_size, hok.1]
      have hi118' : (Tryz.prog.info? 118).map (·.size) = some cs.toArray.size := by simpa using hi118
      have hone : cs.toArray.all (·.oneCell') = true := all_oneCell_toArray hok.one
      go_wp2_with (first | (refine wpList_load_mid rfl 118 _ rfl g (k * 258) rfl cs _ hcs hu118 rfl hi118 ?_) | (refine wpList_allocRow rfl 118 rfl _ zero118' ?_; refine wpList_storeRow rfl 118 _ _ rfl rfl _ cs.toArray _ _ rfl rfl (At.new _ _ _) hsz hi118' hone ?_; intro w2 hL hk2 hz2))
      have K2 : Keep (fun _ => False) wr w2 := ((Keep.refl (fun _ => False) wr).alloc _).trans hk2 (fun b hb e => by subst e; omega)
      have d2 : DiskIs w2 d n B D' := hd'.kept K2 (fun _ _ h => h)
      have c2 := d2.c0
      have g2 : w2.cell? ⟨wr.heap.size, 1, none⟩ = some (.int .i64 i) := by rw [hL.cell, Hcs.out]; simp
      have r2 : w2.rangeAt wr.heap.size 2 (bcells bs) := by
        intro j u hj
        rw [hL.cell, Hcs.out]
        rw [show 2 + j = j + 1 + 1 from by omega]
        simpa using hj
      have hu116 := Tryz.underlying116
      have hi116 : (Tryz.prog.info? 116).map (·.size) = some (bcells bs).length := by rw [bcells_length, hbs]; exact size116
      have hi116' : (Tryz.prog.info? 116).map (·.size) = some (bcells bs).toArray.size := by simpa using hi116
      have hone' : (bcells bs).toArray.all (·.oneCell') = true := all_oneCell_toArray (bcells_one bs)
      have hin : (i : Int) < n := by omega
      clear hi118 hi118' hone hsz
      simp only [Act.put, List.setIfInBounds_toArray, List.set_cons_zero, List.set_cons_succ]
      refine wp_region_noPanic ?_
      refine T_region 9 (fun w' => w'.cell? ⟨d, 0, none⟩ = some (.slice (some ⟨D'.bd, 0, none⟩) n n) ∧ w'.cell? ⟨wr.heap.size, 1, none⟩ = some (.int .i64 i) ∧ w'.rangeAt wr.heap.size 2 (bcells bs)) (by kernel_rfl) (by kernel_rfl) (by kernel_rfl) (by decide) (by kernel_rfl) ⟨c2, g2, r2⟩ (fun hHeld hU => ?_)
      refine T_take (i := 0) hU 26 ?_ rfl rfl (by decide) (by kernel_rfl) (by kernel_rfl) (fun _ _ _ h => h) (Or.inl ⟨by rfl, ?_⟩) hHeld ?_; rotate_left; (intro w hSw; (try dsimp only at hSw); go_simp); (try with_reducible rfl); clear hU; intro hU; (try simp only [Act.put, List.setIfInBounds_toArray, List.set_cons_zero, List.set_cons_succ])
      refine T_take (i := 1) hU 27 ?_ rfl rfl (by decide) (by kernel_rfl) (by kernel_rfl) (fun _ _ _ h => h) (Or.inl ⟨by rfl, ?_⟩) hHeld ?_; rotate_left; (intro w hSw; (try dsimp only at hSw); go_simp); (try with_reducible rfl); clear hU; intro hU; (try simp only [Act.put, List.setIfInBounds_toArray, List.set_cons_zero, List.set_cons_succ])
      refine T_take (i := 2) hU 28 ?_ rfl rfl (by decide) (by kernel_rfl) (by kernel_rfl) (fun _ _ _ h => h) (Or.inl ⟨by rfl, ?_⟩) hHeld ?_; rotate_left; (intro w hSw; (try dsimp only at hSw); go_simp); (try with_reducible rfl); clear hU; intro hU; (try simp only [Act.put, List.setIfInBounds_toArray, List.set_cons_zero, List.set_cons_succ])
      refine T_take (i := 3) hU 29 ?_ rfl rfl (by decide) (by kernel_rfl) (by kernel_rfl) (fun _ _ _ h => h) (Or.inl ⟨by rfl, ?_⟩) hHeld ?_; rotate_left; (intro w hSw; (try dsimp only at hSw); go_simp); (try with_reducible rfl); clear hU; intro hU; (try simp only [Act.put, List.setIfInBounds_toArray, List.set_cons_zero, List.set_cons_succ])
      refine T_take (i := 4) hU 30 ?_ rfl rfl (by decide) (by kernel_rfl) (by kernel_rfl) (fun _ _ _ h => h) (Or.inl ⟨by rfl, ?_⟩) hHeld ?_; rotate_left; (intro w hSw; (try dsimp only at hSw); go_simp); (try with_reducible rfl); clear hU; intro hU; (try simp only [Act.put, List.setIfInBounds_toArray, List.set_cons_zero, List.set_cons_succ])
      refine T_take (i := 5) hU 31 ?_ rfl rfl (by decide) (by kernel_rfl) (by kernel_rfl) (fun _ _ _ h => h) (Or.inl ⟨by rfl, ?_⟩) hHeld ?_; rotate_left; (intro w hSw; (try dsimp only at hSw); go_simp); (try with_reducible rfl); clear hU; intro hU; (try simp only [Act.put, List.setIfInBounds_toArray, List.set_cons_zero, List.set_cons_succ])
      refine T_take (i := 6) hU 32 ?_ rfl rfl (by decide) (by kernel_rfl) (by kernel_rfl) (fun _ _ _ h => h) (Or.inl ⟨by rfl, ?_⟩) hHeld ?_; rotate_left; (intro w hSw; (try dsimp only at hSw); go_simp); (try with_reducible rfl); clear hU; intro hU; (try simp only [Act.put, List.setIfInBounds_toArray, List.set_cons_zero, List.set_cons_succ])
      refine T_take (i := 7) hU 33 (.agg (bcells bs).toArray) rfl rfl (by decide) (by kernel_rfl) (by kernel_rfl) (fun _ _ _ h => h) (yields_load _ _ _ _ rfl _ _ rfl wr.heap.size 2 rfl _ _ hu116 rfl hi116 (fun _ h => h.2.2)) hHeld ?_; clear hU; intro hU; (try simp only [Act.put, List.setIfInBounds_toArray, List.set_cons_zero, List.set_cons_succ])
      refine T_take (i := 8) hU 34 ?_ rfl rfl (by decide) (by kernel_rfl) (by kernel_rfl) (fun _ _ _ h => h) (Or.inl ⟨by rfl, ?_⟩) hHeld ?_; rotate_left; (intro w hSw; (try dsimp only at hSw); go_simp); (try with_reducible rfl); clear hU; intro hU; (try simp only [Act.put, List.setIfInBounds_toArray, List.set_cons_zero, List.set_cons_succ])
      refine T_last (N := 9) rfl (by kernel_rfl) (by kernel_rfl) (fun K hK => ?_); clear hU hHeld
      have A2 : At w2.drew D'.bd D'.dur 116 := d2.dur
      refine step_storeAt rfl _ _ _ rfl D'.bd (i * 256) (bcells bs).toArray D'.dur _ ?px ?py A2 ?pf hi116' hone' ?pr
      case px => rfl
      case py => rfl
      case pf => rw [hd'.dsize]; simp [bcells_length, hbs]; omega
      intro w4 hA4 hk4 hz4
      refine hK.out _ _ (NoPanic.normal ?_); clear hK K
      have HF := Lib.hid (flush_is d2.drew hi hbs hA4 hk4)
      have HK : Hid (Keep (D.foot d) w w4) := (hkeep.trans K2 (fun _ _ h => h.elim)).trans hk4.ofDrew (fun _ _ h => .inr (.inl (h.trans Hbd.out)))
      go_wp2
      go_roundw
      case rel =>
        obtain ⟨D2, q1, q2, q3⟩ := HF.out
        exact ⟨k + 1, by omega, by go_num, D2, q1, q2.trans Hbd.out, q3.trans Hws.out, HK.out⟩
      case measure => simp [intOf]; omega
    · have hf := hd'.cells.free
      have hcw' : wr.cell? ⟨d, 1 + o, none⟩ = some (.slice (some ⟨g, 0, none⟩) m cap) := by rw [hd'.cw h0, hws]; exact Hv.out
      have Hbd := Lib.hid hbd
      have Hws := Lib.hid hws
      clear hbd hws
      go_wp2
      go_ret
      exact ⟨rfl, flush_end hd' Hbd.out Hws.out hkeep h0⟩

set_option maxHeartbeats 400000 in
theorem flush_nil (d n B : Nat) (D : Dk) (o : Nat) (w : World) (hd : DiskIs w d n B D) (h0 : o < 17) (hv : D.ws[o]? = some (.slice none 0 0)) :
    Calls Tryz.prog 33 #[.pointer (some ⟨d, 0, none⟩), .int .i64 o] w fun e w' => e = .returned (.bool true) ∧ FlushEnd d n B D w w' := by
  have hc20 := hd.c20
  have hcw : w.cell? ⟨d, 1 + o, none⟩ = some (.slice none 0 0) := by rw [hd.cw h0]; exact hv
  have e17 : (o : Int) < 17 := by omega
  have hf := hd.cells.free
  clear hv
  go_enter Tryz.func33, Tryz.ntmps33
  go_wp2_with (first | (go_at_call 54; refine (nobody_no _ _ (by omega) (by omega)).mono ?_; rintro e w' ⟨rfl, rfl⟩))
  refine wp_loop_rounds 1 ?_; rw [rounds_succ]
  go_wp2
  go_ret
  exact ⟨rfl, flush_end hd rfl rfl (Keep.refl _ _) h0⟩

/-- disk.Flush, as its callers meet it. -/
theorem flush_step (d n B : Nat) (F : Nat → Prop) (o : Int) (w : World) (hd : DiskAt w d n B F) (h0 : 0 ≤ o) (h0' : o ≤ 16) (hn : n ≤ 16384) (hB : B ≤ 1000000000) :
    Calls Tryz.prog 33 #[.pointer (some ⟨d, 0, none⟩), .int .i64 o] w fun e w' => e = .returned (.bool true) ∧ Step d n F w B w' := by
  obtain ⟨D, hD, hF, hlt⟩ := hd
  obtain ⟨o, rfl⟩ := Int.eq_ofNat_of_zero_le h0
  obtain ⟨v, k, xs, hv, hown, hk, hxs⟩ := hD.waits o (by omega)
  have hc : Calls Tryz.prog 33 #[.pointer (some ⟨d, 0, none⟩), .int .i64 o] w fun e w' => e = .returned (.bool true) ∧ FlushEnd d n B D w w' := by
    rcases hown.2 with ⟨rfl, _⟩ | ⟨g, cap, cur, rfl, _, _, _, _, _, _⟩
    · exact flush_nil d n B D o w hD (by omega) hv
    · exact flush_ok d n B D o g k cap w hD (by omega) hn hv hk hB
  refine hc.mono fun e w' h => ⟨h.1, ?_⟩
  obtain ⟨D', hD', hfoot, hk⟩ := h.2
  exact ⟨F, ⟨D', hD', fun b hb => hF b (hfoot b hb), fun b hb => Nat.lt_of_lt_of_le (hlt b hb) hk.size⟩, fun b hb => .inl hb, hk.mono (fun b _ hb => hF b hb)⟩
end Go.Proofs.YtnndkfhpifgaiaaGreat
