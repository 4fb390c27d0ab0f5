/-
  head.Get, weak: what comes is a head of some numbers.
  head.Sum and head.Put; chunk.Make's parts.
-/
import Derived.Test.YtnndkfhpifgaiaaGreatM11
set_option linter.unusedVariables false
set_option linter.unusedSimpArgs false
namespace Go.Proofs.YtnndkfhpifgaiaaGreat
open Go.RowKit

theorem info146 : (Tryz.prog.info? 146).map (fun i => (i.zero, i.size, i.bytes)) = some (some (.agg #[.int .i64 0, .int .i64 0, .int .i64 0]), 3, 24) := by kernel_rfl
theorem info146s : (Tryz.prog.info? 146).map (fun i => (i.zero, i.size)) = some (some (.agg #[.int .i64 0, .int .i64 0, .int .i64 0]), 3) := by kernel_rfl

def IsI (v : Value) : Prop := ∃ x : Int, v = .int .i64 x

theorem EntriesAt.mono {P : Int → Int → Int → Prop} {w : World} {v : Value} {m N N' : Nat} (h : EntriesAt P w v m N) (hN : N ≤ N') : EntriesAt P w v m N' := by
  obtain ⟨p, c, rfl, h⟩ := h
  refine ⟨p, c, rfl, ?_⟩
  obtain h | ⟨b, cs, hb, rfl, hA, h⟩ := h
  · exact Or.inl h
  · exact Or.inr ⟨b, cs, Nat.lt_of_lt_of_le hb hN, rfl, hA, h⟩

theorem entries_of_own {w : World} {B k : Nat} {v : Value} {xs : List Value} (h : w.ownsRow B 146 3 v k xs) (hx : ∀ u ∈ xs, IsI u) : EntriesAt (fun _ _ _ => True) w v k w.heap.size := by
  obtain ⟨hl, h⟩ := h
  rcases h with ⟨rfl, rfl⟩ | ⟨g, cap, cur, rfl, hb, hg, hnc, hcm, hcs, htake⟩
  · exact ⟨none, 0, rfl, Or.inl ⟨rfl, rfl, rfl⟩⟩
  · refine ⟨_, _, rfl, Or.inr ⟨g, cur, (Array.getElem?_eq_some_iff.1 hg).1, rfl, hg, fun i hi => ?_⟩⟩
    have hc : ∀ j, j < k * 3 → ∃ x : Int, w.cell? ⟨g, j, none⟩ = some (.int .i64 x) := by
      intro j hj
      rw [cell_of_row w g j cur _ _ hg]
      have h1 : j < xs.length := by rw [hl]; exact hj
      obtain ⟨x, hx1⟩ := hx xs[j] (List.getElem_mem h1)
      refine ⟨x, ?_⟩
      have h2 : (cur.toList.take (k * 3))[j]? = some xs[j] := by rw [htake]; exact List.getElem?_eq_getElem h1
      rw [List.getElem?_take, if_pos hj] at h2
      rw [← hx1, ← h2]; simp
    obtain ⟨a, h1⟩ := hc (i * 3) (by omega)
    obtain ⟨b, h2⟩ := hc (i * 3 + 1) (by omega)
    obtain ⟨c, h3⟩ := hc (i * 3 + 2) (by omega)
    exact ⟨a, b, c, trivial, h1, h2, h3⟩

/-- A head of some numbers in a block. -/
def HdAt (w : World) (b : Nat) (lv : Value) : Prop := ∃ n0 n1 n2 n3 n4 n5 n6 n7 : Int, At w b #[.int .i64 n0, .int .i64 n1, .int .i64 n2, .int .i64 n3, .int .i64 n4, .int .i64 n5, .int .i64 n6, .int .i64 n7, lv] 126

theorem rget_lit (b : Nat) (s : ByteArray) (a m : Int) (w : World) (hA : At w b #[.string s, .int .i64 a] 184) (hs : s.size = 256) (ha : 0 ≤ a ∧ a ≤ 5000) (hm : 0 ≤ m ∧ m ≤ 7) :
    Calls Tryz.prog 94 #[.pointer (some ⟨b, 0, none⟩), .int .i64 m] w fun e w' => (∃ x : Int, e = .returned (.int .i64 x)) ∧ At w' b #[.string s, .int .i64 (a + m)] 184 ∧ Keep (fun k => k = b) w w' := by
  obtain ⟨n, rfl⟩ := Int.eq_ofNat_of_zero_le hm.1
  exact rget_any b n s a w hA hs ha.1 ha.2 (by omega)

/-- The reader and the head under way, in two blocks behind w's. -/
structure RS (w W : World) (t : ByteArray) (a : Int) (lv : Value) : Prop where
  rd : At W (w.heap.size + 1) #[.string t, .int .i64 a] 184
  hd : HdAt W w.heap.size lv
  below : Below w.heap.size w W

theorem RS.set {w W : World} {t : ByteArray} {a : Int} {lv : Value} (h : RS w W t a lv) (k : Nat) (hk : k < 8) (x : Int) : RS w (W.setCell ⟨w.heap.size, k, none⟩ (.int .i64 x)) t a lv := by
  obtain ⟨h1, ⟨n0, n1, n2, n3, n4, n5, n6, n7, h2⟩, h3⟩ := h
  refine ⟨h1.setOther (by simp) _, ?_, h3.setCell (Nat.le_refl _) _⟩
  have h4 := h2.set k (.int .i64 x)
  match k, hk with
  | 0, _ => exact ⟨x, n1, n2, n3, n4, n5, n6, n7, h4⟩
  | 1, _ => exact ⟨n0, x, n2, n3, n4, n5, n6, n7, h4⟩
  | 2, _ => exact ⟨n0, n1, x, n3, n4, n5, n6, n7, h4⟩
  | 3, _ => exact ⟨n0, n1, n2, x, n4, n5, n6, n7, h4⟩
  | 4, _ => exact ⟨n0, n1, n2, n3, x, n5, n6, n7, h4⟩
  | 5, _ => exact ⟨n0, n1, n2, n3, n4, x, n6, n7, h4⟩
  | 6, _ => exact ⟨n0, n1, n2, n3, n4, n5, x, n7, h4⟩
  | 7, _ => exact ⟨n0, n1, n2, n3, n4, n5, n6, x, h4⟩

theorem RS.list8 {w W : World} {t : ByteArray} {a : Int} {lv : Value} (h : RS w W t a lv) : W.cell? ⟨w.heap.size, 8, none⟩ = some lv := by
  obtain ⟨n0, n1, n2, n3, n4, n5, n6, n7, h4⟩ := h.hd
  exact h4.cell 8

theorem RS.keep {w W W' : World} {t : ByteArray} {a : Int} {lv : Value} {F : Nat → Prop} (h : RS w W t a lv) (hk : Keep F W W') (hF : ∀ b, F b → w.heap.size + 2 ≤ b) : RS w W' t a lv := by
  obtain ⟨n0, n1, n2, n3, n4, n5, n6, n7, h4⟩ := h.hd
  exact ⟨hk.at h.rd (fun hf => by have := hF _ hf; omega), ⟨n0, n1, n2, n3, n4, n5, n6, n7, hk.at h4 (fun hf => by have := hF _ hf; omega)⟩, h.below.trans (hk.belowOf h.below.size (fun b hb hf => by have := hF _ hf; omega))⟩
theorem RS.drew {w W : World} {t : ByteArray} {a : Int} {lv : Value} (h : RS w W t a lv) : RS w W.drew t a lv := h.keep (F := fun _ => False) ((Keep.refl _ W).drew) (fun _ hf => hf.elim)
theorem RS.alloc {w W : World} {t : ByteArray} {a : Int} {lv : Value} (h : RS w W t a lv) (o : Obj) : RS w (W.alloc o) t a lv := h.keep (F := fun _ => False) ((Keep.refl _ W).alloc o) (fun _ hf => hf.elim)
theorem RS.setList {w W : World} {t : ByteArray} {a : Int} {lv : Value} (h : RS w W t a lv) (v : Value) : RS w (W.setCell ⟨w.heap.size, 8, none⟩ v) t a v := by
  obtain ⟨h1, ⟨n0, n1, n2, n3, n4, n5, n6, n7, h2⟩, h3⟩ := h
  exact ⟨h1.setOther (by simp) _, ⟨n0, n1, n2, n3, n4, n5, n6, n7, h2.set 8 v⟩, h3.setCell (Nat.le_refl _) _⟩

theorem World.drew_below' (w : World) : Below w.heap.size w w.drew := ⟨rfl, rfl, rfl, Nat.le_refl _, fun _ _ => rfl⟩

theorem RS.setAt {w W : World} {t : ByteArray} {a : Int} {lv : Value} (h : RS w W t a lv) (b : Int) : RS w (W.setCell ⟨w.heap.size + 1, 1, none⟩ (.int .i64 b)) t b lv := by
  obtain ⟨h1, ⟨n0, n1, n2, n3, n4, n5, n6, n7, h2⟩, h3⟩ := h
  exact ⟨h1.set 1 (.int .i64 b), ⟨n0, n1, n2, n3, n4, n5, n6, n7, h2.setOther (by simp) _⟩, h3.setCell (Nat.le_succ _) _⟩

theorem RS.start (w : World) (t : ByteArray) : RS w ((w.alloc (.cells #[.int .i64 0, .int .i64 0, .int .i64 0, .int .i64 0, .int .i64 0, .int .i64 0, .int .i64 0, .int .i64 0, .slice none 0 0] 126)).alloc (.cells #[.string t, .int .i64 4] 184)) t 4 (.slice none 0 0) := by
  refine ⟨?_, ⟨0, 0, 0, 0, 0, 0, 0, 0, (At.new w _ _).alloc _⟩, ((Below.refl _ _).alloc (Nat.le_refl _) _).alloc (by simp) _⟩
  have := At.new (w.alloc (.cells #[.int .i64 0, .int .i64 0, .int .i64 0, .int .i64 0, .int .i64 0, .int .i64 0, .int .i64 0, .int .i64 0, .slice none 0 0] 126)) #[.string t, .int .i64 4] 184
  simpa using this

theorem rget_rs {w W : World} {t : ByteArray} {a : Int} {lv : Value} (h : RS w W t a lv) (m : Int) (hs : t.size = 256) (ha : 0 ≤ a ∧ a ≤ 5000) (hm : 0 ≤ m ∧ m ≤ 7) :
    Calls Tryz.prog 94 #[.pointer (some ⟨w.heap.size + 1, 0, none⟩), .int .i64 m] W fun e w' => (∃ x : Int, e = .returned (.int .i64 x)) ∧ RS w w' t (a + m) lv ∧ Keep (fun k => k = w.heap.size + 1) W w' := by
  refine (rget_lit _ t a m W h.rd hs ha hm).mono ?_
  rintro e w' ⟨h1, h2, hk⟩
  obtain ⟨n0, n1, n2, n3, n4, n5, n6, n7, h4⟩ := h.hd
  exact ⟨h1, ⟨h2, ⟨n0, n1, n2, n3, n4, n5, n6, n7, hk.at h4 (by intro e; omega)⟩, h.below.trans (hk.belowOf h.below.size (by intro b hb e; omega))⟩, hk⟩

/-- What head.Get answers. -/
def GetEnd (w : World) (e : Ending) (w' : World) : Prop :=
  ∃ (n0 n1 n2 n3 n4 n5 n6 n7 x : Int) (lp : Option Addr) (lm lc : Nat) (r : Bool), e = .returned (.tuple #[.agg #[.int .i64 n0, .int .i64 n1, .int .i64 n2, .int .i64 n3, .int .i64 n4, .int .i64 n5, .int .i64 n6, .int .i64 n7, .slice lp lm lc], .int .i64 x, .bool r]) ∧ Below w.heap.size w w'

set_option maxRecDepth 100000 in
set_option maxHeartbeats 4000000 in
theorem hget_any (s : ByteArray) (w : World) (hs : s.size = 256) : Calls Tryz.prog 61 #[.string s] w (GetEnd w) := by
  have hx : (s.extract 0 256).size = 256 := by simp [ByteArray.size_extract, hs]
  have hs2 : (s.size : Int) = 256 := by omega
  have Hx := Lib.hid hx
  have hS := RS.start w (s.extract 0 256)
  clear hx hs
  go_enter Tryz.func61, Tryz.ntmps61
  go_wp2_with (first | (go_at_call 94; (first | refine (rget_rs hS _ Hx.out (by omega) (by omega)).mono ?_ | refine (rget_rs (RS.set (RS.set (RS.set (RS.set hS _ (by decide) _) _ (by decide) _) _ (by decide) _) _ (by decide) _) _ Hx.out (by omega) (by omega)).mono ?_); (try clear hHc hHf hH); rintro e w1 ⟨⟨x, rfl⟩, hS1, _⟩; replace hS := hS1; clear hS1; obtain ⟨n0, n1, n2, n3, n4, n5, n6, n7, hH⟩ := hS.hd; have hHc := hH.cell; have hHf := hH.free))
  generalize hmm : min x 25 = mm
  have hm25 : mm ≤ 25 := by omega
  clear hmm
  clear hHc hHf hH
  replace hS : RS w w1 (s.extract 0 256) 37 (.slice none 0 0) := hS
  go_loopg [44] mm.toNat (fun gk i wr => ∃ (k : Nat) (lv : Value) (xs : List Value), (k = 0 ∨ (k : Int) ≤ mm) ∧ gk = mm.toNat - k ∧ i = .int .i64 k ∧ RS w wr (s.extract 0 256) (37 + 4 * k) lv ∧ wr.ownsRow 0 146 3 lv k xs ∧ (∀ u ∈ xs, IsI u) ∧ (∀ b, lv.ownBlock = some b → w.heap.size + 2 ≤ b))
  case atStart => exact ⟨0, _, [], Or.inl rfl, by omega, rfl, hS, World.ownsRow_nil _ _ _ _, fun u hu => by simp at hu, fun b hb => by simp [Value.ownBlock] at hb⟩
  case round =>
    clear hS
    obtain ⟨k, lv, xs, hk, hgk, rfl, hS, hown, hint, hbase⟩ := hrel
    have Hgk := Lib.hid hgk
    clear hgk
    by_cases hlt : (k : Int) < mm
    · have hc8 : wr.cell? ⟨w.heap.size, 8, none⟩ = some lv := hS.list8
      have hzb := hS.below.size
      have hzr := hS.rd.lt
      go_wp2
      refine wp_region_noPanic ?_
      refine T_region 12 (fun w' => w'.cell? ⟨w.heap.size, 8, none⟩ = some lv) (by kernel_rfl) (by kernel_rfl) (by kernel_rfl) (by decide) (by kernel_rfl) (by simpa using hc8) (fun hHeld hU => ?_)
      refine T_take (i := 0) hU 46 ?_ rfl rfl (by decide) (by kernel_rfl) (by kernel_rfl) (fun _ _ _ h => h) (Or.inl ⟨by rfl, ?_⟩) hHeld ?_; rotate_left; (intro w hSw; (try dsimp only at hSw); go_simp); (try with_reducible rfl); clear hU; intro hU; (try simp only [Act.put, List.setIfInBounds_toArray, List.set_cons_zero, List.set_cons_succ])
      refine T_take (i := 1) hU 47 ?_ rfl rfl (by decide) (by kernel_rfl) (by kernel_rfl) (fun _ _ _ h => h) (Or.inl ⟨by rfl, ?_⟩) hHeld ?_; rotate_left; (intro w hSw; (try dsimp only at hSw); go_simp); (try with_reducible rfl); clear hU; intro hU; (try simp only [Act.put, List.setIfInBounds_toArray, List.set_cons_zero, List.set_cons_succ])
      refine T_take (i := 2) hU 48 ?_ rfl rfl (by decide) (by kernel_rfl) (by kernel_rfl) (fun _ _ _ h => h) (Or.inl ⟨by rfl, ?_⟩) hHeld ?_; rotate_left; (intro w hSw; (try dsimp only at hSw); go_simp); (try with_reducible rfl); clear hU; intro hU; (try simp only [Act.put, List.setIfInBounds_toArray, List.set_cons_zero, List.set_cons_succ])
      refine T_take (i := 4) hU 50 ?_ rfl rfl (by decide) (by kernel_rfl) (by kernel_rfl) (fun _ _ _ h => h) (Or.inl ⟨by rfl, ?_⟩) hHeld ?_; rotate_left; (intro w hSw; (try dsimp only at hSw); go_simp); (try with_reducible rfl); clear hU; intro hU; (try simp only [Act.put, List.setIfInBounds_toArray, List.set_cons_zero, List.set_cons_succ])
      refine T_take (i := 6) hU 52 ?_ rfl rfl (by decide) (by kernel_rfl) (by kernel_rfl) (fun _ _ _ h => h) (Or.inl ⟨by rfl, ?_⟩) hHeld ?_; rotate_left; (intro w hSw; (try dsimp only at hSw); go_simp); (try with_reducible rfl); clear hU; intro hU; (try simp only [Act.put, List.setIfInBounds_toArray, List.set_cons_zero, List.set_cons_succ])
      refine T_step (i := 3) hU rfl (by decide) (by kernel_rfl) (fun K hK => ?_); clear hU hHeld
      go_simp
      go_at_call 94
      refine (rget_rs hS.drew _ Hx.out (by omega) (by omega)).mono ?_
      rintro e wa1 ⟨⟨x1, rfl⟩, hS1, hk1⟩
      have hh1 : wa1.cell? ⟨w.heap.size, 8, none⟩ = some lv := hS1.list8
      refine hK.out _ _ (hh1) (fun hHeld hU => ?_); clear hK K; (try simp only [Act.put, List.setIfInBounds_toArray, List.set_cons_zero, List.set_cons_succ])
      refine T_step (i := 5) hU rfl (by decide) (by kernel_rfl) (fun K hK => ?_); clear hU hHeld
      go_simp
      go_at_call 94
      refine (rget_rs hS1 _ Hx.out (by omega) (by omega)).mono ?_
      rintro e wa2 ⟨⟨x2, rfl⟩, hS2, hk2⟩
      have hh2 : wa2.cell? ⟨w.heap.size, 8, none⟩ = some lv := hS2.list8
      refine hK.out _ _ (hh2) (fun hHeld hU => ?_); clear hK K; (try simp only [Act.put, List.setIfInBounds_toArray, List.set_cons_zero, List.set_cons_succ])
      refine T_step (i := 7) hU rfl (by decide) (by kernel_rfl) (fun K hK => ?_); clear hU hHeld
      go_simp
      go_at_call 94
      refine (rget_rs hS2 _ Hx.out (by omega) (by omega)).mono ?_
      rintro e wa3 ⟨⟨x3, rfl⟩, hS3, hk3⟩
      have hh3 : wa3.cell? ⟨w.heap.size, 8, none⟩ = some lv := hS3.list8
      refine hK.out _ _ (hh3) (fun hHeld hU => ?_); clear hK K; (try simp only [Act.put, List.setIfInBounds_toArray, List.set_cons_zero, List.set_cons_succ])
      refine T_take (i := 8) hU 54 ?_ rfl rfl (by decide) (by kernel_rfl) (by kernel_rfl) (fun _ _ _ h => h) (Or.inl ⟨by rfl, ?_⟩) hHeld ?_; rotate_left; (intro w hSw; (try dsimp only at hSw); go_simp); (try with_reducible rfl); clear hU; intro hU; (try simp only [Act.put, List.setIfInBounds_toArray, List.set_cons_zero, List.set_cons_succ])
      have hk123 : Keep (fun b => b = w.heap.size + 1) wr wa3 := (((Keep.refl (fun b => b = w.heap.size + 1) wr).drew.trans hk1 (fun _ _ h => h)).trans hk2 (fun _ _ h => h)).trans hk3 (fun _ _ h => h)
      have hown3 : wa3.ownsRow 0 146 3 lv k xs := hk123.ownsRow hown (fun b hb e => by have := hbase b hb; omega)
      have hlt3 : w.heap.size < wa3.heap.size := Nat.lt_of_lt_of_le (by omega) hk123.size
      refine T_step (i := 9) hU rfl (by decide) (by kernel_rfl) (fun K hK => ?_); clear hU hHeld
      refine step_buildSlice1 rfl _ _ rfl 146 3 #[.int .i64 0, .int .i64 0, .int .i64 0] Tryz.underlying124 info146s rfl (by omega) (by omega) #[.int .i64 x1, .int .i64 x2, .int .i64 x3] rfl rfl ?_
      refine hK.out _ _ ((by rw [World.cell?_alloc_lt _ _ _ hlt3]; exact hh3)) (fun hHeld hU => ?_); clear hK K; (try simp only [Act.put, List.setIfInBounds_toArray, List.set_cons_zero, List.set_cons_succ])
      refine T_step (i := 10) hU rfl (by decide) (by kernel_rfl) (fun K hK => ?_); clear hU hHeld
      refine step_appendOwn rfl _ _ 124 rfl 146 3 24 (.agg #[.int .i64 0, .int .i64 0, .int .i64 0]) Tryz.underlying124 info146 rfl (by omega) lv k xs rfl (hown3.alloc _) _ 1 1 [.int .i64 x1, .int .i64 x2, .int .i64 x3] rfl rfl ?_ (by intro u hu; simp at hu; rcases hu with rfl | rfl | rfl <;> rfl) (by unfold maxLen; omega) (by omega) ?_
      · intro j u hj
        rw [Addr.add_mid, Nat.zero_add]
        rw [World.cell?_alloc_new]
        simpa using hj
      intro v' w5 hown5 hgrow5 hblk5
      obtain ⟨g', cap', rfl⟩ := owns_succ hown5
      have HB := Lib.hid hblk5
      clear hblk5
      have hk5 : Keep (fun b => lv.ownBlock = some b) wa3 w5 := ((Keep.refl (fun b => lv.ownBlock = some b) wa3).alloc _).grown hgrow5 (fun b hb => .inl hb)
      have hS5 : RS w w5 (s.extract 0 256) _ lv := hS3.keep hk5 hbase
      have hh5 : w5.cell? ⟨w.heap.size, 8, none⟩ = some lv := hS5.list8
      refine hK.out _ _ (hh5) (fun hHeld hU => ?_); clear hK K; (try simp only [Act.put, List.setIfInBounds_toArray, List.set_cons_zero, List.set_cons_succ])
      refine T_take (i := 11) hU 57 ?_ rfl rfl (by decide) (by kernel_rfl) (by kernel_rfl) (fun _ _ _ h => h) (Or.inl ⟨by rfl, ?_⟩) hHeld ?_; rotate_left; (intro w hSw; (try dsimp only at hSw); go_simp); (try with_reducible rfl); clear hU; intro hU; (try simp only [Act.put, List.setIfInBounds_toArray, List.set_cons_zero, List.set_cons_succ])
      have hf5 : ∀ o, w5.frozen? ⟨w.heap.size, o, none⟩ = false := by obtain ⟨n0, n1, n2, n3, n4, n5, n6, n7, h4⟩ := hS5.hd; exact h4.free
      refine T_last (N := 12) rfl (by kernel_rfl) (by kernel_rfl) (fun K hK => ?_); clear hU hHeld
      go_simp
      refine hK.out _ _ (NoPanic.normal ?_); clear hK K
      have hg5 : w.heap.size + 2 ≤ g' := by
        have hz3 := hk123.size
        rcases HB.out with h | h
        · exact hbase _ (h.symm.trans rfl)
        · have : g' = wa3.heap.size + 1 := by simpa [Value.ownBlock] using h
          omega
      go_wp2
      go_roundg (mm.toNat - (k + 1))
      case measure => have := Hgk.out; omega
      case rel =>
        refine ⟨k + 1, .slice (some ⟨g', 0, none⟩) (k + 1) cap', xs ++ [.int .i64 x1, .int .i64 x2, .int .i64 x3], Or.inr (by omega), rfl, by go_num, ?_, ?_, ?_, ?_⟩
        · have := hS5.setList (.slice (some ⟨g', 0, none⟩) (k + 1) cap')
          have e : (37 + 4 * (k : Int) + 1 + 1 + 2) = 37 + 4 * ((k + 1 : Nat) : Int) := by omega
          rw [← e]; exact this
        · exact ((Keep.refl (fun b => b = w.heap.size) w5).setCell (a := ⟨w.heap.size, 8, none⟩) (Or.inl rfl) _).ownsRow hown5 (fun b hb e => by simp [Value.ownBlock] at hb; omega)
        · intro u hu
          rcases List.mem_append.1 hu with h | h
          · exact hint u h
          · simp at h; rcases h with rfl | rfl | rfl <;> exact ⟨_, rfl⟩
        · intro b hb; simp [Value.ownBlock] at hb; omega
    · have hE : EntriesAt (fun _ _ _ => True) wr lv k wr.heap.size := entries_of_own hown hint
      obtain ⟨pp, cc, rfl, _⟩ := id hE
      obtain ⟨n0, n1, n2, n3, n4, n5, n6, n7, hH⟩ := hS.hd
      have hHc := hH.cell
      have hk25 : k ≤ 25 := by omega
      have hE1 : EntriesAt (fun _ _ _ => True) wr.drew (.slice pp k cc) k wr.drew.heap.size := hE.below (N := wr.heap.size) (World.drew_below' wr)
      have hz0 : w.heap.size < wr.heap.size := hH.lt
      go_wp2
      have hHc1 : ∀ o, wr.drew.cell? ⟨w.heap.size, o, none⟩ = #[Value.int .i64 n0, .int .i64 n1, .int .i64 n2, .int .i64 n3, .int .i64 n4, .int .i64 n5, .int .i64 n6, .int .i64 n7, .slice pp k cc][o]? := hHc
      refine wp_region_noPanic ?_
      refine T_region 9 (fun w' => ∀ o, w'.cell? ⟨w.heap.size, o, none⟩ = #[Value.int .i64 n0, .int .i64 n1, .int .i64 n2, .int .i64 n3, .int .i64 n4, .int .i64 n5, .int .i64 n6, .int .i64 n7, .slice pp k cc][o]?) (by kernel_rfl) (by kernel_rfl) (by kernel_rfl) (by decide) (by kernel_rfl) hHc1 (fun hHeld hU => ?_)
      refine T_take (i := 0) hU 59 ?_ rfl rfl (by decide) (by kernel_rfl) (by kernel_rfl) (fun _ _ _ h => h) (Or.inl ⟨by rfl, ?_⟩) hHeld ?_; rotate_left; (intro w hSw; (try dsimp only at hSw); go_simp); (try with_reducible rfl); clear hU; intro hU; (try simp only [Act.put, List.setIfInBounds_toArray, List.set_cons_zero, List.set_cons_succ])
      refine T_step (i := 1) hU rfl (by decide) (by kernel_rfl) (fun K hK => ?_); clear hU hHeld
      go_simp
      go_at_call 95
      refine (hcheck_any (fun _ _ _ => True) _ _ _ _ _ _ _ _ _ k _ hE1 (by omega)).mono ?_
      rintro e w2 ⟨r, rfl, hb2⟩
      have hk2 : Keep (fun _ => False) wr w2 := (Keep.of_below hb2 _).ofDrew
      have hH2 := hk2.at hH id
      have hHc2 := hH2.cell
      have hS2 : RS w w2 (s.extract 0 256) (37 + 4 * k) (.slice pp k cc) := hS.keep hk2 (fun _ h => h.elim)
      have hE2 : EntriesAt (fun _ _ _ => True) w2 (.slice pp k cc) k w2.heap.size := (EntriesAt.below hE1 hb2).mono hb2.size
      refine hK.out _ _ (hHc2) (fun hHeld hU => ?_); clear hK K; (try simp only [Act.put, List.setIfInBounds_toArray, List.set_cons_zero, List.set_cons_succ])
      cases r
      · refine T_take (i := 2) hU 61 ?_ rfl rfl (by decide) (by kernel_rfl) (by kernel_rfl) (fun _ _ _ h => h) (Or.inl ⟨by rfl, ?_⟩) hHeld ?_; rotate_left; (intro w hSw; (try dsimp only at hSw); go_simp); (try with_reducible rfl); clear hU; intro hU; (try simp only [Act.put, List.setIfInBounds_toArray, List.set_cons_zero, List.set_cons_succ])
        refine T_take (i := 3) hU 62 ?_ rfl rfl (by decide) (by kernel_rfl) (by kernel_rfl) (fun _ _ _ h => h) (Or.inl ⟨by rfl, ?_⟩) hHeld ?_; rotate_left; (intro w hSw; (try dsimp only at hSw); go_simp); (try with_reducible rfl); clear hU; intro hU; (try simp only [Act.put, List.setIfInBounds_toArray, List.set_cons_zero, List.set_cons_succ])
        refine T_take (i := 4) hU 63 undef rfl rfl (by decide) (by kernel_rfl) (by kernel_rfl) (fun _ _ _ h => h) (Or.inr ⟨by rfl, rfl⟩) hHeld ?_; clear hU; intro hU; (try simp only [Act.put, List.setIfInBounds_toArray, List.set_cons_zero, List.set_cons_succ])
        refine T_take (i := 5) hU 64 undef rfl rfl (by decide) (by kernel_rfl) (by kernel_rfl) (fun _ _ _ h => h) (Or.inr ⟨by rfl, rfl⟩) hHeld ?_; clear hU; intro hU; (try simp only [Act.put, List.setIfInBounds_toArray, List.set_cons_zero, List.set_cons_succ])
        refine T_take (i := 6) hU 65 undef rfl rfl (by decide) (by kernel_rfl) (by kernel_rfl) (fun _ _ _ h => h) (Or.inr ⟨by rfl, rfl⟩) hHeld ?_; clear hU; intro hU; (try simp only [Act.put, List.setIfInBounds_toArray, List.set_cons_zero, List.set_cons_succ])
        refine T_take (i := 7) hU 66 undef rfl rfl (by decide) (by kernel_rfl) (by kernel_rfl) (fun _ _ _ h => h) (Or.inr ⟨by rfl, rfl⟩) hHeld ?_; clear hU; intro hU; (try simp only [Act.put, List.setIfInBounds_toArray, List.set_cons_zero, List.set_cons_succ])
        refine T_take (i := 8) hU 67 undef rfl rfl (by decide) (by kernel_rfl) (by kernel_rfl) (fun _ _ _ h => h) (Or.inr ⟨by rfl, rfl⟩) hHeld ?_; clear hU; intro hU; (try simp only [Act.put, List.setIfInBounds_toArray, List.set_cons_zero, List.set_cons_succ])
        refine T_last (N := 9) rfl (by kernel_rfl) (by kernel_rfl) (fun K hK => ?_); clear hU hHeld
        go_simp
        refine hK.out _ _ (NoPanic.normal ?_); clear hK K
        have hHf2 := hH2.free
        go_wp2
        refine bodyPost_ret (v := .tuple #[.agg #[.int .i64 0, .int .i64 0, .int .i64 0, .int .i64 0, .int .i64 0, .int .i64 0, .int .i64 0, .int .i64 0, .slice none 0 0], .int .i64 0, .bool false]) (by simp [results, Tryz.results61, go_sem, hHc2]) rfl ⟨0, 0, 0, 0, 0, 0, 0, 0, 0, _, _, _, _, rfl, ?_⟩
        exact (((((((((hS2.below.setCell (Nat.le_refl _) _).setCell (Nat.le_refl _) _).setCell (Nat.le_refl _) _).setCell (Nat.le_refl _) _).setCell (Nat.le_refl _) _).setCell (Nat.le_refl _) _).setCell (Nat.le_refl _) _).setCell (Nat.le_refl _) _).setCell (Nat.le_refl _) _)
      · refine T_take (i := 2) hU 61 ?_ rfl rfl (by decide) (by kernel_rfl) (by kernel_rfl) (fun _ _ _ h => h) (Or.inl ⟨by rfl, ?_⟩) hHeld ?_; rotate_left; (intro w hSw; (try dsimp only at hSw); go_simp); (try with_reducible rfl); clear hU; intro hU; (try simp only [Act.put, List.setIfInBounds_toArray, List.set_cons_zero, List.set_cons_succ])
        refine T_take (i := 3) hU 62 ?_ rfl rfl (by decide) (by kernel_rfl) (by kernel_rfl) (fun _ _ _ h => h) (Or.inl ⟨by rfl, ?_⟩) hHeld ?_; rotate_left; (intro w hSw; (try dsimp only at hSw); go_simp); (try with_reducible rfl); clear hU; intro hU; (try simp only [Act.put, List.setIfInBounds_toArray, List.set_cons_zero, List.set_cons_succ])
        refine T_take (i := 4) hU 63 ?_ rfl rfl (by decide) (by kernel_rfl) (by kernel_rfl) (fun _ _ _ h => h) (Or.inl ⟨by rfl, ?_⟩) hHeld ?_; rotate_left; (intro w hSw; (try dsimp only at hSw); go_simp); (try with_reducible rfl); clear hU; intro hU; (try simp only [Act.put, List.setIfInBounds_toArray, List.set_cons_zero, List.set_cons_succ])
        refine T_take (i := 6) hU 65 ?_ rfl rfl (by decide) (by kernel_rfl) (by kernel_rfl) (fun _ _ _ h => h) (Or.inl ⟨by rfl, ?_⟩) hHeld ?_; rotate_left; (intro w hSw; (try dsimp only at hSw); go_simp); (try with_reducible rfl); clear hU; intro hU; (try simp only [Act.put, List.setIfInBounds_toArray, List.set_cons_zero, List.set_cons_succ])
        refine T_take (i := 7) hU 66 ?_ rfl rfl (by decide) (by kernel_rfl) (by kernel_rfl) (fun _ _ _ h => h) (Or.inl ⟨by rfl, ?_⟩) hHeld ?_; rotate_left; (intro w hSw; (try dsimp only at hSw); go_simp); (try with_reducible rfl); clear hU; intro hU; (try simp only [Act.put, List.setIfInBounds_toArray, List.set_cons_zero, List.set_cons_succ])
        refine T_step (i := 5) hU rfl (by decide) (by kernel_rfl) (fun K hK => ?_); clear hU hHeld
        go_simp
        go_at_call 96
        refine (hbytes_any (fun _ _ _ => True) _ _ _ _ _ _ _ _ _ k _ hE2 (by omega)).mono ?_
        rintro e w3 ⟨s3, hs3, rfl, hb3⟩
        have hk3 : Keep (fun _ => False) w2 w3 := Keep.of_below hb3 _
        have hH3 := hk3.at hH2 id
        have hHc3 := hH3.cell
        have hHf3 := hH3.free
        have hS3 : RS w w3 (s.extract 0 256) (37 + 4 * k) (.slice pp k cc) := hS2.keep hk3 (fun _ h => h.elim)
        refine hK.out _ _ (hHc3) (fun hHeld hU => ?_); clear hK K; (try simp only [Act.put, List.setIfInBounds_toArray, List.set_cons_zero, List.set_cons_succ])
        clear hHc2 hHc1 hHc hH hH2
        cases hq : (s3.toList == (s.extract 0 252).toList) with
        | true =>
          refine T_take (i := 8) hU 67 ?_ rfl rfl (by decide) (by kernel_rfl) (by kernel_rfl) (fun _ _ _ h => h) (Or.inl ⟨by rfl, ?_⟩) hHeld ?_; rotate_left; (intro w hSw; (try dsimp only at hSw); go_simp); (try with_reducible rfl); clear hU; intro hU; (try simp only [Act.put, List.setIfInBounds_toArray, List.set_cons_zero, List.set_cons_succ])
          refine T_last (N := 9) rfl (by kernel_rfl) (by kernel_rfl) (fun K hK => ?_); clear hU hHeld
          go_simp
          refine hK.out _ _ (NoPanic.normal ?_); clear hK K
          have hd1 : w3.cell? ⟨w.heap.size + 1, 1, none⟩ = some (.int .i64 (37 + 4 * k)) := hS3.rd.cell 1
          have hdf := hS3.rd.free
          go_wp2
          have hS4 := hS3.setAt 252
          have hH4 := hH3.setOther (a := ⟨w.heap.size + 1, 1, none⟩) (by simp) (.int .i64 252)
          have hHc4 := hH4.drew.cell
          clear hHc3 hHf3 hd1 hdf
          refine wp_region_noPanic ?_
          refine T_region 5 (fun w' => ∀ o, w'.cell? ⟨w.heap.size, o, none⟩ = #[Value.int .i64 n0, .int .i64 n1, .int .i64 n2, .int .i64 n3, .int .i64 n4, .int .i64 n5, .int .i64 n6, .int .i64 n7, .slice pp k cc][o]?) (by kernel_rfl) (by kernel_rfl) (by kernel_rfl) (by decide) (by kernel_rfl) hHc4 (fun hHeld hU => ?_)
          refine T_take (i := 0) hU 73 ?_ rfl rfl (by decide) (by kernel_rfl) (by kernel_rfl) (fun _ _ _ h => h) (Or.inl ⟨by rfl, ?_⟩) hHeld ?_; rotate_left; (intro w hSw; (try dsimp only at hSw); go_simp); (try with_reducible rfl); clear hU; intro hU; (try simp only [Act.put, List.setIfInBounds_toArray, List.set_cons_zero, List.set_cons_succ])
          refine T_take (i := 1) hU 74 ?_ rfl rfl (by decide) (by kernel_rfl) (by kernel_rfl) (fun _ _ _ h => h) (Or.inl ⟨by rfl, ?_⟩) hHeld ?_; rotate_left; (intro w hSw; (try dsimp only at hSw); go_simp); (try with_reducible rfl); clear hU; intro hU; (try simp only [Act.put, List.setIfInBounds_toArray, List.set_cons_zero, List.set_cons_succ])
          refine T_step (i := 2) hU rfl (by decide) (by kernel_rfl) (fun K hK => ?_); clear hU hHeld
          go_simp
          go_at_call 94
          refine (rget_rs hS4.drew _ Hx.out (by omega) (by omega)).mono ?_
          rintro e w5 ⟨⟨x5, rfl⟩, hS5, hk5⟩
          have hH5 := hk5.at hH4.drew (by intro h; omega)
          have hHc5 := hH5.cell
          have hHf5 := hH5.free
          clear hHc4
          refine hK.out _ _ (hHc5) (fun hHeld hU => ?_); clear hK K; (try simp only [Act.put, List.setIfInBounds_toArray, List.set_cons_zero, List.set_cons_succ])
          refine T_step (i := 3) hU rfl (by decide) (by kernel_rfl) (fun K hK => ?_); clear hU hHeld
          go_simp
          have hH6 := ((((((((hH5.set 0 (.int .i64 n0)).set 1 (.int .i64 n1)).set 2 (.int .i64 n2)).set 3 (.int .i64 n3)).set 4 (.int .i64 n4)).set 5 (.int .i64 n5)).set 6 (.int .i64 n6)).set 7 (.int .i64 n7)).set 8 (.slice pp k cc)
          simp only [List.setIfInBounds_toArray, List.set_cons_zero, List.set_cons_succ] at hH6
          have hHc6 := hH6.cell
          have hb6 : Below w.heap.size w (((((((((w5.setCell ⟨w.heap.size, 0, none⟩ (.int .i64 n0)).setCell ⟨w.heap.size, 1, none⟩ (.int .i64 n1)).setCell ⟨w.heap.size, 2, none⟩ (.int .i64 n2)).setCell ⟨w.heap.size, 3, none⟩ (.int .i64 n3)).setCell ⟨w.heap.size, 4, none⟩ (.int .i64 n4)).setCell ⟨w.heap.size, 5, none⟩ (.int .i64 n5)).setCell ⟨w.heap.size, 6, none⟩ (.int .i64 n6)).setCell ⟨w.heap.size, 7, none⟩ (.int .i64 n7)).setCell ⟨w.heap.size, 8, none⟩ (.slice pp k cc)) := (((((((((hS5.below.setCell (Nat.le_refl _) _).setCell (Nat.le_refl _) _).setCell (Nat.le_refl _) _).setCell (Nat.le_refl _) _).setCell (Nat.le_refl _) _).setCell (Nat.le_refl _) _).setCell (Nat.le_refl _) _).setCell (Nat.le_refl _) _).setCell (Nat.le_refl _) _)
          generalize (((((((((w5.setCell ⟨w.heap.size, 0, none⟩ (.int .i64 n0)).setCell ⟨w.heap.size, 1, none⟩ (.int .i64 n1)).setCell ⟨w.heap.size, 2, none⟩ (.int .i64 n2)).setCell ⟨w.heap.size, 3, none⟩ (.int .i64 n3)).setCell ⟨w.heap.size, 4, none⟩ (.int .i64 n4)).setCell ⟨w.heap.size, 5, none⟩ (.int .i64 n5)).setCell ⟨w.heap.size, 6, none⟩ (.int .i64 n6)).setCell ⟨w.heap.size, 7, none⟩ (.int .i64 n7)).setCell ⟨w.heap.size, 8, none⟩ (.slice pp k cc)) = w6 at hH6 hHc6 hb6 ⊢
          clear hHc5 hHf5
          refine hK.out _ _ (hHc6) (fun hHeld hU => ?_); clear hK K; (try simp only [Act.put, List.setIfInBounds_toArray, List.set_cons_zero, List.set_cons_succ])
          refine T_take (i := 4) hU 3 ?_ rfl rfl (by decide) (by kernel_rfl) (by kernel_rfl) (fun _ _ _ h => h) (Or.inl ⟨by rfl, ?_⟩) hHeld ?_; rotate_left; (intro w hSw; (try dsimp only at hSw); go_simp); (try with_reducible rfl); clear hU; intro hU; (try simp only [Act.put, List.setIfInBounds_toArray, List.set_cons_zero, List.set_cons_succ])
          refine T_last (N := 5) rfl (by kernel_rfl) (by kernel_rfl) (fun K hK => ?_); clear hU hHeld
          go_simp
          refine hK.out _ _ (NoPanic.normal ?_); clear hK K
          go_wp2
          refine bodyPost_ret (v := .tuple #[.agg #[.int .i64 n0, .int .i64 n1, .int .i64 n2, .int .i64 n3, .int .i64 n4, .int .i64 n5, .int .i64 n6, .int .i64 n7, .slice pp k cc], .int .i64 x5, .bool true]) (by simp [results, Tryz.results61, go_sem, hHc6]) rfl ⟨n0, n1, n2, n3, n4, n5, n6, n7, x5, _, _, _, _, rfl, hb6⟩
        | false =>
          refine T_take (i := 8) hU 67 ?_ rfl rfl (by decide) (by kernel_rfl) (by kernel_rfl) (fun _ _ _ h => h) (Or.inl ⟨by rfl, ?_⟩) hHeld ?_; rotate_left; (intro w hSw; (try dsimp only at hSw); go_simp); (try with_reducible rfl); clear hU; intro hU; (try simp only [Act.put, List.setIfInBounds_toArray, List.set_cons_zero, List.set_cons_succ])
          refine T_last (N := 9) rfl (by kernel_rfl) (by kernel_rfl) (fun K hK => ?_); clear hU hHeld
          go_simp
          refine hK.out _ _ (NoPanic.normal ?_); clear hK K
          go_wp2
          refine bodyPost_ret (v := .tuple #[.agg #[.int .i64 0, .int .i64 0, .int .i64 0, .int .i64 0, .int .i64 0, .int .i64 0, .int .i64 0, .int .i64 0, .slice none 0 0], .int .i64 0, .bool false]) (by simp [results, Tryz.results61, go_sem, hHc3]) rfl ⟨0, 0, 0, 0, 0, 0, 0, 0, 0, _, _, _, _, rfl, ?_⟩
          exact (((((((((hS3.below.setCell (Nat.le_refl _) _).setCell (Nat.le_refl _) _).setCell (Nat.le_refl _) _).setCell (Nat.le_refl _) _).setCell (Nat.le_refl _) _).setCell (Nat.le_refl _) _).setCell (Nat.le_refl _) _).setCell (Nat.le_refl _) _).setCell (Nat.le_refl _) _)

end Go.Proofs.YtnndkfhpifgaiaaGreat
namespace Go.Proofs.YtnndkfhpifgaiaaGreat
open Go.RowKit

set_option maxHeartbeats 400000 in
theorem hsum_any (s t : ByteArray) (w : World) (hs : s.size ≤ 1000000) (ht : t.size ≤ 1000000) : Calls Tryz.prog 200 #[.string s, .string t] w (Num w) := by
  have hs2 : (s.size : Int) ≤ 1000000 := by omega
  have hx : (s.extract 0 (min (s.size : Int) 252).toNat).size ≤ 1000000 := by rw [ByteArray.size_extract]; omega
  have Hx := Lib.hid hx
  clear hx
  go_enter Tryz.func200, Tryz.ntmps200
  go_wp2_with (first
    | (go_at_call 82; refine (of_any _ _ Hx.out).mono ?_; rintro e w1 ⟨x, rfl, hb⟩)
    | (go_at_call 138; refine (more_any _ _ _ ht).mono ?_; rintro e w2 ⟨y, rfl, hb2⟩))
  go_ret
  exact ⟨_, rfl, hb.trans (hb2.mono hb.size)⟩

set_option maxRecDepth 100000 in
set_option maxHeartbeats 1000000 in
theorem hput_ok (a b c d e f g h : Int) (v : Value) (m : Nat) (t : ByteArray) (w : World) (hE : EntriesAt EntryOk w v m w.heap.size) (hl : m ≤ 24) (ht : t.size = m * 256)
    (ha : 1 ≤ a ∧ a ≤ 16) (hb : 1 ≤ b ∧ b ≤ 65535) (hc : 1 ≤ c ∧ c ≤ 1048575) (hd : 1 ≤ d ∧ d ≤ 1099511627776) (he : 0 ≤ e ∧ e ≤ 65535) (hf : 0 ≤ f ∧ f ≤ 1099511627776) (hg : 0 ≤ g ∧ g ≤ 1099511627777) (hh : 0 ≤ h ∧ h ≤ 1099511627777) :
    Calls Tryz.prog 168 #[.agg #[.int .i64 a, .int .i64 b, .int .i64 c, .int .i64 d, .int .i64 e, .int .i64 f, .int .i64 g, .int .i64 h, v], .string t] w
      fun e w' => ∃ s : ByteArray, s.size = 256 ∧ e = .returned (.tuple #[.string s, .bool true]) ∧ Below w.heap.size w w' := by
  have hm2 : (m : Int) ≤ 24 := by omega
  have ht2 : (t.size : Int) = m * 256 := by omega
  have hw : IntKind.i64.wrap ((m : Int) * 256) = m * 256 := by rw [IntKind.wrap_i64]; omega
  have hE0 := hE
  obtain ⟨p, cp, rfl, _⟩ := hE0
  have hlen : (((p, m) : _ × Nat).2 : Int) = m := rfl
  have hb0 : Below w.heap.size w (w.alloc (.cells #[.int .i64 a, .int .i64 b, .int .i64 c, .int .i64 d, .int .i64 e, .int .i64 f, .int .i64 g, .int .i64 h, .slice p m cp] 126)) := (Below.refl _ _).alloc (Nat.le_refl _) _
  have hA0 := At.new w #[.int .i64 a, .int .i64 b, .int .i64 c, .int .i64 d, .int .i64 e, .int .i64 f, .int .i64 g, .int .i64 h, .slice p m cp] 126
  have hE1 := (EntriesAt.below hE hb0).mono hb0.size
  have hne : decide (t.size = m * 256) = true := by simpa using ht
  go_enter Tryz.func168, Tryz.ntmps168
  go_wp2_with (first
    | (go_at_call 95; refine (hcheck_ok a b c d e f g h _ m _ hE1 hl ha hb hc hd he hf hg hh).mono ?_; rintro e w1 ⟨rfl, hb1⟩; obtain ⟨hc1, hf1, hz1⟩ := bcell hb1; have hE2 := (EntriesAt.below hE1 hb1).mono hb1.size)
    | (go_at_call 96; refine (hbytes_any EntryOk a b c d e f g h _ m _ hE2 (by omega)).mono ?_; rintro e w2 ⟨s2, hs2, rfl, hb2⟩)
    | (go_at_call 200; refine (hsum_any _ _ _ (by omega) (by omega)).mono ?_; rintro e w3 ⟨x, rfl, hb3⟩)
    | (go_at_call 80; refine (put_any _ _ 4 _ (by decide)).mono ?_; rintro e w4 ⟨s4, hs4, rfl, hb4⟩))
  go_ret2
  have B1 := hb0.trans (hb1.mono hb0.size)
  have B2 := B1.trans (hb2.mono B1.size)
  have B3 := B2.trans (hb3.mono B2.size)
  exact ⟨s2 ++ s4, by simp [hs2, hs4], rfl, B3.trans (hb4.mono B3.size)⟩
end Go.Proofs.YtnndkfhpifgaiaaGreat
