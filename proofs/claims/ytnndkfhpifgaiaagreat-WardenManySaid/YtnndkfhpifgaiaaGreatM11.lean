/-
  Numbers as bytes, and sums: which strings come, how long they are.
  head: what a chunk's beginning is; weak for reading, exact as far as a writer needs it.
  head: a head's bytes are written, and read.
  bin.Get and head's reading, weak.
-/
import Derived.Test.YtnndkfhpifgaiaaGreatM10
import Derived.Test.YtnndkfhpifgaiaaGreatM05
import Derived.Deep.LoopGhost
import Derived.Deep.OwnRows
set_option linter.unusedVariables false
set_option linter.unusedSimpArgs false
namespace Go.Proofs.YtnndkfhpifgaiaaGreat
open Go.RowKit

theorem info5 : (Tryz.prog.info? 5).map (fun i => (i.zero, i.size, i.bytes)) = some (some (.int .u8 0), 1, 1) := by kernel_rfl

/-- A new slice of n bytes, whatever they are. -/
def Bytes (n : Nat) (w : World) (e : Ending) (w' : World) : Prop :=
  ∃ b bs, bs.length = n ∧ e = .returned (.slice (some ⟨b, 0, none⟩) n n) ∧ At w' b (bcells bs).toArray 5 ∧ w.heap.size ≤ b ∧ Below w.heap.size w w'

/-- A string of n bytes, whatever they are. -/
def Str (n : Nat) (w : World) (e : Ending) (w' : World) : Prop := ∃ s : ByteArray, s.size = n ∧ e = .returned (.string s) ∧ Below w.heap.size w w'

theorem made_bytes (n : Nat) : madeCells #[.int .u8 0] n = (bcells (List.replicate n 0)).toArray := by
  apply Array.ext_getElem?
  intro i
  by_cases h : i < n
  · simp [madeCells, bcells, h, Nat.mod_one]
  · simp [madeCells, bcells, h]

theorem bcells_set (bs : List UInt8) (i : Nat) (b : UInt8) : (bcells bs).toArray.setIfInBounds i (.int .u8 b.toNat) = (bcells (bs.set i b)).toArray := by
  simp [bcells, List.map_set]

theorem isB_mod (x : Int) : IsB (.int .u8 (x % 256)) := by
  refine ⟨UInt8.ofNat (x % 256).toNat, ?_⟩
  have h0 := Int.emod_nonneg x (show (256 : Int) ≠ 0 by omega)
  have h1 := Int.emod_lt_of_pos x (show (0 : Int) < 256 by omega)
  congr 1
  simp [UInt8.toNat_ofNat]; omega
theorem At.setB {w : World} {b : Nat} {bs : List UInt8} {T : TypeId} (h : At w b (bcells bs).toArray T) (k : Nat) {v : Value} (hv : IsB v) :
    ∃ bs', bs'.length = bs.length ∧ At (w.setCell ⟨b, k, none⟩ v) b (bcells bs').toArray T := by
  obtain ⟨x, rfl⟩ := hv
  exact ⟨bs.set k x, by simp, by rw [← bcells_set]; exact h.set _ _⟩

theorem u8_of (x : Int) : ∃ b : UInt8, IntKind.u8.wrap x = (b.toNat : Int) := by
  refine ⟨UInt8.ofNat (IntKind.u8.wrap x).toNat, ?_⟩
  have h : 0 ≤ IntKind.u8.wrap x ∧ IntKind.u8.wrap x < 256 := by simp [IntKind.wrap, IntKind.bits, IntKind.signed]; omega
  simp [UInt8.toNat_ofNat]; omega

set_option maxHeartbeats 400000 in
theorem order_any (v : Int) (n : Nat) (w : World) (hn : n ≤ 7) (hv : 0 ≤ v) : Calls Tryz.prog 125 #[.int .u64 v, .int .i64 n] w (Bytes n w) := by
  obtain ⟨i0, hi, hz, hs, hb⟩ := info_parts info5
  have hmk := fun w => run_make (P := Tryz.prog) w 119 5 i0 (.int .u8 0) Tryz.underlying119 hi hz .i64 .i64 n n (by omega) (by omega) (by rw [hb]; omega) (by omega)
  simp only [Int.toNat_natCast, hs, Value.cells, Nat.mul_one, made_bytes] at hmk
  have hn' : (n : Int) ≤ 7 := by omega
  clear hi hz hs hb
  go_enter Tryz.func125, Tryz.ntmps125
  go_wp2
  go_loopg [11, 6] n (fun gk i c wr => ∃ k : Nat, k ≤ n ∧ gk = n - k ∧ i = .int .i64 k ∧ ∃ bs : List UInt8, bs.length = n ∧ At wr w.heap.size (bcells bs).toArray 5 ∧ Below w.heap.size w wr)
  case atStart => exact ⟨0, Nat.zero_le _, by omega, rfl, _, List.length_replicate, At.new _ _ _, (Below.refl _ _).alloc (Nat.le_refl _) _⟩
  case round =>
    obtain ⟨k, hk, hgk, rfl, bs, hbs, hA, hbl⟩ := hrel
    have Hgk := Lib.hid hgk
    have Hbs := Lib.hid hbs
    clear hgk hbs
    by_cases hlt : k < n
    · have hc : wr.cell? ⟨w.heap.size, k, none⟩ = some (.int .u8 (bs[k]'(by rw [Hbs.out]; exact hlt)).toNat) := by
        rw [hA.cell]; simp [bcells, List.getElem?_map, List.getElem?_eq_getElem (show k < bs.length by rw [Hbs.out]; exact hlt)]
      have hf := hA.free
      go_wp2
      go_roundg (n - (k + 1))
      case measure => have := Hgk.out; omega
      case rel =>
        obtain ⟨bs', h1, h2⟩ := At.setB hA k (isB_mod (v / 2 ^ (8 * k)))
        exact ⟨k + 1, by omega, rfl, by go_num, bs', by rw [h1]; exact Hbs.out, h2, hbl.setCell (Nat.le_refl _) _⟩
    · go_wp2
      go_ret
      obtain rfl : k = n := by omega
      exact ⟨_, bs, Hbs.out, rfl, hA, Nat.le_refl _, hbl⟩

set_option maxRecDepth 100000 in
set_option maxHeartbeats 400000 in
theorem put_any (v m : Int) (n : Nat) (w : World) (hm : max 0 (min m 7) = n) : Calls Tryz.prog 80 #[.int .i64 v, .int .i64 m] w (Str n w) := by
  have hn : n ≤ 7 := by omega
  have h0 : 0 ≤ IntKind.u64.wrap v := wrap_u64_nonneg v
  go_enter Tryz.func80, Tryz.ntmps80
  go_wp2_with (first
    | (go_at_call 125; refine (order_any _ n _ hn h0).mono ?_; rintro e w1 ⟨b, bs, hbs, rfl, hA, hb, hbl⟩
       have hr : w1.rangeAt b 0 (bcells bs) := by (have := hA.range 0 n; rwa [List.drop_zero, List.take_of_length_le (by simp [bcells_length, hbs])] at this))
    | (refine wpList_toStr rfl _ _ _ rfl 5 Tryz.underlying119 Tryz.underlying5 Tryz.underlying9 b 0 n n bs rfl hbs hr ?_))
  go_ret
  exact ⟨⟨bs.toArray⟩, by show bs.toArray.size = n; simpa using hbs, rfl, hbl⟩

/-- A sum: whatever number. -/
def Sum (w : World) (e : Ending) (w' : World) : Prop := ∃ x : Int, e = .returned (.int .u32 x) ∧ Below w.heap.size w w'

set_option maxRecDepth 100000 in
set_option maxHeartbeats 1000000 in
theorem more_any (v : Int) (s : ByteArray) (w : World) (hs : s.size ≤ 1000000) : Calls Tryz.prog 138 #[.int .u32 v, .string s] w (Sum w) := by
  go_enter Tryz.func138, Tryz.ntmps138
  have hs2 : (s.size : Int) ≤ 1000000 := by omega
  go_wp2_with (first | (refine wpList_toBytes rfl _ _ _ rfl 5 Tryz.underlying9 Tryz.underlying119 Tryz.underlying5 s rfl ?_; intro cap sp w1 hcap hrow hk1 hz1))
  have hb1 : Below w.heap.size w w1 := hk1.below
  have hcell : ∀ j, j < s.size → w1.cell? ⟨w.heap.size, j, none⟩ = some (.int .u8 (s.data.toList.getD j 0).toNat) := by
    intro j hj
    rw [cell_of_row w1 _ j _ _ _ hrow]
    have hj' : j < s.data.size := hj
    unfold bcells
    rw [List.getElem?_toArray, List.map_append, List.getElem?_append_left (by simpa using hj')]
    simp [hj', List.getD]
    exact ⟨s.data[j], Array.getElem?_eq_getElem hj', by rw [Array.getElem?_eq_getElem hj']; rfl⟩
  go_loopg [13, 5, 7] s.size (fun gk i v c wr => ∃ k : Nat, k ≤ s.size ∧ gk = s.size - k ∧ i = .int .i64 k ∧ (∃ x : Int, v = .int .u32 x) ∧ wr = w1)
  case atStart => exact ⟨0, Nat.zero_le _, by omega, rfl, ⟨_, rfl⟩, rfl⟩
  case round =>
    obtain ⟨k, hk, hgk, rfl, ⟨x, rfl⟩, rfl⟩ := hrel
    have Hgk := Lib.hid hgk
    clear hgk
    by_cases hlt : k < s.size
    · have hc := hcell k hlt
      have hdk : decide ((k : Int) < s.size) = true := by simp; omega
      go_wp2
      go_loopg [21, 5] 8 (fun gj i v wj => ∃ j : Nat, j ≤ 8 ∧ gj = 8 - j ∧ i = .int .i64 j ∧ (∃ y : Int, v = .int .u32 y) ∧ wj = wr)
      case atStart => exact ⟨0, by omega, by omega, rfl, ⟨_, rfl⟩, rfl⟩
      case round =>
        obtain ⟨j, hj, hgj, rfl, ⟨y, rfl⟩, rfl⟩ := hrel
        have Hgj := Lib.hid hgj
        clear hgj
        by_cases hj8 : j < 8
        · go_wp2
          go_roundg (8 - (j + 1))
          case measure => have := Hgj.out; omega
          case rel => exact ⟨j + 1, by omega, rfl, by go_num, ⟨_, rfl⟩, rfl⟩
        · go_wp2
          go_roundg (s.size - (k + 1))
          case measure => have := Hgk.out; omega
          case rel => exact ⟨k + 1, by omega, rfl, by go_num, ⟨_, rfl⟩, rfl⟩
    · go_wp2
      go_ret
      exact ⟨_, rfl, hb1⟩

theorem of_any (s : ByteArray) (w : World) (hs : s.size ≤ 1000000) : Calls Tryz.prog 82 #[.string s] w (Sum w) := by
  go_enter Tryz.func82, Tryz.ntmps82
  go_wp2_with (first | (go_at_call 138; refine (more_any _ _ _ hs).mono ?_; rintro e w1 ⟨x, rfl, hb⟩))
  go_ret
  exact ⟨x, rfl, hb⟩
end Go.Proofs.YtnndkfhpifgaiaaGreat
namespace Go.Proofs.YtnndkfhpifgaiaaGreat
open Go.RowKit

/-- A call answers a bool, and nothing turns. -/
def Says (w : World) (e : Ending) (w' : World) : Prop := ∃ r : Bool, e = .returned (.bool r) ∧ Below w.heap.size w w'

theorem hin_any (v l m : Int) (w : World) : Calls Tryz.prog 146 #[.int .i64 v, .int .i64 l, .int .i64 m] w fun e w' => ∃ r : Bool, e = .returned (.bool r) ∧ w = w' := by
  go_enter Tryz.func146, Tryz.ntmps146
  by_cases h : l ≤ v
  · go_wp2
    go_ret
    simp
  · go_wp2
    go_ret
    simp

theorem hin_ok (v l m : Int) (w : World) (h0 : l ≤ v) (h1 : v ≤ m) : Calls Tryz.prog 146 #[.int .i64 v, .int .i64 l, .int .i64 m] w fun e w' => e = .returned (.bool true) ∧ w = w' := by
  have e1 : decide (l ≤ v) = true := by simpa using h0
  have e2 : decide (v ≤ m) = true := by simpa using h1
  go_enter Tryz.func146, Tryz.ntmps146
  go_wp2
  go_ret
  exact ⟨rfl, rfl⟩

set_option maxHeartbeats 1000000 in
theorem entry_any (k n p : Int) (w : World) : Calls Tryz.prog 147 #[.agg #[.int .i64 k, .int .i64 n, .int .i64 p]] w (Says w) := by
  have hb : Below w.heap.size w (w.alloc (.cells #[.int .i64 k, .int .i64 n, .int .i64 p] 146)) := (Below.refl _ _).alloc (Nat.le_refl _) _
  go_enter Tryz.func147, Tryz.ntmps147
  by_cases h1 : k = 1
  · go_wp2_with (first | (go_at_call 146; refine (hin_any _ _ _ _).mono ?_; rintro e w' ⟨r, rfl, rfl⟩; cases r))
    all_goals (go_ret; subst h1; exact ⟨_, rfl, hb⟩)
  · by_cases h2 : k = 2
    · go_wp2_with (first | (go_at_call 146; refine (hin_any _ _ _ _).mono ?_; rintro e w' ⟨r, rfl, rfl⟩; cases r))
      all_goals (go_ret; subst h2; exact ⟨_, rfl, hb⟩)
    · by_cases h3 : k = 4
      · go_wp2_with (first | (go_at_call 146; refine (hin_any _ _ _ _).mono ?_; rintro e w' ⟨r, rfl, rfl⟩; cases r))
        all_goals (go_ret; subst h3; exact ⟨_, rfl, hb⟩)
      · go_wp2_with (first | (go_at_call 146; refine (hin_any _ _ _ _).mono ?_; rintro e w' ⟨r, rfl, rfl⟩; cases r))
        all_goals (go_ret; exact ⟨_, rfl, hb⟩)

/-- What an entry of our own chunks may be: a node; a part of the map. -/
def EntryOk (k n p : Int) : Prop := k = 3 ∧ 1 ≤ n ∧ n ≤ 255 ∧ p = 0 ∨ k = 4 ∧ n = 1 ∧ 0 ≤ p ∧ p ≤ 3

set_option maxHeartbeats 1000000 in
theorem entry_ok (k n p : Int) (w : World) (h : EntryOk k n p) : Calls Tryz.prog 147 #[.agg #[.int .i64 k, .int .i64 n, .int .i64 p]] w (Ans (.bool true) w) := by
  obtain ⟨rfl, h1, h2, rfl⟩ | ⟨rfl, rfl, h1, h2⟩ := h
  · go_enter Tryz.func147, Tryz.ntmps147
    go_wp2_with (first | (go_at_call 146; refine (hin_ok _ _ _ _ (by omega) (by omega)).mono ?_; rintro e w' ⟨rfl, rfl⟩))
    go_ret
    exact ⟨rfl, (Below.refl _ _).alloc (Nat.le_refl _) _⟩
  · go_enter Tryz.func147, Tryz.ntmps147
    go_wp2_with (first | (go_at_call 146; refine (hin_ok _ _ _ _ (by omega) (by omega)).mono ?_; rintro e w' ⟨rfl, rfl⟩))
    go_ret
    exact ⟨rfl, (Below.refl _ _).alloc (Nat.le_refl _) _⟩

/-- A list of m entries lies at a slice value: none, or in a block. -/
def EntriesAt (P : Int → Int → Int → Prop) (w : World) (v : Value) (m N : Nat) : Prop :=
  ∃ p c, v = .slice p m c ∧ ((m = 0 ∧ p = none ∧ c = 0) ∨ ∃ b cs, b < N ∧ p = some ⟨b, 0, none⟩ ∧ At w b cs 146 ∧
    ∀ i < m, ∃ k n p, P k n p ∧ w.cell? ⟨b, i * 3, none⟩ = some (.int .i64 k) ∧ w.cell? ⟨b, i * 3 + 1, none⟩ = some (.int .i64 n) ∧ w.cell? ⟨b, i * 3 + 2, none⟩ = some (.int .i64 p))

theorem EntriesAt.below {P : Int → Int → Int → Prop} {w w' : World} {v : Value} {m N : Nat} (h : EntriesAt P w v m N) (hb : Below N w w') : EntriesAt P w' v m N := by
  obtain ⟨p, c, rfl, h⟩ := h
  refine ⟨p, c, rfl, ?_⟩
  obtain h | ⟨b, cs, hN, rfl, hA, h⟩ := h
  · exact Or.inl h
  · refine Or.inr ⟨b, cs, hN, rfl, Below.at hb hA hN, ?_⟩
    intro i hi
    obtain ⟨k, n, q, hP, h1, h2, h3⟩ := h i hi
    have hc : ∀ o, w'.cell? ⟨b, o, none⟩ = w.cell? ⟨b, o, none⟩ := fun o => by simp [World.cell?, hb.block b hN]
    exact ⟨k, n, q, hP, by rw [hc]; exact h1, by rw [hc]; exact h2, by rw [hc]; exact h3⟩

set_option maxHeartbeats 4000000 in
theorem hcheck_any (P : Int → Int → Int → Prop) (a b c d e f g h : Int) (v : Value) (m : Nat) (w : World) (hE : EntriesAt P w v m w.heap.size) (hl : m ≤ 100) :
    Calls Tryz.prog 95 #[.agg #[.int .i64 a, .int .i64 b, .int .i64 c, .int .i64 d, .int .i64 e, .int .i64 f, .int .i64 g, .int .i64 h, v]] w (Says w) := by
  have hl2 : (m : Int) ≤ 100 := by omega
  obtain ⟨p, cp, rfl, hE⟩ := hE
  have hb : Below w.heap.size w (w.alloc (.cells #[.int .i64 a, .int .i64 b, .int .i64 c, .int .i64 d, .int .i64 e, .int .i64 f, .int .i64 g, .int .i64 h, .slice p m cp] 126)) := (Below.refl _ _).alloc (Nat.le_refl _) _
  go_enter Tryz.func95, Tryz.ntmps95
  go_wp2_with (first | (go_at_call 146; refine (hin_any _ _ _ _).mono ?_; rintro e w' ⟨r, rfl, rfl⟩; cases r))
  all_goals (
    go_loopg [3, 53] m (fun gk ok i wr => ∃ k : Nat, k ≤ m ∧ gk = m - k ∧ i = .int .i64 k ∧ (∃ r : Bool, ok = .bool r) ∧ Below w.heap.size w wr)
    case atStart => exact ⟨0, Nat.zero_le _, by omega, rfl, ⟨_, rfl⟩, hb⟩)
  all_goals (
    case round =>
      obtain ⟨k, hk, hgk, rfl, ⟨r, rfl⟩, hbw⟩ := hrel
      have Hgk := Lib.hid hgk
      clear hgk
      by_cases hlt : k < m
      · obtain ⟨hm0, _, _⟩ | ⟨eb, cs, hebN, rfl, hA, hent⟩ := hE
        · exact absurd hlt (by omega)
        · obtain ⟨ek, en, ep, _, c1, c2, c3⟩ := hent k hlt
          obtain ⟨hc, hf, hz⟩ := bcell hbw
          have d1 := (hc eb (k * 3) hebN).trans c1
          have d2 := (hc eb (k * 3 + 1) hebN).trans c2
          have d3 := (hc eb (k * 3 + 2) hebN).trans c3
          have hb2 : Below w.heap.size w (wr.alloc (.cells #[.int .i64 ek, .int .i64 en, .int .i64 ep] 146)) := hbw.alloc hbw.size _
          clear hc hf c1 c2 c3 hent
          cases r
          · go_wp2_with (first | (go_at_call 147; refine (entry_any _ _ _ _).mono ?_; rintro e w' ⟨r, rfl, hbe⟩; obtain ⟨hc, hf, hz2⟩ := bcell hbe))
            all_goals (
              go_roundg (m - (k + 1))
              case measure => have := Hgk.out; omega
              case rel => exact ⟨k + 1, by omega, rfl, by go_num, ⟨_, rfl⟩, hb2⟩)
          · go_wp2_with (first | (go_at_call 147; refine (entry_any _ _ _ _).mono ?_; rintro e w' ⟨r, rfl, hbe⟩; obtain ⟨hc, hf, hz2⟩ := bcell hbe))
            all_goals (
              go_roundg (m - (k + 1))
              case measure => have := Hgk.out; omega
              case rel => exact ⟨k + 1, by omega, rfl, by go_num, ⟨_, rfl⟩, hb2.trans (hbe.mono (by simp; exact Nat.le_trans hbw.size (Nat.le_succ _)))⟩)
      · go_wp2
        go_ret
        exact ⟨_, rfl, hbw⟩)

set_option maxHeartbeats 1000000 in
theorem hcheck_ok (a b c d e f g h : Int) (v : Value) (m : Nat) (w : World) (hE : EntriesAt EntryOk w v m w.heap.size) (hl : m ≤ 24)
    (ha : 1 ≤ a ∧ a ≤ 16) (hb : 1 ≤ b ∧ b ≤ 65535) (hc : 1 ≤ c ∧ c ≤ 1048575) (hd : 1 ≤ d ∧ d ≤ 1099511627776) (he : 0 ≤ e ∧ e ≤ 65535) (hf : 0 ≤ f ∧ f ≤ 1099511627776) (hg : 0 ≤ g ∧ g ≤ 1099511627777) (hh : 0 ≤ h ∧ h ≤ 1099511627777) :
    Calls Tryz.prog 95 #[.agg #[.int .i64 a, .int .i64 b, .int .i64 c, .int .i64 d, .int .i64 e, .int .i64 f, .int .i64 g, .int .i64 h, v]] w (Ans (.bool true) w) := by
  have hl2 : (m : Int) ≤ 24 := by omega
  have hl3 : decide ((m : Int) ≤ 24) = true := by simp; omega
  obtain ⟨p, cp, rfl, hE⟩ := hE
  have hbb : Below w.heap.size w (w.alloc (.cells #[.int .i64 a, .int .i64 b, .int .i64 c, .int .i64 d, .int .i64 e, .int .i64 f, .int .i64 g, .int .i64 h, .slice p m cp] 126)) := (Below.refl _ _).alloc (Nat.le_refl _) _
  go_enter Tryz.func95, Tryz.ntmps95
  go_wp2_with (first | (go_at_call 146; refine (hin_ok _ _ _ _ (by omega) (by omega)).mono ?_; rintro e w' ⟨rfl, rfl⟩))
  go_loopg [3, 53] m (fun gk ok i wr => ∃ k : Nat, k ≤ m ∧ gk = m - k ∧ i = .int .i64 k ∧ ok = .bool true ∧ Below w.heap.size w wr)
  case atStart => exact ⟨0, Nat.zero_le _, by omega, rfl, rfl, hbb⟩
  case round =>
      obtain ⟨k, hk, hgk, rfl, rfl, hbw⟩ := hrel
      have Hgk := Lib.hid hgk
      clear hgk
      by_cases hlt : k < m
      · obtain ⟨hm0, _, _⟩ | ⟨eb, cs, hebN, rfl, hA, hent⟩ := hE
        · exact absurd hlt (by omega)
        · obtain ⟨ek, en, ep, hP, c1, c2, c3⟩ := hent k hlt
          obtain ⟨hc, hf, hz⟩ := bcell hbw
          have d1 := (hc eb (k * 3) hebN).trans c1
          have d2 := (hc eb (k * 3 + 1) hebN).trans c2
          have d3 := (hc eb (k * 3 + 2) hebN).trans c3
          have hb2 : Below w.heap.size w (wr.alloc (.cells #[.int .i64 ek, .int .i64 en, .int .i64 ep] 146)) := hbw.alloc hbw.size _
          clear hc hf c1 c2 c3 hent
          go_wp2_with (first | (go_at_call 147; refine (entry_ok _ _ _ _ hP).mono ?_; rintro e w' ⟨rfl, hbe⟩; obtain ⟨hc, hf, hz2⟩ := bcell hbe))
          go_roundg (m - (k + 1))
          case measure => have := Hgk.out; omega
          case rel => exact ⟨k + 1, by omega, rfl, by go_num, rfl, hb2.trans (hbe.mono (by simp; exact Nat.le_trans hbw.size (Nat.le_succ _)))⟩
      · go_wp2
        go_ret
        exact ⟨rfl, hbw⟩

end Go.Proofs.YtnndkfhpifgaiaaGreat
namespace Go.Proofs.YtnndkfhpifgaiaaGreat
open Go.RowKit

/-- writer.put: so many bytes more, whatever they are. -/
theorem wput_any (b : Nat) (s : ByteArray) (v m : Int) (n : Nat) (w : World) (hA : At w b #[.string s] 242) (hm : max 0 (min m 7) = n) (hs : s.size ≤ 100000) :
    Calls Tryz.prog 148 #[.pointer (some ⟨b, 0, none⟩), .int .i64 v, .int .i64 m] w fun e w' => e = .returned (.tuple #[]) ∧ ∃ s' : ByteArray, s'.size = s.size + n ∧ At w' b #[.string s'] 242 ∧ Keep (fun k => k = b) w w' := by
  have hc := hA.cell 0
  simp only [List.getElem?_toArray, List.getElem?_cons_zero] at hc
  have hlt := hA.lt
  go_enter Tryz.func148, Tryz.ntmps148
  refine wp_region_noPanic ?_
  refine T_region 10 (fun w' => w'.cell? ⟨b, 0, none⟩ = some (.string s)) (by kernel_rfl) (by kernel_rfl) (by kernel_rfl) (by decide) (by kernel_rfl) (by simpa using hc) (fun hHeld hU => ?_)
  refine T_take (i := 0) hU 6 ?_ rfl rfl (by decide) (by kernel_rfl) (by kernel_rfl) (fun _ _ _ h => h) (Or.inl ⟨by rfl, ?_⟩) hHeld ?_; rotate_left; (intro w hSw; (try dsimp only at hSw); go_simp); (try with_reducible rfl); clear hU; intro hU; (try simp only [Act.put, List.setIfInBounds_toArray, List.set_cons_zero, List.set_cons_succ])
  refine T_take (i := 1) hU 7 ?_ rfl rfl (by decide) (by kernel_rfl) (by kernel_rfl) (fun _ _ _ h => h) (Or.inl ⟨by rfl, ?_⟩) hHeld ?_; rotate_left; (intro w hSw; (try dsimp only at hSw); go_simp); (try with_reducible rfl); clear hU; intro hU; (try simp only [Act.put, List.setIfInBounds_toArray, List.set_cons_zero, List.set_cons_succ])
  refine T_take (i := 2) hU 8 ?_ rfl rfl (by decide) (by kernel_rfl) (by kernel_rfl) (fun _ _ _ h => h) (Or.inl ⟨by rfl, ?_⟩) hHeld ?_; rotate_left; (intro w hSw; (try dsimp only at hSw); go_simp); (try with_reducible rfl); clear hU; intro hU; (try simp only [Act.put, List.setIfInBounds_toArray, List.set_cons_zero, List.set_cons_succ])
  refine T_take (i := 3) hU 9 ?_ rfl rfl (by decide) (by kernel_rfl) (by kernel_rfl) (fun _ _ _ h => h) (Or.inl ⟨by rfl, ?_⟩) hHeld ?_; rotate_left; (intro w hSw; (try dsimp only at hSw); go_simp); (try with_reducible rfl); clear hU; intro hU; (try simp only [Act.put, List.setIfInBounds_toArray, List.set_cons_zero, List.set_cons_succ])
  refine T_take (i := 4) hU 10 ?_ rfl rfl (by decide) (by kernel_rfl) (by kernel_rfl) (fun _ _ _ h => h) (Or.inl ⟨by rfl, ?_⟩) hHeld ?_; rotate_left; (intro w hSw; (try dsimp only at hSw); go_simp); (try with_reducible rfl); clear hU; intro hU; (try simp only [Act.put, List.setIfInBounds_toArray, List.set_cons_zero, List.set_cons_succ])
  refine T_take (i := 5) hU 11 ?_ rfl rfl (by decide) (by kernel_rfl) (by kernel_rfl) (fun _ _ _ h => h) (Or.inl ⟨by rfl, ?_⟩) hHeld ?_; rotate_left; (intro w hSw; (try dsimp only at hSw); go_simp); (try with_reducible rfl); clear hU; intro hU; (try simp only [Act.put, List.setIfInBounds_toArray, List.set_cons_zero, List.set_cons_succ])
  have hHeld0 := hHeld
  refine T_step (i := 6) hU rfl (by decide) (by kernel_rfl) (fun K hK => ?_); clear hU hHeld
  go_simp
  go_at_call 80
  refine (put_any _ _ n _ hm).mono ?_
  rintro e w1 ⟨s1, hs1, rfl, hb1⟩
  obtain ⟨hc1, hf1, hz1⟩ := bcell hb1
  have hA1 : At w1 b #[.string s] 242 := Below.at hb1 hA.drew (by simpa using hlt)
  have hf := hA1.free
  have hcw : w1.cell? ⟨b, 0, none⟩ = some (.string s) := (hc1 b 0 (by simpa using hlt)).trans hHeld0
  have hk1 : Keep (fun k => k = b) w w1 := (Keep.of_below (show Below w.heap.size w w1 from ⟨hb1.os, hb1.tape, hb1.output, hb1.size, hb1.block⟩) _)
  refine hK.out _ _ ((hc1 b 0 (by simpa using hlt)).trans hHeld0) (fun hHeld hU => ?_); clear hK K; (try simp only [Act.put, List.setIfInBounds_toArray, List.set_cons_zero, List.set_cons_succ])
  refine T_take (i := 7) hU 13 ?_ rfl rfl (by decide) (by kernel_rfl) (by kernel_rfl) (fun _ _ _ h => h) (Or.inl ⟨by rfl, ?_⟩) hHeld ?_; rotate_left; (intro w hSw; (try dsimp only at hSw); go_simp); rw [if_neg (by omega)]; (try with_reducible rfl); clear hU; intro hU; (try simp only [Act.put, List.setIfInBounds_toArray, List.set_cons_zero, List.set_cons_succ])
  refine T_take (i := 8) hU 14 ?_ rfl rfl (by decide) (by kernel_rfl) (by kernel_rfl) (fun _ _ _ h => h) (Or.inl ⟨by rfl, ?_⟩) hHeld ?_; rotate_left; (intro w hSw; (try dsimp only at hSw); go_simp); (try with_reducible rfl); clear hU; intro hU; (try simp only [Act.put, List.setIfInBounds_toArray, List.set_cons_zero, List.set_cons_succ])
  refine T_take (i := 9) hU 15 ?_ rfl rfl (by decide) (by kernel_rfl) (by kernel_rfl) (fun _ _ _ h => h) (Or.inl ⟨by rfl, ?_⟩) hHeld ?_; rotate_left; (intro w hSw; (try dsimp only at hSw); go_simp); (try with_reducible rfl); clear hU; intro hU; (try simp only [Act.put, List.setIfInBounds_toArray, List.set_cons_zero, List.set_cons_succ])
  refine T_last (N := 10) rfl (by kernel_rfl) (by kernel_rfl) (fun K hK => ?_); clear hU hHeld
  go_simp
  refine hK.out _ _ (NoPanic.normal ?_); clear hK K
  go_end0
  refine ⟨rfl, s ++ s1, by simp [hs1], by simpa using hA1.set 0 (.string (s ++ s1)), hk1.setCell (Or.inl rfl) _⟩

theorem wput_lit (b : Nat) (s : ByteArray) (v m : Int) (w : World) (hA : At w b #[.string s] 242) (hs : s.size ≤ 100000) :
    Calls Tryz.prog 148 #[.pointer (some ⟨b, 0, none⟩), .int .i64 v, .int .i64 m] w fun e w' => e = .returned (.tuple #[]) ∧ ∃ s' : ByteArray, s'.size = s.size + (max 0 (min m 7)).toNat ∧ At w' b #[.string s'] 242 ∧ Keep (fun k => k = b) w w' :=
  wput_any b s v m (max 0 (min m 7)).toNat w hA (by omega) hs

set_option maxRecDepth 100000 in
set_option maxHeartbeats 4000000 in
theorem hbytes_any (P : Int → Int → Int → Prop) (a b c d e f g h : Int) (v : Value) (m : Nat) (w : World) (hE : EntriesAt P w v m w.heap.size) (hl : m ≤ 25) :
    Calls Tryz.prog 96 #[.agg #[.int .i64 a, .int .i64 b, .int .i64 c, .int .i64 d, .int .i64 e, .int .i64 f, .int .i64 g, .int .i64 h, v]] w (Str 252 w) := by
  have hl2 : (m : Int) ≤ 25 := by omega
  obtain ⟨p, cp, rfl, hE⟩ := hE
  have hb0 : Below w.heap.size w ((w.alloc (.cells #[.int .i64 a, .int .i64 b, .int .i64 c, .int .i64 d, .int .i64 e, .int .i64 f, .int .i64 g, .int .i64 h, .slice p m cp] 126)).alloc (.cells #[.string ⟨#[66, 71, 67, 72]⟩] 242)) := ((Below.refl _ _).alloc (Nat.le_refl _) _).alloc (by simp) _
  have hA : At ((w.alloc (.cells #[.int .i64 a, .int .i64 b, .int .i64 c, .int .i64 d, .int .i64 e, .int .i64 f, .int .i64 g, .int .i64 h, .slice p m cp] 126)).alloc (.cells #[.string ⟨#[66, 71, 67, 72]⟩] 242)) (w.heap.size + 1) #[.string ⟨#[66, 71, 67, 72]⟩] 242 := by simpa using At.new (w.alloc (.cells #[.int .i64 a, .int .i64 b, .int .i64 c, .int .i64 d, .int .i64 e, .int .i64 f, .int .i64 g, .int .i64 h, .slice p m cp] 126)) _ _
  have hH := (At.new w #[.int .i64 a, .int .i64 b, .int .i64 c, .int .i64 d, .int .i64 e, .int .i64 f, .int .i64 g, .int .i64 h, .slice p m cp] 126).alloc (.cells #[.string ⟨#[66, 71, 67, 72]⟩] 242)
  have hs : (⟨#[66, 71, 67, 72]⟩ : ByteArray).size = 4 := rfl
  have hHc := hH.cell
  go_enter Tryz.func96, Tryz.ntmps96
  go_wp2_with (first | (go_at_call 148; refine (wput_lit _ _ _ _ _ hA (by omega)).mono ?_; clear hHc; rintro e w1 ⟨rfl, s1, hs1, hA1, hk⟩; replace hs := hs1.trans (congrArg (· + _) hs); replace hb0 := hb0.trans (hk.belowOf hb0.size (by intro b hb e; omega)); replace hH := hk.at hH (by omega); have hHc := hH.cell; replace hA := hA1; clear hs1 hA1 hk))
  clear hHc hH
  have hs37 : s1.size = 37 := hs.trans (by decide)
  have hz1 := hb0.size
  have hlt1 := hA.lt
  clear hs
  go_loopg [51] m (fun gk i wr => ∃ k : Nat, k ≤ m ∧ gk = m - k ∧ i = .int .i64 k ∧ (∃ s : ByteArray, s.size = 37 + 4 * k ∧ At wr (w.heap.size + 1) #[.string s] 242) ∧ Below w.heap.size w wr)
  case atStart => exact ⟨0, Nat.zero_le _, by omega, rfl, ⟨_, hs37, hA⟩, hb0⟩
  case round =>
    obtain ⟨k, hk, hgk, rfl, ⟨s2, hs2, hA2⟩, hbw⟩ := hrel
    have Hgk := Lib.hid hgk
    have Hs2 := Lib.hid hs2
    clear hgk hs2 hA hb0
    by_cases hlt : k < m
    · obtain ⟨hm0, _, _⟩ | ⟨eb, cs, hebN, rfl, hAe, hent⟩ := hE
      · exact absurd hlt (by omega)
      · obtain ⟨ek, en, ep, hP, c1, c2, c3⟩ := hent k hlt
        obtain ⟨hc, hf, hz⟩ := bcell hbw
        have d1 := (hc eb (k * 3) hebN).trans c1
        have d2 := (hc eb (k * 3 + 1) hebN).trans c2
        have d3 := (hc eb (k * 3 + 2) hebN).trans c3
        have hlt2 := hA2.lt
        have hb2 : Below w.heap.size w (wr.alloc (.cells #[.int .i64 ek, .int .i64 en, .int .i64 ep] 146)) := hbw.alloc hbw.size _
        have hAA := hA2.alloc (.cells #[.int .i64 ek, .int .i64 en, .int .i64 ep] 146)
        have hB := At.new wr #[.int .i64 ek, .int .i64 en, .int .i64 ep] 146
        have hBc := hB.cell
        have hs := Hs2.out
        clear hc hf c1 c2 c3 hent hA2 hbw
        go_wp2_with (first | (go_at_call 148; refine (wput_lit _ _ _ _ _ hAA (by omega)).mono ?_; clear hBc; rintro e w1 ⟨rfl, s1, hs1, hA1, hk⟩; replace hs := hs1.trans (congrArg (· + _) hs); replace hb2 := hb2.trans (hk.belowOf hb2.size (by intro b hb e; omega)); replace hB := hk.at hB (by omega); have hBc := hB.cell; replace hAA := hA1; clear hs1 hA1 hk))
        go_roundg (m - (k + 1))
        case measure => have := Hgk.out; omega
        case rel => exact ⟨k + 1, by omega, rfl, by go_num, ⟨_, by omega, hAA⟩, hb2⟩
    · go_wp2
      go_loopg [68] (252 - s2.size) (fun gk i wr => ∃ s : ByteArray, s.size ≤ 252 ∧ gk = 252 - s.size ∧ At wr (w.heap.size + 1) #[.string s] 242 ∧ Below w.heap.size w wr)
      case atStart => exact ⟨_, by have := Hs2.out; omega, rfl, hA2, hbw⟩
      case round =>
        clear hA2 hbw
        obtain ⟨s3, hs3, hgj, hA3, hbw⟩ := hrel
        have Hgj := Lib.hid hgj
        have hc3 : wr.cell? ⟨w.heap.size + 1, 0, none⟩ = some (.string s3) := hA3.cell 0
        clear hgj
        by_cases hq : s3.size < 252
        · have hq2 : decide ((s3.size : Int) < 252) = true := by simp; omega
          go_wp2_with (first | (go_at_call 148; refine (wput_lit _ _ _ _ _ hA3 (by omega)).mono ?_; rintro e w1 ⟨rfl, s1, hs1, hA1, hk⟩; replace hbw := hbw.trans (hk.belowOf hbw.size (by intro b hb e; omega))))
          go_roundg (252 - s1.size)
          case measure => have := Hgj.out; omega
          case rel => exact ⟨s1, by omega, rfl, hA1, hbw⟩
        · go_wp2
          go_ret
          exact ⟨_, by omega, rfl, hbw⟩
end Go.Proofs.YtnndkfhpifgaiaaGreat
namespace Go.Proofs.YtnndkfhpifgaiaaGreat
open Go.RowKit

/-- A call answers some number, and nothing turns. -/
def Num (w : World) (e : Ending) (w' : World) : Prop := ∃ x : Int, e = .returned (.int .i64 x) ∧ Below w.heap.size w w'

theorem bytes_cell {t : ByteArray} {sp : List UInt8} {q : Nat × Nat} {w1 : World} {b : Nat} {T : TypeId} (hrow : w1.heap[b]? = some (.cells (bcells (t.data.toList ++ sp)).toArray T q)) (j : Nat) (hj : j < t.size) :
    ∃ y : UInt8, w1.cell? ⟨b, j, none⟩ = some (.int .u8 y.toNat) := by
  rw [cell_of_row w1 _ j _ _ _ hrow]
  have hj' : j < t.data.toList.length := by simpa using hj
  unfold bcells
  rw [List.getElem?_toArray, List.map_append, List.getElem?_append_left (by simpa using hj'), List.getElem?_map, List.getElem?_eq_getElem hj']
  exact ⟨_, rfl⟩

set_option maxHeartbeats 1000000 in
theorem number_any (b n c : Nat) (w : World) (hn : n ≤ 7) (h : ∀ j < n, ∃ y : UInt8, w.cell? ⟨b, j, none⟩ = some (.int .u8 y.toNat)) :
    Calls Tryz.prog 177 #[.slice (some ⟨b, 0, none⟩) n c] w (fun e w' => ∃ x : Int, e = .returned (.int .i64 x) ∧ w' = w) := by
  have hn2 : (n : Int) ≤ 7 := by omega
  go_enter Tryz.func177, Tryz.ntmps177
  go_wp2
  go_loopg [3, 4] n (fun gk v i wr => ∃ k : Nat, k ≤ n ∧ gk = k ∧ i = .int .i64 ((k : Int) - 1) ∧ (∃ x : Int, v = .int .i64 x) ∧ wr = w)
  case atStart => exact ⟨n, Nat.le_refl _, rfl, rfl, ⟨_, rfl⟩, rfl⟩
  case round =>
    obtain ⟨k, hk, hgk, rfl, ⟨x, rfl⟩, rfl⟩ := hrel
    have Hgk := Lib.hid hgk
    clear hgk
    by_cases hlt : 0 < k
    · obtain ⟨y, hc⟩ := h (k - 1) (by omega)
      obtain ⟨j, rfl⟩ : ∃ j, k = j + 1 := ⟨k - 1, by omega⟩
      have hj : ((j + 1 : Nat) : Int) - 1 = (j : Int) := by omega
      rw [hj]
      have hc2 : wr.cell? ⟨b, j, none⟩ = some (.int .u8 y.toNat) := hc
      clear hc
      go_wp2
      go_roundg j
      case measure => have := Hgk.out; omega
      case rel => exact ⟨j, by omega, rfl, rfl, ⟨_, rfl⟩, rfl⟩
    · obtain rfl : k = 0 := by omega
      go_wp2
      go_ret
      exact ⟨_, rfl, rfl⟩

set_option maxRecDepth 100000 in
set_option maxHeartbeats 1000000 in
theorem get_any (s : ByteArray) (a : Int) (n : Nat) (w : World) (hs : s.size ≤ 1000000) (ha : 0 ≤ a) (ha' : a ≤ 1000000) (hn : n ≤ 7) :
    Calls Tryz.prog 145 #[.string s, .int .i64 a, .int .i64 n] w (fun e w' => ∃ (x : Int) (r : Bool), e = .returned (.tuple #[.int .i64 x, .bool r]) ∧ Below w.heap.size w w') := by
  have hs2 : (s.size : Int) ≤ 1000000 := by omega
  have hn2 : (n : Int) ≤ 7 := by omega
  have hn3 : ¬ (7 : Int) < n := by omega
  have hw : IntKind.i64.wrap ((s.size : Int) - n) = s.size - n := by rw [IntKind.wrap_i64]; omega
  have e1 : decide ((7 : Int) < n) = false := by simpa using hn3
  have e2 : decide (a < 0) = false := by simpa using ha
  have e3 : decide ((n : Int) < 0) = false := by simp
  by_cases h : a > (s.size : Int) - n
  · have e0 : decide ((s.size : Int) - n < a) = true := by simpa using h
    go_enter Tryz.func145, Tryz.ntmps145
    go_wp2
    go_ret2
    first | exact ⟨_, _, rfl, Below.refl _ _⟩ | exact Below.refl _ _ | simp [Below.refl]
  · have e0 : decide ((s.size : Int) - n < a) = false := by simpa using h
    go_enter Tryz.func145, Tryz.ntmps145
    have hsz : min (a + n).toNat s.size - a.toNat = (s.extract a.toNat (a + n).toNat).size := by rw [ByteArray.size_extract]
    have hmin : min (a + n).toNat s.size - a.toNat ≤ 7 := by omega
    have Hsz := Lib.hid hsz
    clear hsz
    go_wp2_with (first
      | (refine wpList_toBytes rfl _ _ _ rfl 5 Tryz.underlying9 Tryz.underlying119 Tryz.underlying5 (s.extract a.toNat (a + n).toNat) rfl ?_; intro cap sp w1 hcap hrow hk1 hz1)
      | (go_at_call 177
         refine (number_any _ _ _ _ hmin (fun j hj => bytes_cell hrow j (Hsz.out ▸ hj))).mono ?_
         rintro e w2 ⟨x, rfl, rfl⟩))
    go_ret2
    first | exact ⟨_, _, rfl, hk1.below⟩ | exact hk1.below | (trace_state; fail)

/-- A reader: a text of 256 bytes, and a place in it. -/
def RdAt (w : World) (b : Nat) : Prop := ∃ (s : ByteArray) (a : Int), s.size = 256 ∧ 0 ≤ a ∧ a ≤ 5000 ∧ At w b #[.string s, .int .i64 a] 184

set_option maxHeartbeats 1000000 in
theorem rget_any (b n : Nat) (s : ByteArray) (a : Int) (w : World) (hA : At w b #[.string s, .int .i64 a] 184) (hs : s.size = 256) (ha : 0 ≤ a) (ha' : a ≤ 5000) (hn : n ≤ 7) :
    Calls Tryz.prog 94 #[.pointer (some ⟨b, 0, none⟩), .int .i64 n] w fun e w' => (∃ x : Int, e = .returned (.int .i64 x)) ∧ At w' b #[.string s, .int .i64 (a + n)] 184 ∧ Keep (fun k => k = b) w w' := by
  have hc0 : w.cell? ⟨b, 0, none⟩ = some (.string s) := hA.cell 0
  have hc1 : w.cell? ⟨b, 1, none⟩ = some (.int .i64 a) := hA.cell 1
  have hlt := hA.lt
  have hf := hA.free
  have Hs := Lib.hid hs
  clear hs
  have hn2 : (n : Int) ≤ 7 := by omega
  go_enter Tryz.func94, Tryz.ntmps94
  go_wp2
  go_region_held3 (fun w' => w'.cell? ⟨b, 0, none⟩ = some (.string s) ∧ w'.cell? ⟨b, 1, none⟩ = some (.int .i64 a)) (first | exact ⟨hc0, hc1⟩ | exact ⟨(hc b 0 hlt).trans hc0, (hc b 1 hlt).trans hc1⟩) (first | (go_at_call 145; refine (get_any _ _ n _ (by have := Hs.out; omega) ha (by omega) hn).mono ?_; rintro e w' ⟨x, r, rfl, hb⟩; obtain ⟨hc, hf, hz⟩ := bcell hb))
  have hlt' : b < w.drew.heap.size := hlt
  have hA1 : At w' b #[.string s, .int .i64 a] 184 := Below.at hb hA.drew hlt'
  have hk : Keep (fun k => k = b) w w' := (Keep.of_below hb _).ofDrew
  have d0 := hA1.cell 0
  have d1 : w'.cell? ⟨b, 1, none⟩ = some (.int .i64 a) := hA1.cell 1
  have df := hA1.free
  clear hc hf hc0 hc1 d0
  go_wp2
  go_ret
  exact ⟨⟨_, rfl⟩, by simpa using hA1.set 1 (.int .i64 (a + n)), hk.setCell (Or.inl rfl) _⟩
end Go.Proofs.YtnndkfhpifgaiaaGreat
