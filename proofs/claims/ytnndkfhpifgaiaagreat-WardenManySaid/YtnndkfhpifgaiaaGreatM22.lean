/-
  Bytes under way in a row of the call's own: a text appended; so many zeros appended; made with room; taken as a string.
-/
import Derived.Test.YtnndkfhpifgaiaaGreatM17
import Derived.Test.YtnndkfhpifgaiaaGreatM11
import Derived.Lib.AppendStr
import Derived.Lib.AppendZerosOnto
set_option linter.unusedVariables false
set_option linter.unusedSimpArgs false
namespace Go.Proofs.YtnndkfhpifgaiaaGreat
open Go.RowKit

section
variable {P : Program}

theorem zeroCells_u8 (k : Nat) : (Builtin.zeroCells (Value.int .u8 0).cells k).toList = List.replicate k (.int .u8 0) := by
  simp [Builtin.zeroCells, Value.cells, Nat.mod_one]
  apply List.ext_getElem
  · simp
  · intro i h1 h2; simp

theorem run_append_zeros (w : World) (base : Nat) (t u ty e : TypeId) (i : TypeInfo) (ku : IntKind) (ht : P.underlying t = some (.slice e)) (hu : P.underlying u = some (.int ku)) (hi : P.info? e = some i) (hz : i.zero = some (.int .u8 0))
    (hsize : i.size = 1) (hby : i.bytes = 1) (v : Value) (n : Nat) (xs : List Value) (hown : w.ownsRow base e 1 v n xs) (k : Nat) (hk : n + k ≤ 1000000) (hbase : base ≤ w.heap.size) :
    ∃ v' w', (Builtin.append_ #[t, u] ty #[v, .int .i64 k]).run P w = .ok v' w' ∧ w'.ownsRow base e 1 v' (n + k) (xs ++ List.replicate k (.int .u8 0)) ∧ w.grownBy w' v.ownBlock := by
  have hxl : xs.length = n := by simpa using hown.1
  have hw : IntKind.i64.wrap (k : Int) = k := by rw [IntKind.wrap_i64]; omega
  have hw0 : IntKind.i64.wrap 0 = 0 := by decide
  have hneg : ¬ ((k : Int) < 0) := by omega
  have hbig : ¬ (281474976710656 < (k : Int)) := by omega
  have grown : ∀ (old : Nat), old < n + k → ∀ (row : Option Nat),
      (w.drew.alloc (.cells (xs.toArray ++ Builtin.zeroCells (Value.int .u8 0).cells k ++ Builtin.zeroCells (Value.int .u8 0).cells (grownCap w (n + k) old e - (n + k))) e)).ownsRow base e 1
        (.slice (some ⟨w.heap.size, 0, none⟩) (n + k) (grownCap w (n + k) old e)) (n + k) (xs ++ List.replicate k (.int .u8 0)) ∧
      w.grownBy (w.drew.alloc (.cells (xs.toArray ++ Builtin.zeroCells (Value.int .u8 0).cells k ++ Builtin.zeroCells (Value.int .u8 0).cells (grownCap w (n + k) old e - (n + k))) e)) row := by
    intro old ho row
    have hge := grownCap_ge w (n + k) old e
    have hcm : grownCap w (n + k) old e ≤ maxLen := grownCap_le_maxLen w (n + k) old e (by unfold maxLen; omega)
    refine ⟨⟨by simp [hxl], .inr ⟨w.heap.size, _, _, rfl, hbase, heap_alloc_new w.drew _, hge, hcm, ?_, ?_⟩⟩, ⟨rfl, rfl, rfl, by simp, fun k hk _ => heap_alloc_old w.drew _ hk⟩⟩
    · have hz1 : (Value.int IntKind.u8 0).cells.size = 1 := rfl
      simp only [Array.size_append, List.size_toArray, size_zeroCells, hz1, hxl]
      omega
    · simp only [Array.toList_append, zeroCells_u8]
      rw [List.take_append_of_le_length (by simp [hxl])]
      rw [List.take_of_length_le (by simp [hxl])]
  rcases hown.2 with ⟨rfl, rfl⟩ | ⟨g, cap, cur, rfl, hbg, hg, hnc, hcm, hcs, htake⟩
  · have hx : xs = [] := List.eq_nil_of_length_eq_zero hxl
    subst hx
    by_cases hm : k = 0
    · subst hm
      refine ⟨.slice none 0 0, w, ?_, by simpa using World.ownsRow_nil w base e 1, ⟨rfl, rfl, rfl, Nat.le_refl _, fun _ _ _ => rfl⟩⟩
      simp [Builtin.append_, run_underlying ht, run_underlying hu, sizeOf, typeInfo, hi, hsize, asInt, asIntOf, hw0]
    · have hr := Lib.run_append_nil_zeros (P := P) w t u ty e i (.int .u8 0) .i64 ku ht hu hi hz k (by omega) (by omega) (by omega) (by rw [hby]; omega)
      have hgr := grown 0 (by omega) (Value.ownBlock (.slice none 0 0))
      simp only [Nat.zero_add, List.nil_append, Array.empty_append] at hgr ⊢
      exact ⟨_, _, hr, hgr.1, hgr.2⟩
  · have hcs' : cur.size = cap := by simpa using hcs
    by_cases hroom : n + k ≤ cap
    · have hA : At w g cur e := hg
      have hst := run_storeCells_at P g n e (List.replicate k (.int .u8 0)) 0 cur w hg (by simp; omega) (fun v hv => by have := List.eq_of_mem_replicate hv; subst this; rfl)
      simp only [Nat.add_zero, List.length_replicate] at hst
      have hzc : (Builtin.zeroCells (Value.int .u8 0).cells k) = (List.replicate k (Value.int .u8 0)).toArray := by
        apply Array.ext'; rw [zeroCells_u8]
      refine ⟨.slice (some ⟨g, 0, none⟩) (n + k) cap, w.setRow g (cur.toList.take n ++ List.replicate k (Value.int .u8 0) ++ cur.toList.drop (n + k)).toArray, ?_, ⟨by simp [hxl], .inr ⟨g, cap, (cur.toList.take n ++ List.replicate k (Value.int .u8 0) ++ cur.toList.drop (n + k)).toArray, rfl, hbg, setRow_heap w g cur (cur.toList.take n ++ List.replicate k (Value.int .u8 0) ++ cur.toList.drop (n + k)).toArray e _ hg, hroom, hcm, ?_, ?_⟩⟩, ⟨rfl, rfl, rfl, by simp, fun k _ hk => setRow_other w g k _ (fun e => hk (by simp [Value.ownBlock, e]))⟩⟩
      · by_cases hm : k = 0
        · subst hm
          have hst0 : (storeCells ⟨g, n, none⟩ [] 0).run P w = .ok () (w.setRow g (cur.toList.take n ++ List.replicate 0 (Value.int .u8 0) ++ cur.toList.drop (n + 0)).toArray) := hst
          simp [Builtin.append_, run_underlying ht, run_underlying hu, sizeOf, typeInfo, hi, hsize, asInt, asIntOf, hw0, Addr.add_lit]
          simp at hroom hst0
          rw [if_pos hroom]
          simp only [hst0, Result.andThen]
        · simp [Builtin.append_, run_underlying ht, run_underlying hu, sizeOf, typeInfo, zeroValue, hi, hz, hsize, asInt, asIntOf, hw, hneg, hbig, hby, hm, hroom, hzc, Addr.add_lit, hst]
      · simp; omega
      · have ht' : cur.toList.take n = xs := by simpa using htake
        simp only [Nat.mul_one]
        rw [List.take_append_of_le_length (by simp; omega), List.take_of_length_le (by simp; omega), ht']
    · have holds : ∀ j u, xs[j]? = some u → w.cell? ((⟨g, 0, none⟩ : Addr).add j) = some u := hown.cells (g := g) rfl
      have hfo := run_firstCells_some (P := P) w.drew i.size n ⟨g, 0, none⟩ n cap xs (by rw [hsize]; simpa using hxl) (by simpa using holds)
      have hr := Lib.run_append_grow_zeros (P := P) w t u ty e i (.int .u8 0) .i64 ku ht hu hi hz (some ⟨g, 0, none⟩) n cap xs hfo k (by omega) (by omega) (by omega) (by omega) (by rw [hby]; omega) (by rw [hby]; exact growslice_fits (by omega) (by omega))
      have hgr := grown cap (by omega) (Value.ownBlock (.slice (some ⟨g, 0, none⟩) n cap))
      exact ⟨_, _, hr, hgr.1, hgr.2⟩
end

/-- n bytes in a row of the call's own. -/
def BufAt (w : World) (base : Nat) (v : Value) (n : Nat) : Prop := ∃ bs : List UInt8, bs.length = n ∧ w.ownsRow base 5 1 v n (bcells bs)

theorem BufAt.alloc {w : World} {base n : Nat} {v : Value} (h : BufAt w base v n) (o : Obj) : BufAt (w.alloc o) base v n := by
  obtain ⟨bs, h1, h2⟩ := h; exact ⟨bs, h1, h2.alloc o⟩
theorem BufAt.keep {F : Nat → Prop} {w w' : World} {base n : Nat} {v : Value} (h : BufAt w base v n) (hk : Keep F w w') (hF : ∀ b, v.ownBlock = some b → ¬ F b) : BufAt w' base v n := by
  obtain ⟨bs, h1, h2⟩ := h; exact ⟨bs, h1, hk.ownsRow h2 hF⟩
theorem BufAt.below {w w' : World} {base n : Nat} {v : Value} (h : BufAt w base v n) (hb : Below w.heap.size w w') : BufAt w' base v n := by
  obtain ⟨bs, h1, h2⟩ := h
  exact ⟨bs, h1, (Keep.of_below hb (fun _ => False)).ownsRow h2 (fun _ _ h => h)⟩
theorem BufAt.lt {w : World} {base n : Nat} {v : Value} (h : BufAt w base v n) : ∀ k, v.ownBlock = some k → base ≤ k ∧ k < w.heap.size := by
  obtain ⟨bs, h1, h2⟩ := h; exact h2.lt
theorem BufAt.form {w : World} {base n : Nat} {v : Value} (h : BufAt w base v n) : ∃ p c, v = .slice p n c := by
  obtain ⟨bs, h1, h2⟩ := h
  rcases h2.2 with ⟨rfl, h0⟩ | ⟨g, cap, _, rfl, _⟩
  · exact ⟨none, 0, by rw [h0]⟩
  · exact ⟨_, cap, rfl⟩
theorem BufAt.range {w : World} {base n : Nat} {v : Value} (h : BufAt w base v n) (h0 : 0 < n) : ∃ b c bs, v = .slice (some ⟨b, 0, none⟩) n c ∧ bs.length = n ∧ w.rangeAt b 0 (bcells bs) := by
  obtain ⟨bs, h1, h2⟩ := h
  rcases h2.2 with ⟨rfl, h0'⟩ | ⟨g, cap, cur, rfl, _⟩
  · omega
  · refine ⟨g, cap, bs, rfl, h1, fun j u hj => ?_⟩
    have h3 := h2.cells (g := g) rfl j u hj
    have hadd : (⟨g, 0, none⟩ : Addr).add j = ⟨g, j, none⟩ := by unfold Addr.add; split <;> simp_all
    rw [hadd] at h3
    rw [Nat.zero_add]; exact h3

section
variable {o : Oper} {ops : Array Oper} {Q : Exit → Act → World → Prop} {rest : List Oper} {a : Act} {w : World}

theorem strCells_bcells (s : ByteArray) : Lib.strCells s = bcells s.data.toList := by
  simp [Lib.strCells, bcells]

/-- 'append(b, s...)', s a text. -/
theorem wpList_appendStr (hg : o.guard = none) (sl x : Operand) (ho : o.op = .call { callee := .builtin .append, args := #[sl, x], argTypes := #[119, 9] })
    (base : Nat) (v : Value) (n : Nat) (hs : a.eval sl = v) (hb : BufAt w base v n) (s : ByteArray) (hx : a.eval x = .string s) (hn : n + s.size ≤ 1000000) (hbase : base ≤ w.heap.size)
    (h : ∀ v' w', BufAt w' base v' (n + s.size) → w.grownBy w' v.ownBlock → wpList Tryz.prog ops Q rest (a.put o.dst v') w') : wpList Tryz.prog ops Q (o :: rest) a w := by
  obtain ⟨bs, hbl, hown⟩ := hb
  obtain ⟨i0, hi, hz, hs1, hb1⟩ := info_parts info5
  refine Lib.wpList_append_own_string w hg sl x _ _ ho base 5 i0 Tryz.underlying119 Tryz.underlying9 hi hz hs1 hb1 v n (bcells bs) hs hown s hx (by unfold maxLen; omega) (by omega) hbase
    (fun v' w' h1 h2 _ => h v' w' ⟨bs ++ s.data.toList, by simp [hbl], ?_⟩ h2)
  rw [strCells_bcells] at h1
  simpa [bcells] using h1

/-- 'append(b, make([]byte, k)...)'. -/
theorem wpList_appendZ (hg : o.guard = none) (sl x : Operand) (ho : o.op = .call { callee := .builtin .append, args := #[sl, x], argTypes := #[119, 3] })
    (base : Nat) (v : Value) (n : Nat) (hs : a.eval sl = v) (hb : BufAt w base v n) (k : Nat) (hx : a.eval x = .int .i64 k) (hn : n + k ≤ 1000000) (hbase : base ≤ w.heap.size)
    (h : ∀ v' w', BufAt w' base v' (n + k) → w.grownBy w' v.ownBlock → wpList Tryz.prog ops Q rest (a.put o.dst v') w') : wpList Tryz.prog ops Q (o :: rest) a w := by
  obtain ⟨bs, hbl, hown⟩ := hb
  obtain ⟨i0, hi, hz, hs1, hb1⟩ := info_parts info5
  refine wpList_plain hg fun K hK => ?_
  obtain ⟨v', w', hr, h2, h3⟩ := run_append_zeros (P := Tryz.prog) w base 119 3 o.type 5 i0 .i64 Tryz.underlying119 Tryz.underlying3 hi hz hs1 hb1 v n (bcells bs) hown k hn hbase
  unfold Oper.wp execOp
  simp only [ho, resolve, invoke, builtin, Sem.run_bind, Sem.run_pure, Result.andThen_ok, List.map_toArray, List.map_cons, List.map_nil, hs, hx, hr]
  refine hK _ _ (h v' w' ⟨bs ++ List.replicate k 0, by simp [hbl], ?_⟩ h3)
  simpa [bcells] using h2

/-- 'make([]byte, 0, c)'. -/
theorem wpList_makeBuf (hg : o.guard = none) (c : Nat) (ho : o.op = .makeSlice 119 (.const (.int .i64 0)) (.const (.int .i64 c))) (hc : c ≤ 100000)
    (h : ∀ w', BufAt w' w.heap.size (.slice (some ⟨w.heap.size, 0, none⟩) 0 c) 0 → Keep (fun _ => False) w w' → w'.heap.size = w.heap.size + 1 → wpList Tryz.prog ops Q rest (a.put o.dst (.slice (some ⟨w.heap.size, 0, none⟩) 0 c)) w') : wpList Tryz.prog ops Q (o :: rest) a w := by
  obtain ⟨i0, hi, hz, hs1, hb1⟩ := info_parts info5
  refine wpList_plain hg fun K hK => ?_
  have hmk := run_make (P := Tryz.prog) w 119 5 i0 (.int .u8 0) Tryz.underlying119 hi hz .i64 .i64 0 c (by omega) (by omega) (by rw [hb1]; omega) (by omega)
  simp only [Int.toNat_natCast, Int.toNat_zero, hs1, Value.cells, Nat.mul_one, made_bytes] at hmk
  unfold Oper.wp execOp
  simp only [ho, Act.eval, Sem.run_bind, hmk, Result.andThen_ok]
  refine hK _ _ (h _ ⟨[], rfl, ?_⟩ ((Keep.refl _ w).alloc _) (by simp))
  exact World.ownsRow_made w _ c (Nat.le_refl _) (by unfold maxLen; omega) (by simp [bcells])
end
end Go.Proofs.YtnndkfhpifgaiaaGreat
