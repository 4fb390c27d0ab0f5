/-
  Bytes under way in a row that may be marked behind its end ('[]byte(s)' makes such a one).
-/
import Derived.Test.YtnndkfhpifgaiaaGreatM22
set_option linter.unusedVariables false
set_option linter.unusedSimpArgs false
namespace Go.Proofs.YtnndkfhpifgaiaaGreat
open Go.RowKit

/-- n bytes in a row. -/
def BufM (w : World) (base : Nat) (v : Value) (n : Nat) : Prop := ∃ (g cap : Nat) (bs sp : List UInt8) (fz : Nat × Nat), v = .slice (some ⟨g, 0, none⟩) n cap ∧ base ≤ g ∧ w.heap[g]? = some (.cells (bcells (bs ++ sp)).toArray 5 fz) ∧ (fz = (0, 0) ∨ cap ≤ fz.1) ∧ bs.length = n ∧ n + sp.length = cap

theorem BufM.keep {F : Nat → Prop} {w w' : World} {base n : Nat} {v : Value} (h : BufM w base v n) (hk : Keep F w w') (hF : ∀ b, v.ownBlock = some b → ¬ F b) : BufM w' base v n := by
  obtain ⟨g, cap, bs, sp, fz, rfl, hb, hg, hr⟩ := h
  exact ⟨g, cap, bs, sp, fz, rfl, hb, (hk.block g (Array.getElem?_eq_some_iff.1 hg).1 (hF g rfl)).trans hg, hr⟩
theorem BufM.below {w w' : World} {base n : Nat} {v : Value} (h : BufM w base v n) (hb : Below w.heap.size w w') : BufM w' base v n := h.keep (Keep.of_below hb (fun _ => False)) (fun _ _ h => h)
theorem BufM.lt {w : World} {base n : Nat} {v : Value} (h : BufM w base v n) : ∀ k, v.ownBlock = some k → base ≤ k ∧ k < w.heap.size := by
  obtain ⟨g, cap, bs, sp, fz, rfl, hb, hg, _⟩ := h
  intro k hk
  simp only [Value.ownBlock, Option.some.injEq] at hk
  subst hk
  exact ⟨hb, (Array.getElem?_eq_some_iff.1 hg).1⟩
theorem BufM.ne_at {w : World} {base n b : Nat} {v : Value} {cs : Array Value} {T : TypeId} (h : BufM w base v n) (hA : At w b cs T) (hT : T ≠ 5) : ∀ k, v.ownBlock = some k → k ≠ b := by
  obtain ⟨g, cap, bs, sp, fz, rfl, hb, hg, _⟩ := h
  intro k hk e
  simp only [Value.ownBlock, Option.some.injEq] at hk
  subst hk; subst e
  unfold At at hA
  rw [hA] at hg
  simp at hg
  exact hT hg.2.1
theorem BufM.form {w : World} {base n : Nat} {v : Value} (h : BufM w base v n) : ∃ g c bs, v = .slice (some ⟨g, 0, none⟩) n c ∧ bs.length = n ∧ w.rangeAt g 0 (bcells bs) := by
  obtain ⟨g, cap, bs, sp, fz, rfl, hb, hg, _, hl, _⟩ := h
  refine ⟨g, cap, bs, rfl, hl, fun j u hj => ?_⟩
  rw [Nat.zero_add]
  rw [cell_of_row w g j _ _ _ hg]
  have hj2 : j < (bcells bs).length := (List.getElem?_eq_some_iff.1 hj).1
  simp only [bcells, List.map_append, List.getElem?_toArray]
  rw [List.getElem?_append_left (by simpa [bcells] using hj2)]
  exact hj

section
variable {P : Program}
theorem storeM (g o : Nat) (T : TypeId) (fz : Nat × Nat) : ∀ (vs : List UInt8) (i : Nat) (pre post : List UInt8) (w : World), w.heap[g]? = some (.cells (bcells (pre ++ post)).toArray T fz) → pre.length = o + i → vs.length ≤ post.length →
    (fz = (0, 0) ∨ pre.length + post.length ≤ fz.1) → ∃ w', (storeCells ⟨g, o, none⟩ (bcells vs) i).run P w = .ok () w' ∧ w'.heap[g]? = some (.cells (bcells (pre ++ vs ++ post.drop vs.length)).toArray T fz) ∧ Keep (· = g) w w' ∧ w'.heap.size = w.heap.size
  | [], i, pre, post, w, hg, _, _, _ => ⟨w, rfl, by simpa using hg, Keep.refl _ _, rfl⟩
  | v :: rest, i, pre, [], w, hg, _, hl, _ => by simp at hl
  | v :: rest, i, pre, p :: post, w, hg, hp, hl, hfz => by
    have hadd : (⟨g, o, none⟩ : Addr).add i = ⟨g, o + i, none⟩ := by unfold Addr.add; split <;> simp_all
    have hcell : w.cell? ⟨g, o + i, none⟩ = some (.int .u8 p.toNat) := by
      rw [cell_of_row w g (o + i) _ _ _ hg, ← hp]
      simp [bcells]
    have hfro : w.frozen? ⟨g, o + i, none⟩ = false := by
      simp only [World.frozen?, hg]
      rcases hfz with e | e
      · subst e; simp
      · have : ¬ (fz.1 ≤ o + i) := by simp at e; omega
        simp [this]
    have hset : (bcells (pre ++ p :: post)).toArray.setIfInBounds (o + i) (.int .u8 v.toNat) = (bcells ((pre ++ [v]) ++ post)).toArray := by
      rw [bcells_set, ← hp]; simp
    have hst : (store ((⟨g, o, none⟩ : Addr).add i) (.int .u8 v.toNat)).run P w = .ok () (w.setRow g (bcells ((pre ++ [v]) ++ post)).toArray) := by
      rw [hadd, run_store P w _ _ _ rfl, hcell]
      simp only [hfro]
      rw [setCell_eq_setRow w g (o + i) _ T fz _ hg, hset]
      rfl
    obtain ⟨w', h1, h2, h3, h4⟩ := storeM g o T fz rest (i + 1) (pre ++ [v]) post (w.setRow g (bcells ((pre ++ [v]) ++ post)).toArray) (setRow_heap w g _ _ T fz hg) (by simp; omega) (by simp at hl; omega) (by rcases hfz with e | e; exact .inl e; right; simp at e ⊢; omega)
    refine ⟨w', ?_, by simpa using h2, ((Keep.refl (· = g) w).setRow (.inl rfl) _).trans h3 (fun _ _ h => h), by rw [h4]; simp⟩
    show (storeCells ⟨g, o, none⟩ (.int .u8 v.toNat :: bcells rest) i).run P w = _
    simp only [storeCells, Sem.run_bind, hst, Result.andThen_ok, h1]
end

section
variable {P : Program}
theorem bufM_grown {w : World} {n base : Nat} (v : Value) (bs vs : List UInt8) (hl : bs.length = n) (old : Nat) (hold : old < n + vs.length) (hmax : n + vs.length ≤ 1000000) (hbase : base ≤ w.heap.size) :
    BufM (w.drew.alloc (.cells ((bcells bs).toArray ++ (bcells vs).toArray ++ Builtin.zeroCells (Value.int .u8 0).cells (grownCap w (n + vs.length) old 5 - (n + vs.length))) 5)) base (.slice (some ⟨w.heap.size, 0, none⟩) (n + vs.length) (grownCap w (n + vs.length) old 5)) (n + vs.length) ∧
    w.grownBy (w.drew.alloc (.cells ((bcells bs).toArray ++ (bcells vs).toArray ++ Builtin.zeroCells (Value.int .u8 0).cells (grownCap w (n + vs.length) old 5 - (n + vs.length))) 5)) v.ownBlock := by
  have hge := grownCap_ge w (n + vs.length) old 5
  refine ⟨⟨w.heap.size, _, bs ++ vs, List.replicate (grownCap w (n + vs.length) old 5 - (n + vs.length)) 0, (0, 0), rfl, hbase, ?_, .inl rfl, by simp [hl], by rw [List.length_replicate]; omega⟩, ⟨rfl, rfl, rfl, by simp, fun k hk _ => heap_alloc_old w.drew _ hk⟩⟩
  have e : ((bcells bs).toArray ++ (bcells vs).toArray ++ Builtin.zeroCells (Value.int .u8 0).cells (grownCap w (n + vs.length) old 5 - (n + vs.length))) = (bcells (bs ++ vs ++ List.replicate (grownCap w (n + vs.length) old 5 - (n + vs.length)) 0)).toArray := by
    apply Array.ext'
    simp only [Array.toList_append, zeroCells_u8]
    simp [bcells]
  rw [e]
  exact heap_alloc_new w.drew _

theorem bufM_room {w w' : World} {n cap base g : Nat} {bs sp vs : List UInt8} {fz : Nat × Nat} (hb : base ≤ g) (hfz : fz = (0, 0) ∨ cap ≤ fz.1) (hl : bs.length = n) (hc : n + sp.length = cap) (hroom : n + vs.length ≤ cap)
    (h2 : w'.heap[g]? = some (.cells (bcells (bs ++ vs ++ sp.drop vs.length)).toArray 5 fz)) (hk : Keep (· = g) w w') (hs : w'.heap.size = w.heap.size) :
    BufM w' base (.slice (some ⟨g, 0, none⟩) (n + vs.length) cap) (n + vs.length) ∧ w.grownBy w' (Value.ownBlock (.slice (some ⟨g, 0, none⟩) n cap)) :=
  ⟨⟨g, cap, bs ++ vs, sp.drop vs.length, fz, rfl, hb, h2, hfz, by simp [hl], by rw [List.length_drop]; omega⟩, ⟨hk.os, hk.tape, hk.output, hk.size, fun k hk1 hk2 => hk.block k hk1 (fun e => hk2 (by simp [Value.ownBlock, e]))⟩⟩

theorem run_appM (w : World) (base : Nat) (t u ty : TypeId) (i : TypeInfo) (ht : P.underlying t = some (.slice 5)) (hu : P.underlying u = some .string) (hi : P.info? 5 = some i) (hz : i.zero = some (.int .u8 0))
    (hsize : i.size = 1) (hby : i.bytes = 1) (v : Value) (n : Nat) (hB : BufM w base v n) (s : ByteArray) (hn : n + s.size ≤ 1000000) (hbase : base ≤ w.heap.size) :
    ∃ v' w', (Builtin.append_ #[t, u] ty #[v, .string s]).run P w = .ok v' w' ∧ BufM w' base v' (n + s.size) ∧ w.grownBy w' v.ownBlock := by
  obtain ⟨g, cap, bs, sp, fz, rfl, hb, hg, hfz, hl, hc⟩ := hB
  have hss : s.data.toList.length = s.size := Array.length_toList
  by_cases hroom : n + s.size ≤ cap
  · obtain ⟨w', h1, h2, h3, h4⟩ := storeM (P := P) g n 5 fz s.data.toList 0 bs sp w hg (by omega) (by rw [hss]; omega) (by rw [hl, hc]; exact hfz)
    have hf := Lib.run_firstCells_string (P := P) w 1 s
    have hr := bufM_room (w := w) hb hfz hl hc (vs := s.data.toList) (by rw [hss]; exact hroom) h2 h3 h4
    rw [hss] at hr
    refine ⟨_, w', ?_, hr.1, hr.2⟩
    rw [← strCells_bcells] at h1
    simp [Builtin.append_, run_underlying ht, run_underlying hu, sizeOf, typeInfo, hi, hsize, Builtin.lenOf, hroom, hf, Addr.add_lit, h1]
  · have holds : ∀ j x, (bcells bs)[j]? = some x → w.cell? ((⟨g, 0, none⟩ : Addr).add j) = some x := by
      intro j x hj
      have hadd : (⟨g, 0, none⟩ : Addr).add j = ⟨g, j, none⟩ := by unfold Addr.add; split <;> simp_all
      rw [hadd, cell_of_row w g j _ _ _ hg]
      have hj2 : j < (bcells bs).length := (List.getElem?_eq_some_iff.1 hj).1
      simp only [bcells, List.map_append, List.getElem?_toArray]
      rw [List.getElem?_append_left (by simpa [bcells] using hj2)]
      exact hj
    have hr := Lib.run_append_grow_string (P := P) (w := w) t u ty 5 i (.int .u8 0) ht hu hi hz ⟨g, 0, none⟩ n cap (bcells bs) (by rw [hsize, bcells_length]; omega) holds s (by omega) (by omega) (by rw [hby]; exact growslice_fits (by omega) (by omega))
    have hgr := bufM_grown (w := w) (base := base) (.slice (some ⟨g, 0, none⟩) n cap) bs s.data.toList hl cap (by rw [hss]; omega) (by rw [hss]; omega) hbase
    rw [hss, ← strCells_bcells] at hgr
    exact ⟨_, _, hr, hgr.1, hgr.2⟩

theorem run_appMZ (w : World) (base : Nat) (t u ty : TypeId) (i : TypeInfo) (ku : IntKind) (ht : P.underlying t = some (.slice 5)) (hu : P.underlying u = some (.int ku)) (hi : P.info? 5 = some i) (hz : i.zero = some (.int .u8 0))
    (hsize : i.size = 1) (hby : i.bytes = 1) (v : Value) (n : Nat) (hB : BufM w base v n) (k : Nat) (hn : n + k ≤ 1000000) (hk0 : 0 < k) (hbase : base ≤ w.heap.size) :
    ∃ v' w', (Builtin.append_ #[t, u] ty #[v, .int .i64 k]).run P w = .ok v' w' ∧ BufM w' base v' (n + k) ∧ w.grownBy w' v.ownBlock := by
  obtain ⟨g, cap, bs, sp, fz, rfl, hb, hg, hfz, hl, hc⟩ := hB
  have hw : IntKind.i64.wrap (k : Int) = k := by rw [IntKind.wrap_i64]; omega
  have hneg : ¬ ((k : Int) < 0) := by omega
  have hbig : ¬ (281474976710656 < (k : Int)) := by omega
  have hm : ¬ k = 0 := by omega
  have hzc : (Builtin.zeroCells (Value.int .u8 0).cells k) = (bcells (List.replicate k 0)).toArray := by
    apply Array.ext'; rw [zeroCells_u8]; simp [bcells]
  have hlz : (List.replicate k (0 : UInt8)).length = k := by simp
  by_cases hroom : n + k ≤ cap
  · obtain ⟨w', h1, h2, h3, h4⟩ := storeM (P := P) g n 5 fz (List.replicate k 0) 0 bs sp w hg (by omega) (by rw [hlz]; omega) (by rw [hl, hc]; exact hfz)
    have hr := bufM_room (w := w) hb hfz hl hc (vs := List.replicate k 0) (by rw [hlz]; exact hroom) h2 h3 h4
    rw [hlz] at hr
    refine ⟨_, w', ?_, hr.1, hr.2⟩
    simp [Builtin.append_, run_underlying ht, run_underlying hu, sizeOf, typeInfo, zeroValue, hi, hz, hsize, asInt, asIntOf, hw, hneg, hbig, hby, hm, hroom, hzc, Addr.add_lit, h1]
  · have holds : ∀ j x, (bcells bs)[j]? = some x → w.drew.cell? ((⟨g, 0, none⟩ : Addr).add j) = some x := by
      intro j x hj
      have hadd : (⟨g, 0, none⟩ : Addr).add j = ⟨g, j, none⟩ := by unfold Addr.add; split <;> simp_all
      rw [hadd]
      show w.cell? ⟨g, j, none⟩ = some x
      rw [cell_of_row w g j _ _ _ hg]
      have hj2 : j < (bcells bs).length := (List.getElem?_eq_some_iff.1 hj).1
      simp only [bcells, List.map_append, List.getElem?_toArray]
      rw [List.getElem?_append_left (by simpa [bcells] using hj2)]
      exact hj
    have hfo := run_firstCells_some (P := P) w.drew i.size n ⟨g, 0, none⟩ n cap (bcells bs) (by rw [hsize, bcells_length]; omega) holds
    have hr := Lib.run_append_grow_zeros (P := P) w t u ty 5 i (.int .u8 0) .i64 ku ht hu hi hz (some ⟨g, 0, none⟩) n cap (bcells bs) hfo k (by omega) (by omega) (by omega) (by omega) (by rw [hby]; omega) (by rw [hby]; exact growslice_fits (by omega) (by omega))
    have hgr := bufM_grown (w := w) (base := base) (.slice (some ⟨g, 0, none⟩) n cap) bs (List.replicate k 0) hl cap (by rw [hlz]; omega) (by rw [hlz]; omega) hbase
    rw [hlz, ← hzc] at hgr
    exact ⟨_, _, hr, hgr.1, hgr.2⟩
end

section
variable {o : Oper} {ops : Array Oper} {Q : Exit → Act → World → Prop} {rest : List Oper} {a : Act} {w : World}
theorem wpList_appM (hg : o.guard = none) (sl x : Operand) (ho : o.op = .call { callee := .builtin .append, args := #[sl, x], argTypes := #[119, 9] })
    (base : Nat) (v : Value) (n : Nat) (hs : a.eval sl = v) (hb : BufM w base v n) (s : ByteArray) (hx : a.eval x = .string s) (hn : n + s.size ≤ 1000000) (hbase : base ≤ w.heap.size)
    (h : ∀ v' w', BufM w' base v' (n + s.size) → w.grownBy w' v.ownBlock → wpList Tryz.prog ops Q rest (a.put o.dst v') w') : wpList Tryz.prog ops Q (o :: rest) a w := by
  obtain ⟨i0, hi, hz, hs1, hb1⟩ := info_parts info5
  refine wpList_plain hg fun K hK => ?_
  obtain ⟨v', w', hr, h2, h3⟩ := run_appM (P := Tryz.prog) w base 119 9 o.type i0 Tryz.underlying119 Tryz.underlying9 hi hz hs1 hb1 v n hb s hn hbase
  unfold Oper.wp execOp
  simp only [ho, resolve, invoke, builtin, Sem.run_bind, Sem.run_pure, Result.andThen_ok, List.map_toArray, List.map_cons, List.map_nil, hs, hx, hr]
  exact hK _ _ (h v' w' h2 h3)
theorem step_appM (hgd : o.guard = none) (sl x : Operand) (ho : o.op = .call { callee := .builtin .append, args := #[sl, x], argTypes := #[119, 9] }) (d : Tmp) (hd : o.dst = some d)
    (base : Nat) (v : Value) (n : Nat) (hs : a.eval sl = v) (hb : BufM w base v n) (s : ByteArray) (hx : a.eval x = .string s) (hn : n + s.size ≤ 1000000) (hbase : base ≤ w.heap.size) {K : Act → World → Prop}
    (h : ∀ w' v', BufM w' base v' (n + s.size) → w.grownBy w' v.ownBlock → K ⟨a.tmps.setIfInBounds d v', a.defers⟩ w') :
    if Region.wanted o (yielded ops a.tmps) = true then Oper.wp Tryz.prog o a w K Q else K (a.put o.dst undef) w := by
  rw [if_pos (by simp [Region.wanted, hgd])]
  obtain ⟨i0, hi, hz, hs1, hb1⟩ := info_parts info5
  obtain ⟨v', w', hr, h2, h3⟩ := run_appM (P := Tryz.prog) w base 119 9 o.type i0 Tryz.underlying119 Tryz.underlying9 hi hz hs1 hb1 v n hb s hn hbase
  unfold Oper.wp execOp
  simp only [ho, resolve, invoke, builtin, Sem.run_bind, Sem.run_pure, Result.andThen_ok, List.map_toArray, List.map_cons, List.map_nil, hs, hx, hr]
  have := h w' v' h2 h3
  show K (a.put o.dst _) _
  rw [hd]; exact this
theorem wpList_appMZ (hg : o.guard = none) (sl x : Operand) (ho : o.op = .call { callee := .builtin .append, args := #[sl, x], argTypes := #[119, 3] })
    (base : Nat) (v : Value) (n : Nat) (hs : a.eval sl = v) (hb : BufM w base v n) (k : Nat) (hx : a.eval x = .int .i64 k) (hn : n + k ≤ 1000000) (hk0 : 0 < k) (hbase : base ≤ w.heap.size)
    (h : ∀ v' w', BufM w' base v' (n + k) → w.grownBy w' v.ownBlock → wpList Tryz.prog ops Q rest (a.put o.dst v') w') : wpList Tryz.prog ops Q (o :: rest) a w := by
  obtain ⟨i0, hi, hz, hs1, hb1⟩ := info_parts info5
  refine wpList_plain hg fun K hK => ?_
  obtain ⟨v', w', hr, h2, h3⟩ := run_appMZ (P := Tryz.prog) w base 119 3 o.type i0 .i64 Tryz.underlying119 Tryz.underlying3 hi hz hs1 hb1 v n hb k hn hk0 hbase
  unfold Oper.wp execOp
  simp only [ho, resolve, invoke, builtin, Sem.run_bind, Sem.run_pure, Result.andThen_ok, List.map_toArray, List.map_cons, List.map_nil, hs, hx, hr]
  exact hK _ _ (h v' w' h2 h3)
/-- '[]byte(s)' is such a row. -/
theorem BufM.ofBytes {w' : World} {base g : Nat} {s : ByteArray} {cap : Nat} {sp : List UInt8} (hcap : s.size + sp.length = cap) (hrow : w'.heap[g]? = some (.cells (bcells (s.data.toList ++ sp)).toArray 5 (cap, cap + 1))) (hb : base ≤ g) : BufM w' base (.slice (some ⟨g, 0, none⟩) s.size cap) s.size :=
  ⟨g, cap, s.data.toList, sp, _, rfl, hb, hrow, .inr (Nat.le_refl _), Array.length_toList, hcap⟩
end
end Go.Proofs.YtnndkfhpifgaiaaGreat
