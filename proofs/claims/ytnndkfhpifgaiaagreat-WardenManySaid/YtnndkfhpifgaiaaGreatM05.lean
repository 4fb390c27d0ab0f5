/-
  Laws for single operations on long rows of cells, over whatever program: a new variable, a store, a load, each said of whole blocks.
-/
import Derived.Test.YtnndkfhpifgaiaaGreatM03
import Derived.Lib.SlBuf
import Derived.Great.Walk
import Derived.Deep.RegionHeld3
set_option linter.unusedVariables false
set_option linter.unusedSimpArgs false
namespace Go.Proofs.YtnndkfhpifgaiaaGreat
open Go.RowKit
theorem owns_succ {W : World} {base : Nat} {e : TypeId} {size : Nat} {v : Value} {k : Nat} {xs : List Value} (h : W.ownsRow base e size v (k + 1) xs) : ∃ g cap, v = .slice (some ⟨g, 0, none⟩) (k + 1) cap := by
  rcases h.2 with ⟨_, h0⟩ | ⟨g, cap, _, rfl, _⟩
  · omega
  · exact ⟨g, cap, rfl⟩

section
variable {P : Program} {ops : Array Oper} {rest : List Oper} {o : Oper} {a : Act} {w : World} {Q : Exit → Act → World → Prop}

/-- A composite literal of two parts. -/
theorem wpList_build2 (hg : o.guard = none) (t : TypeId) (i j : Nat) (x y : Operand) (ho : o.op = .build t #[(i, x), (j, y)]) (u v : Value) (hx : a.eval x = u) (hy : a.eval y = v)
    (cells : Array Value) (hf : P.built t [(i, u), (j, v)] = some cells) (h : wpList P ops Q rest (a.put o.dst (.agg cells)) w) : wpList P ops Q (o :: rest) a w :=
  wpList_buildTo hg t _ ho _ rfl cells (by simpa [hx, hy] using hf) h

theorem run_alloc_row (w : World) (t : TypeId) (z : Array Value) (hz : (P.info? t).bind (·.zero) = some (.agg z)) :
    (Instr.alloc t true (.tuple #[])).run P w = .ok (.pointer (some ⟨w.heap.size, 0, none⟩)) (w.alloc (.cells z t)) := by
  cases hi : P.info? t with
  | none => simp [hi] at hz
  | some i =>
    have hz' : i.zero = some (.agg z) := by simpa [hi] using hz
    simp [Instr.alloc, zeroValue, typeInfo, hi, hz', newVar, newRow, Value.cells]

/-- 'var x T', T a long struct or array: a new block of its zero cells. -/
theorem wpList_allocRow (hg : o.guard = none) (t : TypeId) (ho : o.op = .alloc t) (z : Array Value) (hz : (P.info? t).bind (·.zero) = some (.agg z))
    (h : wpList P ops Q rest (a.put o.dst (.pointer (some ⟨w.heap.size, 0, none⟩))) (w.alloc (.cells z t))) : wpList P ops Q (o :: rest) a w := by
  refine wpList_plain hg fun K hK => ?_
  unfold Oper.wp execOp
  simp only [ho, Sem.run_bind, run_alloc_row w t z hz, Result.andThen_ok]
  exact hK _ _ h

theorem oneCell_of_bytes {cs : Array Value} (h : ∀ v ∈ cs.toList, v.oneCell' = true) : cs.all (·.oneCell') = true :=
  Array.all_eq_true_iff_forall_mem.2 fun v hv => h v (by simpa using hv)

/-- A value of as many cells as the block has goes into it; what is known behind it: that block, and that no other has turned. -/
theorem wpList_storeRow (hg : o.guard = none) (ty : TypeId) (x y : Operand) (ho : o.op = .store ty x y) (hd : o.dst = none) (b : Nat) (cells old : Array Value) (T : TypeId)
    (hx : a.eval x = .pointer (some ⟨b, 0, none⟩)) (hy : a.eval y = .agg cells) (hold : At w b old T) (hsz : old.size = cells.size) (hi : (P.info? ty).map (·.size) = some cells.size)
    (h1 : cells.all (·.oneCell') = true)
    (h : ∀ w', At w' b cells T → Keep (· = b) w w' → w'.heap.size = w.heap.size → wpList P ops Q rest a w') : wpList P ops Q (o :: rest) a w :=
  wpList_store_rowTo hg ty x y ho hd b cells hx hy T old hold hi hsz h1
    (h _ (setRow_heap w b old cells T (0, 0) hold) ((Keep.refl (· = b) w).setRow (.inl rfl) cells) (by simp))

/-- string(b), b a slice whose bytes are known. -/
theorem run_toStr (w : World) (src dst e : TypeId) (hs : P.underlying src = some (.slice e)) (he : P.underlying e = some (.int .u8)) (hd : P.underlying dst = some .string) (b off m c : Nat) (bs : List UInt8)
    (hl : bs.length = m) (hr : w.rangeAt b off (bcells bs)) : (convert src dst (.slice (some ⟨b, off, none⟩) m c)).run P w = .ok (.string ⟨bs.toArray⟩) w := by
  rw [run_convert_bytes_arg w src e hs he b off m c (bs.map fun x => (x.toNat : Int)) (by simpa using hl) (fun i hi => ?_) dst hd]
  · congr 2
    unfold strOfNums
    simp only [List.map_map]
    rw [show ((fun n : Int => UInt8.ofNat n.toNat) ∘ fun x : UInt8 => (x.toNat : Int)) = id from by funext x; simp]
    simp
  · rw [hr i (.int .u8 bs[i].toNat) (by simp [bcells, List.getElem?_map, List.getElem?_eq_getElem (show i < bs.length by omega)])]
    simp [List.getD, List.getElem?_map, List.getElem?_eq_getElem (show i < bs.length by omega)]

theorem wpList_toStr (hg : o.guard = none) (x : Operand) (src dst : TypeId) (ho : o.op = .convert src dst x) (e : TypeId) (hs : P.underlying src = some (.slice e)) (he : P.underlying e = some (.int .u8)) (hd : P.underlying dst = some .string)
    (b off m c : Nat) (bs : List UInt8) (hx : a.eval x = .slice (some ⟨b, off, none⟩) m c) (hl : bs.length = m) (hr : w.rangeAt b off (bcells bs))
    (h : wpList P ops Q rest (a.put o.dst (.string ⟨bs.toArray⟩)) w) : wpList P ops Q (o :: rest) a w := by
  refine wpList_plain hg fun K hK => ?_
  unfold Oper.wp execOp
  simp only [ho, hx, Sem.run_bind, run_toStr w src dst e hs he hd b off m c bs hl hr, Result.andThen_ok]
  exact hK _ _ h

/-- []byte(s): a new block of the bytes, and spare ones; behind its end it is marked. -/
theorem wpList_toBytes (hg : o.guard = none) (x : Operand) (src dst : TypeId) (ho : o.op = .convert src dst x) (e : TypeId) (hs : P.underlying src = some .string) (hd : P.underlying dst = some (.slice e)) (he : P.underlying e = some (.int .u8))
    (s : ByteArray) (hx : a.eval x = .string s)
    (h : ∀ (cap : Nat) (sp : List UInt8) (w' : World), s.size + sp.length = cap → w'.heap[w.heap.size]? = some (.cells (bcells (s.data.toList ++ sp)).toArray e (cap, cap + 1)) → Keep (fun _ => False) w w' → w'.heap.size = w.heap.size + 1 →
      wpList P ops Q rest (a.put o.dst (.slice (some ⟨w.heap.size, 0, none⟩) s.size cap)) w') : wpList P ops Q (o :: rest) a w := by
  refine wpList_plain hg fun K hK => ?_
  have hc : s.size ≤ grownCap w s.size 0 e := grownCap_ge w s.size 0 e
  have hrow : bytesRow s (grownCap w s.size 0 e) = (bcells (s.data.toList ++ List.replicate (grownCap w s.size 0 e - s.size) 0)).toArray := by
    unfold bytesRow bcells
    apply Array.ext'
    simp
  have hsz : (bytesRow s (grownCap w s.size 0 e)).size = grownCap w s.size 0 e := by
    rw [hrow]; simp [bcells]; omega
  unfold Oper.wp execOp
  simp only [ho, hx, Sem.run_bind, run_bytes_of_string w src dst e s hs hd he, Result.andThen_ok, hsz]
  refine hK _ _ (h _ (List.replicate (grownCap w s.size 0 e - s.size) 0) _ (by simp; omega) ?_ ((Keep.refl _ w).drew.alloc _) (by simp))
  rw [hrow]
  exact heap_alloc_new w.drew _

/-- A long value goes into the middle of a block. -/
theorem run_storeAt_row (w : World) (ty : TypeId) (b off : Nat) (cells cur : Array Value) (T : TypeId) (hcur : At w b cur T) (hfit : off + cells.size ≤ cur.size) (hi : (P.info? ty).map (·.size) = some cells.size)
    (h1 : cells.all (·.oneCell') = true) : (Instr.storeAt ty (.pointer (some ⟨b, off, none⟩)) (.agg cells)).run P w = .ok () (w.setRow b (cur.toList.take off ++ cells.toList ++ cur.toList.drop (off + cells.size)).toArray) := by
  have hst := run_storeCells_at P b off T cells.toList 0 cur w hcur (by simpa using hfit) (fun v hv => (Array.all_eq_true_iff_forall_mem.1 h1) v (by simpa using hv))
  simp only [Nat.add_zero, Array.length_toList] at hst
  cases hq : P.info? ty with
  | none => simp [hq] at hi
  | some i =>
    have hs : cells.size = i.size := by simp [hq] at hi; omega
    simp [Instr.storeAt, Instr.sureAddr, storeVar, sizeOf, typeInfo, hq, Value.cells, hs] at hst ⊢
    rw [hst]

theorem step_storeAt (hgd : o.guard = none) (ty : TypeId) (x y : Operand) (ho : o.op = .store ty x y) (b off : Nat) (cells cur : Array Value) (T : TypeId)
    (hx : a.eval x = .pointer (some ⟨b, off, none⟩)) (hy : a.eval y = .agg cells) (hcur : At w b cur T) (hfit : off + cells.size ≤ cur.size) (hi : (P.info? ty).map (·.size) = some cells.size)
    (h1 : cells.all (·.oneCell') = true) {K : Act → World → Prop}
    (h : ∀ w', At w' b (cur.toList.take off ++ cells.toList ++ cur.toList.drop (off + cells.size)).toArray T → Keep (· = b) w w' → w'.heap.size = w.heap.size → K (a.put o.dst undef) w') :
    if Region.wanted o (yielded ops a.tmps) = true then Oper.wp P o a w K Q else K (a.put o.dst undef) w := by
  rw [if_pos (by simp [Region.wanted, hgd])]
  unfold Oper.wp execOp
  simp only [ho, hx, hy, Sem.run_bind, run_storeAt_row w ty b off cells cur T hcur hfit hi h1, Result.andThen_ok]
  exact h _ (setRow_heap w b cur _ T (0, 0) hcur) ((Keep.refl (· = b) w).setRow (.inl rfl) _) (by simp)

theorem step_storeRow (hgd : o.guard = none) (ty : TypeId) (x y : Operand) (ho : o.op = .store ty x y) (b : Nat) (cells cur : Array Value) (T : TypeId)
    (hx : a.eval x = .pointer (some ⟨b, 0, none⟩)) (hy : a.eval y = .agg cells) (hcur : At w b cur T) (hsz : cur.size = cells.size) (hi : (P.info? ty).map (·.size) = some cells.size)
    (h1 : cells.all (·.oneCell') = true) {K : Act → World → Prop}
    (h : ∀ w', At w' b cells T → Keep (· = b) w w' → w'.heap.size = w.heap.size → K (a.put o.dst undef) w') :
    if Region.wanted o (yielded ops a.tmps) = true then Oper.wp P o a w K Q else K (a.put o.dst undef) w := by
  refine step_storeAt hgd ty x y ho b 0 cells cur T hx hy hcur (by omega) hi h1 fun w' hA hk hz => h w' ?_ hk hz
  have e : (cur.toList.take 0 ++ cells.toList ++ cur.toList.drop (0 + cells.size)).toArray = cells := by
    rw [List.drop_eq_nil_of_le (by simp; omega)]; simp
  rwa [e] at hA

theorem step_allocRow (hgd : o.guard = none) (t : TypeId) (ho : o.op = .alloc t) (z : Array Value) (hz : (P.info? t).bind (·.zero) = some (.agg z)) {K : Act → World → Prop}
    (h : K (a.put o.dst (.pointer (some ⟨w.heap.size, 0, none⟩))) (w.alloc (.cells z t))) :
    if Region.wanted o (yielded ops a.tmps) = true then Oper.wp P o a w K Q else K (a.put o.dst undef) w := by
  rw [if_pos (by simp [Region.wanted, hgd])]
  unfold Oper.wp execOp
  simp only [ho, Sem.run_bind, run_alloc_row w t z hz, Result.andThen_ok]
  exact h

/-- 'copy(x[:], s)', s a string of as many bytes as the row's part has. -/
theorem run_copyStr (w : World) (dT sT ty elem : TypeId) (b off m c : Nat) (cur : Array Value) (T : TypeId) (s : ByteArray) (hu : P.underlying dT = some (.slice elem)) (he : (P.info? elem).map (·.size) = some 1)
    (hcur : At w b cur T) (hn : s.size = m) (hfit : off + m ≤ cur.size) :
    (Builtin.copy_ #[dT, sT] ty #[.slice (some ⟨b, off, none⟩) m c, .string s]).run P w = .ok (goInt m) (w.setRow b (cur.toList.take off ++ Lib.strCells s ++ cur.toList.drop (off + m)).toArray) := by
  have hl : (Lib.strCells s).length = m := by rw [Lib.strCells_length, hn]
  have hst := run_storeCells_at P b off T (Lib.strCells s) 0 cur w hcur (by simpa [hl] using hfit) (fun v hv => by
    obtain ⟨x, _, rfl⟩ := List.mem_map.1 hv; rfl)
  have hf := Lib.run_firstCells_string (P := P) w 1 s
  cases hq : P.info? elem with
  | none => simp [hq] at he
  | some i =>
    have hi : i.size = 1 := by simpa [hq] using he
    have hm : Nat.min s.size m = s.size := by rw [hn]; exact Nat.min_self m
    rw [hl] at hst
    simp only [Nat.add_zero] at hst
    simp [Builtin.copy_, run_underlying hu, Builtin.lenOf, sizeOf, typeInfo, hq, hi, hm, hf, hst]
    rw [hn]

theorem wpList_copyStr (hg : o.guard = none) (x y : Operand) (t t' : TypeId) (ho : o.op = .call { callee := .builtin .copy, args := #[x, y], argTypes := #[t, t'] })
    (elem : TypeId) (b off m c : Nat) (cur : Array Value) (T : TypeId) (s : ByteArray) (hx : a.eval x = .slice (some ⟨b, off, none⟩) m c) (hy : a.eval y = .string s)
    (hu : P.underlying t = some (.slice elem)) (he : (P.info? elem).map (·.size) = some 1) (hcur : At w b cur T) (hn : s.size = m) (hfit : off + m ≤ cur.size)
    (h : ∀ w', At w' b (cur.toList.take off ++ Lib.strCells s ++ cur.toList.drop (off + m)).toArray T → Keep (· = b) w w' → w'.heap.size = w.heap.size → wpList P ops Q rest (a.put o.dst (goInt m)) w') : wpList P ops Q (o :: rest) a w :=
  Lib.wpList_copy_run w hg x y t t' ho _ _ hx hy (run_copyStr w t t' o.type elem b off m c cur T s hu he hcur hn hfit)
    (h _ (setRow_heap w b cur _ T (0, 0) hcur) ((Keep.refl (· = b) w).setRow (.inl rfl) _) (by simp))

/-- A slice literal of one long element: for a region that draws its order. -/
theorem run_buildSlice1 (w : World) (t e : TypeId) (n : Nat) (cells z : Array Value) (hu : P.underlying t = some (.slice e)) (hi : (P.info? e).map (fun i => (i.zero, i.size)) = some (some (.agg z), n))
    (hn : cells.size = n) (hz : z.size = n) (h0 : 0 < n) (h1 : n ≤ 2 ^ 24) :
    (Instr.buildSlice t 1 #[(0, .agg cells)]).run P w = .ok (.slice (some ⟨w.heap.size, 0, none⟩) 1 1) (w.alloc (.cells cells e)) := by
  cases hq : P.info? e with
  | none => simp [hq] at hi
  | some i =>
    have hi1 : i.zero = some (.agg z) := by simp [hq] at hi; exact hi.1
    have hi2 : i.size = n := by simp [hq] at hi; exact hi.2
    have hfill := Great.fill_whole (s := n) h0 [Value.agg cells] ((Array.range n).map (z[· % z.size]!)) (fun v hv => by simp at hv; subst hv; exact hn) (by simp)
    simp only [List.zipIdx_cons, List.zipIdx_nil, List.map_cons, List.map_nil, List.flatMap_cons, List.flatMap_nil, List.append_nil, Value.cells] at hfill
    have h1' : ¬ 16777216 < n := by omega
    have h0' : ¬ n = 0 := by omega
    simp [Instr.buildSlice, run_underlying hu, sizeOf, typeInfo, hq, hi2, zeroValue, hi1, Value.cells, h1', h0', hfill, newRow]

theorem wp_buildSlice1 (t e : TypeId) (n : Nat) (z : Array Value) (hu : P.underlying t = some (.slice e)) (hi : (P.info? e).map (fun i => (i.zero, i.size)) = some (some (.agg z), n)) (hz : z.size = n) (h0 : 0 < n) (h1 : n ≤ 2 ^ 24)
    (dst : Option Tmp) (x : Operand) (ty : TypeId) (pos : String) (after : Array Edge) (guard : Option (Nat × Bool)) (a : Act) (w : World) (K : Act → World → Prop) (Q : Exit → Act → World → Prop)
    (cells : Array Value) (hx : a.eval x = .agg cells) (hn : cells.size = n) (h : K (a.put dst (.slice (some ⟨w.heap.size, 0, none⟩) 1 1)) (w.alloc (.cells cells e))) :
    Oper.wp P { dst, op := .buildSlice t 1 #[(0, x)], type := ty, pos, after, guard } a w K Q := by
  unfold Oper.wp execOp
  simp only [List.map_toArray, List.map_cons, List.map_nil, hx, Sem.run_bind, run_buildSlice1 w t e n cells z hu hi hn hz h0 h1, Result.andThen_ok]
  exact h

theorem wp_buildSlice1_eq (t e : TypeId) (n : Nat) (z : Array Value) (hu : P.underlying t = some (.slice e)) (hi : (P.info? e).map (fun i => (i.zero, i.size)) = some (some (.agg z), n)) (hz : z.size = n) (h0 : 0 < n) (h1 : n ≤ 2 ^ 24)
    (dst : Option Tmp) (x : Operand) (ty : TypeId) (pos : String) (after : Array Edge) (guard : Option (Nat × Bool)) (a : Act) (w : World) (K : Act → World → Prop) (Q : Exit → Act → World → Prop)
    (hx : a.eval x = .agg (a.eval x).cells) (hn : (a.eval x).cells.size = n) :
    Oper.wp P { dst, op := .buildSlice t 1 #[(0, x)], type := ty, pos, after, guard } a w K Q = K (a.put dst (.slice (some ⟨w.heap.size, 0, none⟩) 1 1)) (w.alloc (.cells (a.eval x).cells e)) := by
  unfold Oper.wp execOp
  rw [hx] at hn
  generalize (a.eval x).cells = cs at *
  simp only [List.map_toArray, List.map_cons, List.map_nil, hx, Sem.run_bind, run_buildSlice1 w t e n cs z hu hi hn hz h0 h1, Result.andThen_ok]
  rfl

/-- A slice literal of one long element, inside a region that draws its order. -/
theorem step_buildSlice1 (hgd : o.guard = none) (t : TypeId) (x : Operand) (ho : o.op = .buildSlice t 1 #[(0, x)]) (e : TypeId) (n : Nat) (z : Array Value) (hu : P.underlying t = some (.slice e))
    (hi : (P.info? e).map (fun i => (i.zero, i.size)) = some (some (.agg z), n)) (hz : z.size = n) (h0 : 0 < n) (h1 : n ≤ 2 ^ 24) (cells : Array Value) (hx : a.eval x = .agg cells) (hn : cells.size = n) {K : Act → World → Prop}
    (h : K (a.put o.dst (.slice (some ⟨w.heap.size, 0, none⟩) 1 1)) (w.alloc (.cells cells e))) :
    if Region.wanted o (yielded ops a.tmps) = true then Oper.wp P o a w K Q else K (a.put o.dst undef) w := by
  rw [if_pos (by simp [Region.wanted, hgd])]
  unfold Oper.wp execOp
  simp only [ho, List.map_toArray, List.map_cons, List.map_nil, hx, Sem.run_bind, run_buildSlice1 w t e n cells z hu hi hn hz h0 h1, Result.andThen_ok]
  exact h

/-- What a load of a long row yields in each world that has that row. -/
theorem yields_load (ops : Array Oper) (S : World → Prop) (op : Oper) (a : Act) (hgd : op.guard = none) (ty : TypeId) (x : Operand) (ho : op.op = .load ty x) (b off : Nat) (hx : a.eval x = .pointer (some ⟨b, off, none⟩))
    (cs : List Value) (d : TypeDesc) (hu : P.underlying ty = some d) (hd : d.isRow = true) (hi : (P.info? ty).map (·.size) = some cs.length) (hS : ∀ w, S w → w.rangeAt b off cs) : YieldsIf P ops S op (.agg cs.toArray) a :=
  yieldsIf_load_mid (by simp [Region.wanted, hgd]) ty x ho b off hx cs d hS hu hd hi

/-- 'append(s, x)': what comes lies where the slice lay, or in a new block. -/
theorem run_appendHere (w : World) (t ty : TypeId) (e : TypeId) (size bytes : Nat) (z : Value) (ht : P.underlying t = some (.slice e)) (hinfo : (P.info? e).map (fun i => (i.zero, i.size, i.bytes)) = some (some z, size, bytes))
    (hzs : z.cells.size = size) (hsz : 0 < size) (v : Value) (n : Nat) (xs : List Value) (hown : w.ownsRow 0 e size v n xs)
    (ad : Addr) (m c : Nat) (news : List Value) (hl : news.length = m * size) (hnews : ∀ j u, news[j]? = some u → w.cell? (ad.add j) = some u) (h1 : ∀ u ∈ news, u.oneCell' = true)
    (h63 : n + m ≤ maxLen) (hbytes : (n + m) * bytes ≤ 140737488355328) :
    ∃ v' w', (Builtin.append_ #[t, t] ty #[v, .slice (some ad) m c]).run P w = .ok v' w' ∧ w'.ownsRow 0 e size v' (n + m) (xs ++ news) ∧ w.grownBy w' v.ownBlock ∧ (v'.ownBlock = v.ownBlock ∨ v'.ownBlock = some w.heap.size) := by
  cases hq : P.info? e with
  | none => simp [hq] at hinfo
  | some i =>
    simp only [hq, Option.map_some, Option.some.injEq, Prod.mk.injEq] at hinfo
    obtain ⟨hz, hi, hb⟩ := hinfo
    obtain ⟨v', w', hr, h2, h3, h4⟩ := run_append_own (P := P) w 0 t ty e i z size bytes ht hq hz hi hb hzs hsz v n xs hown ad m c news hl hnews h1 h63 hbytes (Nat.zero_le _)
    refine ⟨v', w', hr, h2, h3, ?_⟩
    subst hi hb
    rcases hown.2 with ⟨rfl, rfl⟩ | ⟨g, cap, cur, rfl, _, hg, hnc, hcm, hcs, htake⟩
    · by_cases hm : m = 0
      · exact .inl (by rw [h4.2 ⟨rfl, hm⟩])
      · have hr2 := run_append_nil (P := P) w t ty e i z ht hq hz ad m c news hl hnews (by omega) (by unfold maxLen at h63; omega) (by simp only [Nat.zero_add] at hbytes; omega)
        rw [hr] at hr2
        obtain ⟨rfl, _⟩ := (Result.ok.injEq _ _ _ _).mp hr2
        exact .inr rfl
    · by_cases hroom : n + m ≤ cap
      · have hr2 := run_append_room (P := P) w t ty e i ht hq g n cap cur hg ad m c news hl hnews h1 hroom (by rw [hl, hcs, ← Nat.add_mul]; exact Nat.mul_le_mul_right _ hroom)
        rw [hr] at hr2
        obtain ⟨rfl, _⟩ := (Result.ok.injEq _ _ _ _).mp hr2
        exact .inl rfl
      · have hr2 := run_append_grow (P := P) w t ty e i z ht hq hz ⟨g, 0, none⟩ n cap xs hown.1 (hown.cells (g := g) rfl) ad m c news hl hnews (by omega) (by unfold maxLen at h63; omega) (growslice_fits (by omega) hbytes)
        rw [hr] at hr2
        obtain ⟨rfl, _⟩ := (Result.ok.injEq _ _ _ _).mp hr2
        exact .inr rfl

theorem wp_appendHere (s x : Operand) (t : TypeId) (ho : o.op = .call { callee := .builtin .append, args := #[s, x], argTypes := #[t, t] }) (e : TypeId) (size bytes : Nat) (z : Value)
    (ht : P.underlying t = some (.slice e)) (hinfo : (P.info? e).map (fun i => (i.zero, i.size, i.bytes)) = some (some z, size, bytes)) (hzs : z.cells.size = size) (hsz : 0 < size)
    (v : Value) (n : Nat) (xs : List Value) (hs : a.eval s = v) (hown : w.ownsRow 0 e size v n xs)
    (ad : Addr) (m c : Nat) (news : List Value) (hx : a.eval x = .slice (some ad) m c) (hl : news.length = m * size) (hnews : ∀ j u, news[j]? = some u → w.cell? (ad.add j) = some u) (h1 : ∀ u ∈ news, u.oneCell' = true)
    (h63 : n + m ≤ maxLen) (hbytes : (n + m) * bytes ≤ 140737488355328) {K : Act → World → Prop}
    (h : ∀ v' w', w'.ownsRow 0 e size v' (n + m) (xs ++ news) → w.grownBy w' v.ownBlock → (v'.ownBlock = v.ownBlock ∨ v'.ownBlock = some w.heap.size) → K (a.put o.dst v') w') : Oper.wp P o a w K Q := by
  obtain ⟨v', w', hr, h2, h3, h4⟩ := run_appendHere (P := P) w t o.type e size bytes z ht hinfo hzs hsz v n xs hown ad m c news hl hnews h1 h63 hbytes
  unfold Oper.wp execOp
  simp only [ho, resolve, invoke, builtin, Sem.run_bind, Sem.run_pure, Result.andThen_ok, List.map_toArray, List.map_cons, List.map_nil, hs, hx, hr]
  exact h v' w' h2 h3 h4

/-- 'append(s, x)' inside a region that draws its order. -/
theorem step_appendOwn (hgd : o.guard = none) (s x : Operand) (t : TypeId) (ho : o.op = .call { callee := .builtin .append, args := #[s, x], argTypes := #[t, t] })
    (e : TypeId) (size bytes : Nat) (z : Value) (ht : P.underlying t = some (.slice e)) (hinfo : (P.info? e).map (fun i => (i.zero, i.size, i.bytes)) = some (some z, size, bytes))
    (hzs : z.cells.size = size) (hsz : 0 < size)
    (v : Value) (n : Nat) (xs : List Value) (hs : a.eval s = v) (hown : w.ownsRow 0 e size v n xs)
    (ad : Addr) (m c : Nat) (news : List Value) (hx : a.eval x = .slice (some ad) m c) (hl : news.length = m * size) (hnews : ∀ j u, news[j]? = some u → w.cell? (ad.add j) = some u) (h1 : ∀ u ∈ news, u.oneCell' = true)
    (h63 : n + m ≤ maxLen) (hbytes : (n + m) * bytes ≤ 140737488355328) {K : Act → World → Prop}
    (h : ∀ v' w', w'.ownsRow 0 e size v' (n + m) (xs ++ news) → w.grownBy w' v.ownBlock → (v'.ownBlock = v.ownBlock ∨ v'.ownBlock = some w.heap.size) → K (a.put o.dst v') w') :
    if Region.wanted o (yielded ops a.tmps) = true then Oper.wp P o a w K Q else K (a.put o.dst undef) w := by
  rw [if_pos (by simp [Region.wanted, hgd])]
  exact wp_appendHere s x t ho e size bytes z ht hinfo hzs hsz v n xs hs hown ad m c news hx hl hnews h1 h63 hbytes h

/-- The same in a plain region. -/
theorem wpList_appendHere (hgd : o.guard = none) (s x : Operand) (t : TypeId) (ho : o.op = .call { callee := .builtin .append, args := #[s, x], argTypes := #[t, t] })
    (e : TypeId) (size bytes : Nat) (z : Value) (ht : P.underlying t = some (.slice e)) (hinfo : (P.info? e).map (fun i => (i.zero, i.size, i.bytes)) = some (some z, size, bytes))
    (hzs : z.cells.size = size) (hsz : 0 < size)
    (v : Value) (n : Nat) (xs : List Value) (hs : a.eval s = v) (hown : w.ownsRow 0 e size v n xs)
    (ad : Addr) (m c : Nat) (news : List Value) (hx : a.eval x = .slice (some ad) m c) (hl : news.length = m * size) (hnews : ∀ j u, news[j]? = some u → w.cell? (ad.add j) = some u) (h1 : ∀ u ∈ news, u.oneCell' = true)
    (h63 : n + m ≤ maxLen) (hbytes : (n + m) * bytes ≤ 140737488355328)
    (h : ∀ v' w', w'.ownsRow 0 e size v' (n + m) (xs ++ news) → w.grownBy w' v.ownBlock → (v'.ownBlock = v.ownBlock ∨ v'.ownBlock = some w.heap.size) → wpList P ops Q rest (a.put o.dst v') w') : wpList P ops Q (o :: rest) a w :=
  wpList_plain hgd fun _ hK => wp_appendHere s x t ho e size bytes z ht hinfo hzs hsz v n xs hs hown ad m c news hx hl hnews h1 h63 hbytes fun v' w' h2 h3 h4 => hK _ _ (h v' w' h2 h3 h4)

end
end Go.Proofs.YtnndkfhpifgaiaaGreat
