/-
  Maps, entry by entry: a map whose keys are whole numbers and whose values are any; laws for its operations, over whatever program.
-/
import Derived.Test.YtnndkfhpifgaiaaGreatM02
import Derived.Maps.RangeRun
import Derived.Maps.OwnSet
import Derived.Maps.RangeWalk
set_option linter.unusedVariables false
set_option linter.unusedSimpArgs false
namespace Go.Proofs.YtnndkfhpifgaiaaGreat
open Go.RowKit
open Go.ChangeMaps (setBlock)

/-- The entries of a map with keys of int, in the order in which they were laid. -/
structure Ents (es : Array MapEntry) (clk : Nat) (l : List (Int × Value)) : Prop where
  pairs : es.toList.map (fun e => (e.key, e.val)) = l.map (fun p => (Value.int .i64 p.1, p.2))
  keys : (l.map (·.1)).Nodup
  born : (es.toList.map (·.born)).Nodup
  old : ∀ x ∈ es.toList, x.born < clk

/-- Block b is a map of these keys and values. -/
def IMap (w : World) (b : Nat) (l : List (Int × Value)) : Prop := ∃ es clk, MapAt w b es clk ∧ Ents es clk l

def lookL (l : List (Int × Value)) (k : Int) : Option Value := (l.find? (fun p => p.1 == k)).map (·.2)
def putL (l : List (Int × Value)) (k : Int) (v : Value) : List (Int × Value) :=
  if (lookL l k).isSome then l.map (fun p => if p.1 = k then (k, v) else p) else l ++ [(k, v)]

theorem IMap.lt {w : World} {b : Nat} {l} (h : IMap w b l) : b < w.heap.size := by
  obtain ⟨es, clk, h, _⟩ := h; exact h.lt
theorem IMap.keep {F : Nat → Prop} {w w' : World} {b : Nat} {l} (h : IMap w b l) (hk : Keep F w w') (hb : ¬ F b) : IMap w' b l := by
  obtain ⟨es, clk, h, h2⟩ := h; exact ⟨es, clk, hk.mapAt h hb, h2⟩
theorem IMap.below {w w' : World} {b B : Nat} {l} (h : IMap w b l) (hk : Below B w w') (hb : b < B) : IMap w' b l := by
  obtain ⟨es, clk, h, h2⟩ := h; exact ⟨es, clk, Below.mapAt hk h hb, h2⟩
theorem IMap.alloc {w : World} {b : Nat} {l} (h : IMap w b l) (o : Obj) : IMap (w.alloc o) b l := by
  obtain ⟨es, clk, h, h2⟩ := h; exact ⟨es, clk, h.alloc o, h2⟩
theorem IMap.drew {w : World} {b : Nat} {l} (h : IMap w b l) : IMap w.drew b l := h
theorem IMap.setCell {w : World} {b : Nat} {l} (h : IMap w b l) (a : Addr) (v : Value) (hne : b ≠ a.block) : IMap (w.setCell a v) b l := by
  obtain ⟨es, clk, h, h2⟩ := h; exact ⟨es, clk, h.setCell a v hne, h2⟩
theorem IMap.new (w : World) : IMap (w.alloc (.map #[] 0)) w.heap.size [] := ⟨#[], 0, MapAt.new w _ _, ⟨rfl, by simp, by simp, by simp⟩⟩

theorem findNow_none {k : Int} {kd : IntKind} : ∀ {es : List MapEntry} {l : List (Int × Value)} (i : Nat), es.map (fun e => (e.key, e.val)) = l.map (fun p => (Value.int .i64 p.1, p.2)) →
    lookL l k = none → Instr.findNow (.int kd) (.int .i64 k) es i = some none := by
  intro es
  induction es with
  | nil => intro l i _ _; rfl
  | cons e es ih =>
    intro l i h hn
    cases l with
    | nil => simp at h
    | cons p l =>
      simp only [List.map_cons, List.cons.injEq, Prod.mk.injEq] at h
      obtain ⟨⟨hk, hv⟩, hr⟩ := h
      have hpk : ¬ p.1 = k := by intro e; simp [lookL, e] at hn
      have hrest : lookL l k = none := by simpa [lookL, hpk] using hn
      have hb : (k == p.1) = false := by simpa using fun e => hpk e.symm
      simp [Instr.findNow, hk, Instr.sameNow, hb, ih (i + 1) hr hrest]

theorem findNow_some {k : Int} {v : Value} {kd : IntKind} : ∀ {es : List MapEntry} {l : List (Int × Value)} (i : Nat), es.map (fun e => (e.key, e.val)) = l.map (fun p => (Value.int .i64 p.1, p.2)) →
    lookL l k = some v → ∃ j, Instr.findNow (.int kd) (.int .i64 k) es i = some (some (i + j, v)) ∧ l[j]? = some (k, v) := by
  intro es
  induction es with
  | nil => intro l i h hs; cases l with
    | nil => simp [lookL] at hs
    | cons p l => simp at h
  | cons e es ih =>
    intro l i h hs
    cases l with
    | nil => simp at h
    | cons p l =>
      simp only [List.map_cons, List.cons.injEq, Prod.mk.injEq] at h
      obtain ⟨⟨hk, hv⟩, hr⟩ := h
      by_cases hpk : p.1 = k
      · refine ⟨0, ?_, ?_⟩
        · have hb : (k == p.1) = true := by simpa using hpk.symm
          have hv2 : p.2 = v := by simpa [lookL, hpk] using hs
          simp [Instr.findNow, hk, Instr.sameNow, hb, hv, hv2]
        · have hv2 : p.2 = v := by simpa [lookL, hpk] using hs
          simp [← hpk, ← hv2]
      · have hrest : lookL l k = some v := by simpa [lookL, hpk] using hs
        obtain ⟨j, hj, hj2⟩ := ih (i + 1) hr hrest
        refine ⟨j + 1, ?_, by simpa using hj2⟩
        have hb : (k == p.1) = false := by simpa using fun e => hpk e.symm
        simp [Instr.findNow, hk, Instr.sameNow, hb, hj]
        omega

section
variable {P : Program}

theorem checkKey_int {kt : TypeId} {q : IntKind} (hk : P.underlying kt = some (.int q)) (c : Bool) (n : Nat) (v : Value) (w : World) : (Instr.checkKey c (n + 1) kt v).run P w = .ok () w := by
  simp [Instr.checkKey, run_underlying hk]

theorem run_look {t kt e : TypeId} {q : IntKind} (ht : P.underlying t = some (.map kt e)) (hk : P.underlying kt = some (.int q)) {w : World} {z : Value} (hz : (zeroValue e).run P w = .ok z w) {b : Nat} {l} (h : IMap w b l) (k : Int) (c : Bool) :
    (Instr.lookup t (.map (some b)) (.int .i64 k) c).run P w = .ok (if c then .tuple #[(lookL l k).getD z, .bool (lookL l k).isSome] else (lookL l k).getD z) w := by
  obtain ⟨es, clk, hb, hE⟩ := h
  have hb' : w.heap[b]? = some (.map es clk) := hb
  cases hl : lookL l k with
  | none =>
    have hf := findNow_none (kd := q) 0 hE.pairs hl
    cases c <;> simp [Instr.lookup, run_underlying ht, run_underlying hk, getObj, Sem.run, hb', checkKey_int hk, Instr.findKey, hf, hz, Result.andThen]
  | some v =>
    obtain ⟨j, hf, _⟩ := findNow_some (kd := q) 0 hE.pairs hl
    cases c <;> simp [Instr.lookup, run_underlying ht, run_underlying hk, getObj, Sem.run, hb', checkKey_int hk, Instr.findKey, hf, hz, Result.andThen]

theorem Ents.len {es : Array MapEntry} {clk : Nat} {l} (h : Ents es clk l) : es.size = l.length := by
  have := congrArg List.length h.pairs; simpa using this

theorem Ents.at {es : Array MapEntry} {clk : Nat} {l} (h : Ents es clk l) {j : Nat} {p : Int × Value} (hp : l[j]? = some p) : ∃ x, es[j]? = some x ∧ x.key = .int .i64 p.1 ∧ x.val = p.2 := by
  have := congrArg (fun l => l[j]?) h.pairs
  simp only [List.getElem?_map, hp, Option.map_some] at this
  cases hx : es.toList[j]? with
  | none => rw [hx] at this; cases this
  | some x =>
    rw [hx] at this
    simp only [Option.map_some, Option.some.injEq, Prod.mk.injEq] at this
    exact ⟨x, by simpa using hx, this.1, this.2⟩

theorem sameBits_int (n : Nat) (a : Int) : Instr.sameBits n (.int .i64 a) (.int .i64 a) = true := by
  cases n <;> simp [Instr.sameBits]

theorem map_setat (l : List (Int × Value)) (hn : (l.map (·.1)).Nodup) {j : Nat} {k : Int} {u v : Value} (hj : l[j]? = some (k, u)) : l.map (fun p => if p.1 = k then (k, v) else p) = l.set j (k, v) := by
  induction l generalizing j with
  | nil => simp at hj
  | cons p l ih =>
    simp only [List.map_cons, List.nodup_cons] at hn
    cases j with
    | zero =>
      simp only [List.getElem?_cons_zero, Option.some.injEq] at hj
      subst hj
      simp only [List.map_cons, if_true, List.set_cons_zero, List.cons.injEq, true_and]
      refine (List.map_congr_left fun q hq => if_neg fun e => hn.1 (List.mem_map.2 ⟨q, hq, e⟩)).trans (by simp)
    | succ j =>
      simp only [List.getElem?_cons_succ] at hj
      have hne : ¬ p.1 = k := fun e => hn.1 (List.mem_map.2 ⟨(k, u), List.mem_of_getElem? hj, e.symm⟩)
      simp only [List.map_cons, hne, if_false, List.set_cons_succ, List.cons.injEq, true_and]
      exact ih hn.2 hj

theorem putL_keys (l : List (Int × Value)) (k : Int) (v : Value) (h : (lookL l k).isSome = true) : (putL l k v).map (·.1) = l.map (·.1) := by
  unfold putL
  rw [if_pos h, List.map_map]
  refine List.map_congr_left fun p _ => ?_
  simp only [Function.comp]
  split <;> simp_all

theorem run_putM {t kt e : TypeId} {q : IntKind} (ht : P.underlying t = some (.map kt e)) (hk : P.underlying kt = some (.int q)) {w : World} {b : Nat} {l} (h : IMap w b l) (k : Int) (v : Value) :
    ∃ w', (Instr.mapUpdate t (.map (some b)) (.int .i64 k) v).run P w = .ok () w' ∧ IMap w' b (putL l k v) ∧ Keep (· = b) w w' ∧ w'.heap.size = w.heap.size := by
  obtain ⟨es, clk, hb, hE⟩ := h
  have hb' : w.heap[b]? = some (.map es clk) := hb
  have hkeep : ∀ o, Keep (· = b) w (setBlock w b o) ∧ (setBlock w b o).heap.size = w.heap.size := fun o =>
    ⟨⟨rfl, rfl, rfl, by simp [setBlock], fun j _ hne => (MapKept.heap_set (o' := o) hb').2 j hne⟩, by simp [setBlock]⟩
  have hset : ∀ o, (setObj b o).run P w = .ok () (setBlock w b o) := fun o => by simp [setObj, Sem.run, hb', setBlock]
  cases hl : lookL l k with
  | none =>
    have hf := findNow_none (kd := q) 0 hE.pairs hl
    refine ⟨setBlock w b (.map (es.push { key := .int .i64 k, val := v, born := clk }) (clk + 1)), by simp [Instr.mapUpdate, run_underlying ht, run_underlying hk, getObj, Sem.run, hb', checkKey_int hk, Instr.findKey, hf, Result.andThen, hset], ⟨_, _, (MapKept.heap_set hb').1, ?_⟩, hkeep _⟩
    have hnk : k ∉ l.map (·.1) := by
      intro hm
      obtain ⟨p, hp, rfl⟩ := List.mem_map.1 hm
      simp only [lookL, Option.map_eq_none_iff, List.find?_eq_none] at hl
      exact hl p hp (by simp)
    refine ⟨?_, ?_, ?_, ?_⟩
    · simp [putL, hl, hE.pairs]
    · simp only [putL, hl, Option.isSome_none, Bool.false_eq_true, if_false, List.map_append, List.map_cons, List.map_nil]
      exact List.nodup_append.2 ⟨hE.keys, by simp, fun a ha b hb => by simp at hb; subst hb; rintro rfl; exact hnk ha⟩
    · simp only [Array.toList_push, List.map_append, List.map_cons, List.map_nil]
      refine List.nodup_append.2 ⟨hE.born, by simp, fun a ha b hb => ?_⟩
      obtain ⟨x, hx, rfl⟩ := List.mem_map.1 ha
      have := hE.old x hx
      simp at hb; omega
    · intro x hx
      simp only [Array.toList_push, List.mem_append, List.mem_singleton] at hx
      rcases hx with hx | rfl
      · have := hE.old x hx; omega
      · simp
  | some u =>
    obtain ⟨j, hf, hj⟩ := findNow_some (kd := q) 0 hE.pairs hl
    obtain ⟨x, hx, hxk, hxv⟩ := hE.at hj
    have hxb : es.toList[j]? = some x := by simpa using hx
    simp only [Nat.zero_add] at hf
    refine ⟨setBlock w b (.map (es.modify j fun e => { e with key := .int .i64 k, val := v }) clk), ?_, ⟨_, _, (MapKept.heap_set hb').1, ?_⟩, hkeep _⟩
    · simp [Instr.mapUpdate, run_underlying ht, run_underlying hk, getObj, Sem.run, hb', checkKey_int hk, Instr.findKey, hf, Result.andThen, hset, hx, hxk, Instr.keyThatStays, sameBits_int]
    · have hput : putL l k v = l.set j (k, v) := by
        unfold putL; rw [hl]; simp only [Option.isSome_some, if_true]; exact map_setat l hE.keys hj
      have hbo : (es.modify j fun e => { e with key := Value.int .i64 k, val := v }).toList.map (·.born) = es.toList.map (·.born) := by
        rw [Array.toList_modify]
        apply List.ext_getElem?
        intro i
        simp only [List.getElem?_map, List.getElem?_modify]
        split
        · cases es.toList[i]? <;> rfl
        · cases es.toList[i]? <;> rfl
      refine ⟨?_, ?_, ?_, ?_⟩
      · rw [hput]
        apply List.ext_getElem?
        intro i
        have hi := congrArg (fun l => l[i]?) hE.pairs
        simp only [Array.toList_modify, List.getElem?_map, List.getElem?_modify, List.getElem?_set] at hi ⊢
        by_cases hij : j = i
        · subst hij
          have hlt : j < l.length := (List.getElem?_eq_some_iff.1 hj).1
          simp [hxb, hlt]
        · simp only [hij, if_false]; simpa using hi
      · rw [show (putL l k v).map (·.1) = l.map (·.1) from putL_keys l k v (by rw [hl]; rfl)]; exact hE.keys
      · rw [hbo]; exact hE.born
      · intro y hy
        have : y.born ∈ (es.modify j fun e => { e with key := Value.int .i64 k, val := v }).toList.map (·.born) := List.mem_map.2 ⟨y, hy, rfl⟩
        rw [hbo] at this
        obtain ⟨z, hz, hzb⟩ := List.mem_map.1 this
        rw [← hzb]; exact hE.old z hz

theorem run_mlen {t kt e : TypeId} (ht : P.underlying t = some (.map kt e)) {w : World} {b : Nat} {es : Array MapEntry} {clk : Nat} (h : MapAt w b es clk) (ty : TypeId) :
    (Builtin.len_ #[t] ty #[.map (some b)]).run P w = .ok (.int .i64 es.size) w := by
  have hb' : w.heap[b]? = some (.map es clk) := h
  simp [Builtin.len_, Builtin.lenOf, run_underlying ht, getObj, Sem.run, hb', Result.andThen, goInt]

theorem filter_two {α β γ : Type} {f : α → γ} {g : β → γ} {pA : α → Bool} {pL : β → Bool} : ∀ (A : List α) (L : List β), A.map f = L.map g → (∀ x ∈ A, ∀ q, f x = g q → pA x = pL q) → (A.filter pA).map f = (L.filter pL).map g
  | [], [], _, _ => rfl
  | [], _ :: _, h, _ => by simp at h
  | _ :: _, [], h, _ => by simp at h
  | a :: A, b :: L, h, hp => by
    simp only [List.map_cons, List.cons.injEq] at h
    have ih := filter_two A L h.2 (fun x hx q hq => hp x (by simp [hx]) q hq)
    have h1 := hp a (by simp) b h.1
    simp only [List.filter_cons, h1]
    split
    · simp [h.1, ih]
    · exact ih

theorem born_inj {l : List MapEntry} (h : (l.map (·.born)).Nodup) {x y : MapEntry} (hx : x ∈ l) (hy : y ∈ l) (hb : x.born = y.born) : x = y := by
  induction l with
  | nil => simp at hx
  | cons a l ih =>
    simp only [List.map_cons, List.nodup_cons] at h
    simp only [List.mem_cons] at hx hy
    rcases hx with rfl | hx <;> rcases hy with rfl | hy
    · rfl
    · exact absurd (List.mem_map.2 ⟨y, hy, hb.symm⟩) h.1
    · exact absurd (List.mem_map.2 ⟨x, hx, hb⟩) h.1
    · exact ih h.2 hx hy

theorem Ents.sameKey {es : Array MapEntry} {clk : Nat} {l} (h : Ents es clk l) {x y : MapEntry} (hx : x ∈ es.toList) (hy : y ∈ es.toList) (hk : x.key = y.key) : x = y := by
  have hp : es.toList.Pairwise (fun x y => x.key ≠ y.key) := by
    have h1 : (es.toList.map (·.key)) = (l.map (·.1)).map (Value.int .i64) := by
      have := congrArg (List.map Prod.fst) h.pairs
      rw [List.map_map, List.map_map] at this
      rw [List.map_map]
      exact this
    have h2 : ((l.map (·.1)).map (Value.int .i64)).Nodup := by
      refine List.Pairwise.map _ (fun a b hab => ?_) h.keys
      simpa using hab
    rw [← h1] at h2
    exact List.pairwise_map.1 h2
  exact entry_eq_of_key hp hx hy hk

theorem left_push (es : Array MapEntry) (seen : Array Nat) (b : Nat) : (leftOf es (seen.push b)).toList = (leftOf es seen).toList.filter (fun x => x.born ≠ b) := by
  unfold leftOf
  simp only [Array.toList_filter, List.filter_filter]
  refine List.filter_congr fun x _ => ?_
  rw [contains_push]
  by_cases h : x.born = b <;> simp [h]

/-- A loop over a map under way: what is still to come. -/
def IIter (w : World) (r b : Nat) (l left : List (Int × Value)) : Prop := ∃ es clk since seen c0, MapAt w b es clk ∧ Ents es clk l ∧ w.heap[r]? = some (.mapIter (some b) since seen c0) ∧
  (∀ x ∈ es.toList, x.born < since) ∧ since ≤ c0 ∧ since ≤ clk ∧ (leftOf es seen).toList.map (fun e => (e.key, e.val)) = left.map (fun p => (Value.int .i64 p.1, p.2))

theorem IIter.lt {w : World} {r b : Nat} {l left} (h : IIter w r b l left) : r < w.heap.size := by
  obtain ⟨_, _, _, _, _, _, _, hr, _⟩ := h; exact (Array.getElem?_eq_some_iff.1 hr).1
theorem IIter.imap {w : World} {r b : Nat} {l left} (h : IIter w r b l left) : IMap w b l := by
  obtain ⟨es, clk, _, _, _, hb, hE, _⟩ := h; exact ⟨es, clk, hb, hE⟩
theorem IIter.keep {F : Nat → Prop} {w w' : World} {r b : Nat} {l left} (h : IIter w r b l left) (hk : Keep F w w') (hr : ¬ F r) (hb : ¬ F b) : IIter w' r b l left := by
  have hlt := h.lt
  obtain ⟨es, clk, si, se, c0, h1, h2, h3, h4⟩ := h
  exact ⟨es, clk, si, se, c0, hk.mapAt h1 hb, h2, (hk.block r hlt hr).trans h3, h4⟩

theorem run_rangeM {t kt e : TypeId} (ht : P.underlying t = some (.map kt e)) {w : World} {b : Nat} {l} (h : IMap w b l) :
    ∃ w', (Instr.range t (.map (some b))).run P w = .ok (.pointer (some ⟨w.heap.size, 0, none⟩)) w' ∧ IIter w' w.heap.size b l l ∧ Keep (fun _ => False) w w' ∧ w'.heap.size = w.heap.size + 1 := by
  obtain ⟨es, clk, hb, hE⟩ := h
  have hb' : w.heap[b]? = some (.map es clk) := hb
  refine ⟨w.alloc (.mapIter (some b) clk #[] clk), ?_, ⟨es, clk, clk, #[], clk, hb.alloc _, hE, heap_alloc_new w _, hE.old, Nat.le_refl _, Nat.le_refl _, ?_⟩, (Keep.refl _ w).alloc _, by simp⟩
  · exact run_range_map w t kt e b es clk ht hb'
  · have : (leftOf es #[]).toList = es.toList := by simp [leftOf]
    rw [this]; exact hE.pairs

theorem run_nextM {w : World} {r b : Nat} {l left} (h : IIter w r b l left) (ty : TypeId) :
    (left = [] ∧ (Instr.next (.pointer (some ⟨r, 0, none⟩)) false ty).run P w = .ok (.tuple #[.bool false]) w) ∨
    ∃ p ∈ left, ∃ w', (Instr.next (.pointer (some ⟨r, 0, none⟩)) false ty).run P w = .ok (.tuple #[.bool true, .int .i64 p.1, p.2]) w' ∧ IIter w' r b l (left.filter (fun q => q.1 ≠ p.1)) ∧ Keep (· = r) w w' ∧ w'.heap.size = w.heap.size ∧
      (Instr.entry (.pointer (some ⟨r, 0, none⟩))).run P w' = .ok (.tuple #[.int .i64 p.1, p.2]) w' := by
  obtain ⟨es, clk, since, seen, c0, hb, hE, hr, hold, hsc, hsk, hleft⟩ := h
  have hne : r ≠ b := by rintro rfl; rw [MapAt, hr] at hb; cases hb
  rcases run_next_at (P := P) w ty r b since c0 seen es clk hr hb hold hsc with ⟨h0, hrun⟩ | ⟨e, he, w1, hal, hrun⟩
  · left
    refine ⟨?_, hrun⟩
    have : (leftOf es seen).toList = [] := by apply List.eq_nil_of_length_eq_zero; simpa using h0
    rw [this] at hleft
    simpa using hleft.symm
  · right
    obtain ⟨hem, hes⟩ := mem_left he
    obtain ⟨p, hp, hpe⟩ : ∃ p ∈ left, (e.key, e.val) = (Value.int .i64 p.1, p.2) := by
      have : (e.key, e.val) ∈ (leftOf es seen).toList.map (fun e => (e.key, e.val)) := List.mem_map.2 ⟨e, he, rfl⟩
      rw [hleft] at this
      obtain ⟨p, hp, h⟩ := List.mem_map.1 this
      exact ⟨p, hp, h.symm⟩
    simp only [Prod.mk.injEq] at hpe
    have hr1 : w1.heap[r]? = some (.mapIter (some b) since seen c0) := by rcases hal with rfl | rfl <;> exact hr
    have hb1 : w1.heap[b]? = some (.map es clk) := by rcases hal with rfl | rfl <;> exact hb
    have hset := MapKept.heap_set (o' := .mapIter (some b) since (seen.push e.born) clk) hr1
    have hb' : (setBlock w1 r (.mapIter (some b) since (seen.push e.born) clk)).heap[b]? = some (.map es clk) := (hset.2 b (fun e1 => hne e1.symm)).trans hb1
    rw [hpe.1, hpe.2] at hrun
    have hent := run_entry_at (P := P) _ r b since seen es clk e hset.1 hb' hem hE.born
    rw [hpe.1, hpe.2] at hent
    refine ⟨p, hp, _, hrun, ⟨es, clk, since, seen.push e.born, clk, hb', hE, hset.1, hold, hsk, hsk, ?_⟩, ?_, ?_, hent⟩
    · rw [left_push]
      refine filter_two _ _ hleft fun x hx q hq => ?_
      have hxm := (mem_left hx).1
      simp only [Prod.mk.injEq] at hq
      by_cases hqp : q.1 = p.1
      · have : x.key = e.key := by rw [hq.1, hpe.1, hqp]
        have hxe := hE.sameKey hxm hem this
        simp [hqp, hxe]
      · have : ¬ x.born = e.born := by
          intro hb
          have hxe := born_inj hE.born hxm hem hb
          rw [hxe, hpe.1] at hq
          simp only [Value.int.injEq, true_and] at hq
          exact hqp hq.1.symm
        simp [hqp, this]
    · rcases hal with rfl | rfl <;> exact ⟨rfl, rfl, rfl, by simp [setBlock], fun i _ hi => hset.2 i hi⟩
    · rcases hal with rfl | rfl <;> simp [setBlock]
end

section
variable {P : Program} {ops : Array Oper} {rest : List Oper} {o : Oper} {a : Act} {w : World} {Q : Exit → Act → World → Prop}

theorem wpList_look (hg : o.guard = none) (m x : Operand) (t : TypeId) (c : Bool) (hop : o.op = Op.lookup t m x c) (kt e : TypeId) (q : IntKind) (ht : P.underlying t = some (.map kt e)) (hk : P.underlying kt = some (.int q))
    (z : Value) (hz : ∀ w, (zeroValue e).run P w = .ok z w) (b : Nat) (l : List (Int × Value)) (hm : a.eval m = .map (some b)) (h : IMap w b l) (k : Int) (hx : a.eval x = .int .i64 k) (r : Value)
    (hr : (if c then .tuple #[(lookL l k).getD z, .bool (lookL l k).isSome] else (lookL l k).getD z) = r) (hK : wpList P ops Q rest (a.put o.dst r) w) : wpList P ops Q (o :: rest) a w := by
  refine wpList_plain hg fun K' hK' => ?_
  unfold Oper.wp execOp
  simp only [hop, hm, hx, Sem.run_bind, run_look ht hk (hz w) h k c, hr, Result.andThen_ok]
  exact hK' _ _ hK

theorem wpList_putM (hg : o.guard = none) (m x v : Operand) (t : TypeId) (hop : o.op = Op.mapUpdate t m x v) (kt e : TypeId) (q : IntKind) (ht : P.underlying t = some (.map kt e)) (hk : P.underlying kt = some (.int q))
    (b : Nat) (l : List (Int × Value)) (hm : a.eval m = .map (some b)) (h : IMap w b l) (k : Int) (hx : a.eval x = .int .i64 k) (u : Value) (hv : a.eval v = u)
    (hK : ∀ w', IMap w' b (putL l k u) → Keep (· = b) w w' → w'.heap.size = w.heap.size → wpList P ops Q rest (a.put o.dst undef) w') : wpList P ops Q (o :: rest) a w := by
  refine wpList_plain hg fun K' hK' => ?_
  obtain ⟨w', hrun, h1, h2, h3⟩ := run_putM ht hk h k u
  unfold Oper.wp execOp
  simp only [hop, hm, hx, hv, Sem.run_bind, hrun, Result.andThen_ok]
  exact hK' _ _ (hK w' h1 h2 h3)

theorem wpList_rangeM (hg : o.guard = none) (m : Operand) (t : TypeId) (hop : o.op = Op.range t m) (kt e : TypeId) (ht : P.underlying t = some (.map kt e)) (b : Nat) (l : List (Int × Value)) (hm : a.eval m = .map (some b)) (h : IMap w b l)
    (hK : ∀ w', IIter w' w.heap.size b l l → Keep (fun _ => False) w w' → w'.heap.size = w.heap.size + 1 → wpList P ops Q rest (a.put o.dst (.pointer (some ⟨w.heap.size, 0, none⟩))) w') : wpList P ops Q (o :: rest) a w := by
  refine wpList_plain hg fun K' hK' => ?_
  obtain ⟨w', hrun, h1, h2, h3⟩ := run_rangeM ht h
  unfold Oper.wp execOp
  simp only [hop, hm, Sem.run_bind, hrun, Result.andThen_ok]
  exact hK' _ _ (hK w' h1 h2 h3)

theorem wpList_nextDone (hg : o.guard = none) (it : Operand) (hop : o.op = Op.next it false) (r b : Nat) (l : List (Int × Value)) (hit : a.eval it = .pointer (some ⟨r, 0, none⟩)) (h : IIter w r b l [])
    (hK : wpList P ops Q rest (a.put o.dst (.tuple #[.bool false])) w) : wpList P ops Q (o :: rest) a w := by
  refine wpList_plain hg fun K' hK' => ?_
  rcases run_nextM (P := P) h o.type with ⟨_, hrun⟩ | ⟨p, hp, _⟩
  · unfold Oper.wp execOp
    simp only [hop, hit, Sem.run_bind, hrun, Result.andThen_ok]
    exact hK' _ _ hK
  · simp at hp

theorem wpList_nextMore (hg : o.guard = none) (it : Operand) (hop : o.op = Op.next it false) (r b : Nat) (l left : List (Int × Value)) (hit : a.eval it = .pointer (some ⟨r, 0, none⟩)) (h : IIter w r b l left) (hne : left ≠ [])
    (hK : ∀ p ∈ left, ∀ w', IIter w' r b l (left.filter (fun q => q.1 ≠ p.1)) → Keep (· = r) w w' → w'.heap.size = w.heap.size → (Instr.entry (.pointer (some ⟨r, 0, none⟩))).run P w' = .ok (.tuple #[.int .i64 p.1, p.2]) w' →
      wpList P ops Q rest (a.put o.dst (.tuple #[.bool true, .int .i64 p.1, p.2])) w') : wpList P ops Q (o :: rest) a w := by
  refine wpList_plain hg fun K' hK' => ?_
  rcases run_nextM (P := P) h o.type with ⟨h0, _⟩ | ⟨p, hp, w', hrun, h1, h2, h3, h4⟩
  · exact absurd h0 hne
  · unfold Oper.wp execOp
    simp only [hop, hit, Sem.run_bind, hrun, Result.andThen_ok]
    exact hK' _ _ (hK p hp w' h1 h2 h3 h4)

/-- One entry alone is to come. -/
theorem wpList_nextOne (hg : o.guard = none) (it : Operand) (hop : o.op = Op.next it false) (r b : Nat) (l : List (Int × Value)) (k : Int) (v : Value) (hit : a.eval it = .pointer (some ⟨r, 0, none⟩)) (h : IIter w r b l [(k, v)])
    (hK : ∀ w', IIter w' r b l [] → Keep (· = r) w w' → w'.heap.size = w.heap.size → (Instr.entry (.pointer (some ⟨r, 0, none⟩))).run P w' = .ok (.tuple #[.int .i64 k, v]) w' →
      wpList P ops Q rest (a.put o.dst (.tuple #[.bool true, .int .i64 k, v])) w') : wpList P ops Q (o :: rest) a w :=
  wpList_nextMore hg it hop r b l _ hit h (by simp) fun p hp w' h1 h2 h3 h4 => by
    simp only [List.mem_singleton] at hp
    subst hp
    exact hK w' (by simpa using h1) h2 h3 h4

/-- A map without entries, whatever its keys. -/
theorem wpList_rangeE (hg : o.guard = none) (m : Operand) (t : TypeId) (hop : o.op = Op.range t m) (kt e : TypeId) (ht : P.underlying t = some (.map kt e)) (b clk : Nat) (hm : a.eval m = .map (some b)) (h : MapAt w b #[] clk)
    (hK : ∀ w', IIter w' w.heap.size b [] [] → Keep (fun _ => False) w w' → w'.heap.size = w.heap.size + 1 → wpList P ops Q rest (a.put o.dst (.pointer (some ⟨w.heap.size, 0, none⟩))) w') : wpList P ops Q (o :: rest) a w :=
  wpList_rangeM hg m t hop kt e ht b [] hm ⟨#[], clk, h, ⟨rfl, by simp, by simp, by simp⟩⟩ hK

theorem wpList_mlen (hg : o.guard = none) (m : Operand) (t : TypeId) (hop : o.op = Op.call { callee := Callee.builtin Builtin.len, args := #[m], argTypes := #[t] }) (kt e : TypeId) (ht : P.underlying t = some (.map kt e)) (b : Nat) (l : List (Int × Value))
    (hm : a.eval m = .map (some b)) (h : IMap w b l) (hK : wpList P ops Q rest (a.put o.dst (.int .i64 l.length)) w) : wpList P ops Q (o :: rest) a w := by
  refine wpList_plain hg fun K' hK' => ?_
  obtain ⟨es, clk, hb, hE⟩ := h
  unfold Oper.wp
  simp [execOp, hop, resolve, invoke, builtin, hm, run_mlen ht hb o.type, Result.andThen]
  rw [hE.len]
  exact hK' _ _ hK
end

/-- What an int map of one entry, or none, holds: for the walk's own reckoning. -/
theorem IMap.empty {w : World} {b : Nat} (h : IMap w b []) : ∃ clk, MapAt w b #[] clk := by
  obtain ⟨es, clk, hb, hE⟩ := h
  have := hE.len
  obtain rfl : es = #[] := Array.eq_empty_of_size_eq_zero (by simpa using this)
  exact ⟨clk, hb⟩
theorem IMap.ofEmpty {w : World} {b clk : Nat} (h : MapAt w b #[] clk) : IMap w b [] := ⟨#[], clk, h, ⟨rfl, by simp, by simp, by simp⟩⟩
end Go.Proofs.YtnndkfhpifgaiaaGreat
