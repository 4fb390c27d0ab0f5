/-
  beguinagelaw25.start.
  beguinagelaw25.awake.
  The warden's calls, for the law: what was there ahead of the law is as it was.
-/
import Derived.Test.YtnndkfhpifgaiaaGreatM49
set_option linter.unusedVariables false
set_option linter.unusedSimpArgs false
namespace Go.Proofs.YtnndkfhpifgaiaaGreat
open Go.RowKit

theorem geomN_ok (n dn : Nat) (w : World) (hdn : dn = 48 + 32 * n) (h1 : n ≤ 1000) : Calls Tryz.prog 12 #[.int .i64 n] w (Ans (.agg #[.int .i64 dn, .int .i64 32]) w) := by
  have := geom_ok n w (by omega) (by omega)
  rwa [show (48 + 32 * (n : Int)) = (dn : Int) from by omega] at this
theorem zero25 : (Tryz.prog.info? 25).bind (·.zero) = some (.agg #[.int .i64 0, .int .i64 0]) := by kernel_rfl
theorem one25 (a b : Int) : (#[Value.int .i64 a, .int .i64 b] : Array Value).all (·.oneCell') = true := by simp [Value.oneCell']
theorem size25a (a b : Int) : (Tryz.prog.info? 25).map (·.size) = some (#[Value.int .i64 a, .int .i64 b] : Array Value).size := by kernel_rfl

section
variable {P : Program}
theorem results_mid {fn : Func} {p q r : Tmp} {ty : TypeId} (h : fn.results = #[.tmp q, .cell p ty, .tmp r]) (tmps : Array Value) (w : World) (g : Nat) (t : TypeId) (cs : Array Value) (d : TypeDesc)
    (hp : tmps.getD p undef = .pointer (some ⟨g, 0, none⟩)) (hg : At w g cs t) (hu : P.underlying ty = some d) (hd : (match d with | .struct _ | .array _ _ => true | _ => false) = true) (hi : (P.info? ty).map (·.size) = some cs.size) :
    (results fn tmps).run P w = .ok (.tuple #[tmps.getD q undef, .agg cs, tmps.getD r undef]) w := by
  have hp' : tmps[p]?.getD undef = .pointer (some ⟨g, 0, none⟩) := by simpa using hp
  simp [results, h, hp', asAddr, run_loadVar_row w g t ty cs (0, 0) d hg hu hd hi]
end

/-- What start leaves: a fresh warden of n segments. -/
def StartEnd (n dn : Nat) (w : World) (e : Ending) (w' : World) : Prop := ∃ d wp W F, e = .returned (.tuple #[.pointer (some ⟨d, 0, none⟩), .agg #[.int .i64 (dn : Int), .int .i64 32], .pointer (some ⟨wp, 0, none⟩)]) ∧ WarAt w' wp W T0 n dn 20 F ∧ W.num = 1 ∧ W.hs = hs0 ∧
  (∀ k, F k → w.heap.size ≤ k) ∧ w.heap.size ≤ wp ∧ w.heap.size ≤ W.lb ∧ Below w.heap.size w w'

set_option maxRecDepth 100000 in
set_option maxHeartbeats 4000000 in
theorem start0_ok (n dn : Nat) (w : World) (hdn : dn = 48 + 32 * n) (h0 : 8 ≤ n) (h1 : n ≤ 137) : Calls Tryz.prog 5 #[.int .i64 n] w (StartEnd n dn w) := by
  have hu25 := Tryz.underlying25
  have Hdn := Lib.hid hdn
  clear hdn
  go_enter Tryz.func5, Tryz.ntmps5
  go_wp2_with (first
    | (refine wpList_load_row rfl 25 _ rfl w2.heap.size rfl 25 #[.int .i64 (dn : Int), .int .i64 32] (0, 0) _ HG5.out hu25 rfl (size25a _ _) ?_)
    | (go_at_call 12; refine (geomN_ok n dn _ Hdn.out (by omega)).mono ?_; rintro e w2 ⟨rfl, hb⟩; have HR2 := Lib.hid (Below.at hb HR1.out HR1.out.lt); have HB2 := Lib.hid (HB1.out.trans (hb.mono HB1.out.size)); clear hb)
    | (go_at_call 13; refine (new_any dn _ (by have := Hdn.out; omega) (by have := Hdn.out; omega)).mono ?_; rintro e w5 ⟨d, F, rfl, hd, hF, hb⟩; have HD5 := Lib.hid hd; have HF5 := Lib.hid hF; have HB5 := Lib.hid (HB4.out.trans (hb.mono HB4.out.size)); have HG5 := Lib.hid (Below.at hb HG4.out HG4.out.lt); have HR5 := Lib.hid (Below.at hb HR4.out HR4.out.lt); have Hz4 := Lib.hid HG4.out.lt; clear hd hF hb g0)
    | (go_at_call 14; refine (format_ok d n dn 0 F w5 HD5.out Hdn.out h0 h1 (by decide)).mono ?_; rintro e w6 ⟨wp, W, F6, rfl, hW, hnum, hhs, hF6, hwp, hlb, hk6⟩)
    | (refine wpList_storeRow rfl 25 _ _ rfl rfl w2.heap.size #[.int .i64 (dn : Int), .int .i64 32] #[.int .i64 0, .int .i64 0] _ rfl rfl HZ3.out rfl (size25a _ _) (one25 _ _) ?_; intro w4 hA hk hs; have HG4 := Lib.hid hA; have HR4 := Lib.hid (hk.at HR3.out (by have := HR2.out.lt; omega)); have HB4 := Lib.hid (HB3.out.trans (hk.belowOf HB3.out.size (by intro b hb e; have := HB2.out.size; omega))); have g0 : w4.cell? ⟨w2.heap.size, 0, none⟩ = some (.int .i64 (dn : Int)) := hA.cell 0; clear hA hk hs)
    | (have HR2' := HR2; refine wpList_allocAt rfl 25 rfl _ zero25 ?_; clear HR2'; intro w3 hz hk hs; have HZ3 := Lib.hid hz; have HR3 := Lib.hid (hk.at HR2.out id); have HB3 := Lib.hid (HB2.out.trans (hk.below.mono HB2.out.size)); clear hz hk hs)
    | (refine wpList_allocAt rfl 25 rfl _ zero25 ?_; intro w1 hz hk hs; have HR1 := Lib.hid hz; have HB1 := Lib.hid hk.below; clear hz hk hs))
  have nF : ∀ b, w.heap.size ≤ b → b < w5.heap.size → b < w4.heap.size → ¬ F b := fun b h1 h2 h3 e => by have := HF5.out b e; omega
  have hk6' := hk6
  have hR6 := hk6.at HR5.out (nF _ (Nat.le_refl _) HR5.out.lt HR4.out.lt)
  have hG6 := hk6.at HG5.out (nF _ HB2.out.size HG5.out.lt HG4.out.lt)
  have rg : w6.rangeAt w2.heap.size 0 [.int .i64 (dn : Int), .int .i64 32] := hG6.range 0 2
  (try simp only [Act.put, List.setIfInBounds_toArray, List.set_cons_zero, List.set_cons_succ])
  refine wp_region_noPanic ?_
  refine T_region 5 (fun w' => w'.rangeAt w2.heap.size 0 [.int .i64 (dn : Int), .int .i64 32]) (by kernel_rfl) (by kernel_rfl) (by kernel_rfl) (by decide) (by kernel_rfl) rg (fun hHeld hU => ?_)
  refine T_take (i := 0) hU 24 ?_ rfl rfl (by decide) (by kernel_rfl) (by kernel_rfl) (fun _ _ _ h => h) (Or.inl ⟨by rfl, ?_⟩) hHeld ?_; rotate_left; (intro w hSw; (try dsimp only at hSw); go_simp); (try with_reducible rfl); clear hU; intro hU; (try simp only [Act.put, List.setIfInBounds_toArray, List.set_cons_zero, List.set_cons_succ])
  refine T_take (i := 1) hU 25 (.agg #[.int .i64 (dn : Int), .int .i64 32]) rfl rfl (by decide) (by kernel_rfl) (by kernel_rfl) (fun _ _ _ h => h) (yields_load _ _ _ _ rfl _ _ rfl w2.heap.size 0 rfl _ _ hu25 rfl (size25 _ _) (fun _ h => h)) hHeld ?_; clear hU; intro hU; (try simp only [Act.put, List.setIfInBounds_toArray, List.set_cons_zero, List.set_cons_succ])
  refine T_take (i := 2) hU 26 ?_ rfl rfl (by decide) (by kernel_rfl) (by kernel_rfl) (fun _ _ _ h => h) (Or.inl ⟨by rfl, ?_⟩) hHeld ?_; rotate_left; (intro w hSw; (try dsimp only at hSw); go_simp); (try with_reducible rfl); clear hU; intro hU; (try simp only [Act.put, List.setIfInBounds_toArray, List.set_cons_zero, List.set_cons_succ])
  refine T_take (i := 3) hU 2 ?_ rfl rfl (by decide) (by kernel_rfl) (by kernel_rfl) (fun _ _ _ h => h) (Or.inl ⟨by rfl, ?_⟩) hHeld ?_; rotate_left; (intro w hSw; (try dsimp only at hSw); go_simp); (try with_reducible rfl); clear hU; intro hU; (try simp only [Act.put, List.setIfInBounds_toArray, List.set_cons_zero, List.set_cons_succ])
  have hHeld4 := hHeld
  refine T_step (i := 4) hU rfl (by decide) (by kernel_rfl) (fun K hK => ?_); clear hU hHeld
  refine step_storeRow' rfl 25 _ _ rfl rfl w.heap.size 0 #[.int .i64 (dn : Int), .int .i64 32] _ 25 (by with_unfolding_all exact rfl) (by with_unfolding_all exact rfl) (show At w6.drew _ _ _ from hR6) (show 2 ≤ 2 by omega) (size25a _ _) (one25 _ _) (fun w7 hA7 hk7 hs7 => ?_)
  have n1 : ¬ (w2.heap.size = w.heap.size) := by have := HR2.out.lt; omega
  refine hK.out _ _ (hk7.keepRange n1 hHeld4) (fun hHeld hU => ?_); clear hK K; (try simp only [Act.put, List.setIfInBounds_toArray, List.set_cons_zero, List.set_cons_succ])
  refine T_last (N := 5) rfl (by kernel_rfl) (by kernel_rfl) (fun K hK => ?_); clear hU hHeld
  go_simp
  refine hK.out _ _ (NoPanic.normal ?_); clear hK K
  have hk7' : Keep (· = w.heap.size) w6 w7 := Keep.ofDrew hk7
  have z4 := HB4.out.size
  have z5 := HB5.out.size
  have z6 := hk6.size
  have zr := HR5.out.lt
  have hz45 : w4.heap.size ≤ w5.heap.size := by
    have h1 := HD5.out.lt d HD5.out.own
    have h2 := HF5.out d HD5.out.own
    omega
  have hF6' : ∀ k, F6 k → w4.heap.size ≤ k := fun k hf => (hF6 k hf).elim (HF5.out k) (fun e => by omega)
  go_wp2
  refine bodyPost_ret (v := .tuple #[.pointer (some ⟨d, 0, none⟩), .agg #[.int .i64 (dn : Int), .int .i64 32], .pointer (some ⟨wp, 0, none⟩)]) (results_mid Tryz.results5 _ _ w.heap.size _ #[.int .i64 (dn : Int), .int .i64 32] _ rfl hA7 hu25 rfl (size25a _ _)) rfl ⟨d, wp, W, F6, rfl, ?_, hnum, hhs, fun k hf => by have := hF6' k hf; omega, by omega, by omega, ?_⟩
  · exact hW.go rfl rfl rfl hW.hl hW.num hk7' (hk7'.at hW.cells (fun e => by have := HR4.out.lt; omega)) (hW.dk.kept hk7' (fun k hf e => by have := hF6' k hf; have := HR4.out.lt; omega)) (fun e => by have := HR4.out.lt; omega) (fun x hx b hb => by obtain rfl := List.eq_of_mem_replicate hx; simp [HV0, Value.ownBlock] at hb) (fun _ e => .inl e)
  · exact (HB5.out.trans (hk6.belowOf z5 (fun b hb hf => by have := HF5.out b hf; omega))).trans (hk7'.belowOf (by omega) (fun b hb e => by omega))
end Go.Proofs.YtnndkfhpifgaiaaGreat
namespace Go.Proofs.YtnndkfhpifgaiaaGreat
open Go.RowKit

theorem wfound_yes' (i : Int) (wp : Nat) (W : WarV) (T : List HV) (k m n dn Bd : Nat) (F : Nat → Prop) (x : HV) (w : World) (hi : i = (k : Int) + 1) (h : WarAt w wp W T n dn Bd F) (hx : T[k]? = some x) (hst : x.None) (hgen : x.gen < 65535) (hm : 8 ≤ m) (hm' : m ≤ 40) (hle : m ≤ (freeL n (allSegs T)).length) (hB : Bd + 5000 < 1000000000) (hN : W.num < 100000) :
    Calls Tryz.prog 6 #[.pointer (some ⟨wp, 0, none⟩), .int .i64 i, .agg (limV m)] w (WFEnd w wp W T k m n dn Bd F x) := by
  subst hi; exact wfound_yes wp W T k m n dn Bd F x w h hx hst hgen hm hm' hle hB hN
theorem wfound_no' (i : Int) (wp : Nat) (W : WarV) (T : List HV) (k m n dn Bd : Nat) (F : Nat → Prop) (x : HV) (w : World) (hi : i = (k : Int) + 1) (h : WarAt w wp W T n dn Bd F) (hx : T[k]? = some x) (hst : x.None) (hgen : x.gen < 65535) (hm : 8 ≤ m) (hm' : m ≤ 40) (hle : ¬ m ≤ (freeL n (allSegs T)).length) :
    Calls Tryz.prog 6 #[.pointer (some ⟨wp, 0, none⟩), .int .i64 i, .agg (limV m)] w (Ans (.int .i64 15) w) := by
  subst hi; exact wfound_no wp W T k m n dn Bd F x w h hx hst hgen hm hm' hle
theorem raze_okL (i : Int) (wp : Nat) (W : WarV) (T : List HV) (k n dn Bd : Nat) (F : Nat → Prop) (x : HV) (w : World) (hi : i = (k : Int) + 1) (h : WarAt w wp W T n dn Bd F) (hx : T[k]? = some x) (hst : x.st = 1) (hg : 0 ≤ x.gen ∧ x.gen ≤ 65535) (hB : Bd + 100 < 1000000000) (hN : W.num < 100000) :
    Calls Tryz.prog 11 #[.pointer (some ⟨wp, 0, none⟩), .int .i64 i, .bool false] w fun e w' => e = .returned (.int .i64 0) ∧ ∃ W' F', WarAt w' wp W' (T.set k (HVn x.gen)) n dn (Bd + 8) F' ∧ W'.num = W.num + 1 ∧ W'.lb = W.lb ∧ (∀ k, F' k → F k ∨ w.heap.size ≤ k) ∧ Keep (fun k => F k ∨ k = wp ∨ k = W.lb) w w' := by
  subst hi; exact raze_ok wp W T k n dn Bd F x w h hx hst hg hB hN
theorem spare_is (i : Int) (wp : Nat) (W : WarV) (T : List HV) (n dn Bd : Nat) (F : Nat → Prop) (w : World) (h : WarAt w wp W T n dn Bd F) (hi : i = n - (allSegs T).length) :
    Calls Tryz.prog 8 #[.pointer (some ⟨wp, 0, none⟩)] w (Ans (.int .i64 i) w) := by
  have := h.ok.count
  have e : i = ((freeL n (allSegs T)).length : Int) := by omega
  rw [e]
  exact spare_ok wp W T n dn Bd F w h
theorem wideV_ok (k : Int) (w : World) : Calls Tryz.prog 7 #[.int .i64 k] w (Ans (.agg (limV k)) w) := wide_ok k w

theorem segs_set_len {T : List HV} {k : Nat} {x : HV} (h : T[k]? = some x) (y : HV) : (allSegs (T.set k y)).length + x.segs.length = (allSegs T).length + y.segs.length := by
  rw [allSegs_set h, allSegs_get h]
  simp only [List.length_append]; omega

theorem whouse_yes' (i : Int) (wp b k : Nat) (w : World) (hi : i = (k : Int)) (h1 : 1 ≤ k) (h2 : k ≤ 16) (hc : w.cell? ⟨wp, 5 + k, none⟩ = some (.pointer (some ⟨b, 0, none⟩))) :
    Calls Tryz.prog 24 #[.pointer (some ⟨wp, 0, none⟩), .int .i64 i] w fun e w' => e = .returned (.tuple #[.pointer (some ⟨b, 0, none⟩), .bool true]) ∧ w' = w := by
  subst hi; exact whouse_yes wp b k w h1 h2 hc
theorem whouse_no' (i : Int) (wp k : Nat) (w : World) (hi : i = (k : Int)) (h1 : 1 ≤ k) (h2 : k ≤ 16) (hc : w.cell? ⟨wp, 5 + k, none⟩ = some (.pointer none)) :
    Calls Tryz.prog 24 #[.pointer (some ⟨wp, 0, none⟩), .int .i64 i] w fun e w' => e = .returned (.tuple #[.pointer none, .bool false]) ∧ w' = w := by
  subst hi; exact whouse_no wp k w h1 h2 hc
theorem HV0_gen : HV0.gen < 65535 := by decide
theorem afound_ok (wp : Nat) (W : WarV) (dn : Nat) (F : Nat → Prop) (w : World) (h : WarAt w wp W T0 8 dn 20 F) (hn : W.num = 1) (hh : W.hs = hs0) :
    Calls Tryz.prog 6 #[.pointer (some ⟨wp, 0, none⟩), .int .i64 1, .agg (limV 8)] w fun e w' => e = .returned (.int .i64 0) ∧ ∃ W1 F1 T1 b, WarAt w' wp W1 T1 8 dn 3020 F1 ∧ (allSegs T1).length = 8 ∧ w'.cell? ⟨wp, 5 + 1, none⟩ = some (.pointer (some ⟨b, 0, none⟩)) ∧ w'.cell? ⟨wp, 5 + 2, none⟩ = some (.pointer none) ∧ (∀ k, F1 k → F k ∨ w.heap.size ≤ k) ∧ Keep (fun k => F k ∨ k = wp ∨ k = W.lb) w w' := by
  have hfr : (freeL 8 (allSegs T0)).length = 8 := by decide
  refine (wfound_yes' 1 wp W T0 0 8 8 dn 20 F HV0 w rfl h rfl HV0_none HV0_gen (by decide) (by decide) (by rw [hfr]; decide) (by decide) (by rw [hn]; decide)).mono ?_
  rintro e w' ⟨rfl, W1, F1, b, sv, hW, hnum, hhs, hlb, hF, hk⟩
  refine ⟨rfl, W1, F1, _, b, hW, ?_, by rw [hW.ch 1, hhs, hh]; rfl, by rw [hW.ch 2, hhs, hh]; rfl, hF, hk⟩
  have h1 := segs_set_len (T := T0) (k := 0) (x := HV0) rfl (HVf (HV0.gen + 1) sv ((freeL 8 (allSegs T0)).take 8))
  have h2 : (HVf (HV0.gen + 1) sv ((freeL 8 (allSegs T0)).take 8)).segs.length = 8 := by show ((freeL 8 (allSegs T0)).take 8).length = 8; rw [List.length_take, hfr]; rfl
  have h3 : HV0.segs.length = 0 := rfl
  have h4 : (allSegs T0).length = 0 := rfl
  omega

set_option maxRecDepth 100000 in
set_option maxHeartbeats 4000000 in
theorem awake_ok (w : World) : Calls Tryz.prog 10 #[] w (Ans (.bool true) w) := by
  have hu25 := Tryz.underlying25
  obtain ⟨dn, hdn⟩ : ∃ dn, dn = 48 + 32 * 8 := ⟨_, rfl⟩
  have Hdn := Lib.hid hdn
  clear hdn
  have hT0 : (allSegs T0).length = 0 := rfl
  have HT0 := Lib.hid hT0
  clear hT0
  go_enter Tryz.func10, Tryz.ntmps10
  go_wp2_with (first
    | (refine wpList_load_row rfl 25 _ rfl w2.heap.size rfl 25 #[.int .i64 (dn : Int), .int .i64 32] (0, 0) _ HG5.out hu25 rfl (size25a _ _) ?_)
    | (go_at_call 12; refine (geomN_ok 8 dn _ Hdn.out (by omega)).mono ?_; rintro e w2 ⟨rfl, hb⟩; have HB2 := Lib.hid hb; clear hb)
    | (go_at_call 13; refine (new_any dn _ (by have := Hdn.out; omega) (by have := Hdn.out; omega)).mono ?_; rintro e w5 ⟨d, F, rfl, hd, hF, hb⟩; have HD5 := Lib.hid hd; have HF5 := Lib.hid hF; have HB5 := Lib.hid (HB4.out.trans (hb.mono HB4.out.size)); have HG5 := Lib.hid (Below.at hb HG4.out HG4.out.lt); have Hz4 := Lib.hid (And.intro HB4.out.size hb.size); clear hd hF hb g0)
    | (go_at_call 14; refine (format_ok d 8 dn 0 F w5 HD5.out Hdn.out (by decide) (by decide) (by decide)).mono ?_; rintro e w6 ⟨wp, W, F6, rfl, hW, hnum, hhs, hF6, hwp, hlb, hk6⟩; have HW6 := Lib.hid hW; have Hn6 := Lib.hid (And.intro hnum hhs); have HF6 := Lib.hid hF6; have HK6 := Lib.hid hk6; have Hwl := Lib.hid (And.intro hwp hlb); clear hW hnum hhs hF6 hk6 hwp hlb)
    | (go_at_call 8; refine (spare_is 0 wp W1 T1 8 dn _ F8 w8 HW8.out (by have := Hc8.out; omega)).mono ?_; rintro e w9 ⟨rfl, hb⟩; have HB9 := Lib.hid hb; have HW9 := Lib.hid (HW8.out.below hb); clear hb)
    | (go_at_call 8; refine (spare_is 8 wp W T0 8 dn _ F6 w6 HW6.out (by have := HT0.out; omega)).mono ?_; rintro e w7 ⟨rfl, hb⟩; have HB7 := Lib.hid hb; have HW7 := Lib.hid (HW6.out.below hb); clear hb)
    | (go_at_call 7; refine (wideV_ok 8 _).mono ?_; rintro e w77 ⟨rfl, hb⟩; have HB77 := Lib.hid (HB7.out.trans (hb.mono HB7.out.size)); have HW77 := Lib.hid (HW7.out.below hb); clear hb)
    | (go_at_call 6; refine (afound_ok wp W dn F6 w77 HW77.out Hn6.out.1 Hn6.out.2).mono ?_; rintro e w8 ⟨rfl, W1, F8, T1, hb, hW8, hc8, hc1, hc2, hF8, hk8⟩; have HW8 := Lib.hid hW8; have HF8 := Lib.hid hF8; have HK8 := Lib.hid hk8; have Hc8 := Lib.hid hc8; have Hcc := Lib.hid (And.intro hc1 hc2); clear hW8 hF8 hk8 hc8 hc1 hc2)
    | (go_at_call 24; refine (whouse_yes' _ wp hb 1 w8 (by decide) (by decide) (by decide) Hcc.out.1).mono ?_; rintro e w' ⟨rfl, hw'⟩; obtain rfl := hw'.symm)
    | (go_at_call 24; refine (whouse_no' _ wp 2 w8 (by decide) (by decide) (by decide) Hcc.out.2).mono ?_; rintro e w' ⟨rfl, hw'⟩; obtain rfl := hw'.symm)
    | (go_at_call 9; refine (houses_ok wp W1 T1 8 dn _ F8 w9 HW9.out).mono ?_; rintro e w10 ⟨u, Q, rfl, hP⟩; obtain ⟨pu, cu, rfl⟩ := ownsRow_slice hP.own; have HP := Lib.hid hP; clear hP)
    | (refine wpList_storeRow rfl 25 _ _ rfl rfl w2.heap.size #[.int .i64 (dn : Int), .int .i64 32] #[.int .i64 0, .int .i64 0] _ rfl rfl HZ3.out rfl (size25a _ _) (one25 _ _) ?_; intro w4 hA hk hs; have HG4 := Lib.hid hA; have HB4 := Lib.hid (HB3.out.trans (hk.belowOf HB3.out.size (by intro b hb e; have := HB2.out.size; omega))); have g0 : w4.cell? ⟨w2.heap.size, 0, none⟩ = some (.int .i64 (dn : Int)) := hA.cell 0; clear hA hk hs)
    | (refine wpList_allocAt rfl 25 rfl _ zero25 ?_; intro w3 hz hk hs; have HZ3 := Lib.hid hz; have HB3 := Lib.hid (HB2.out.trans (hk.below.mono HB2.out.size)); clear hz hk hs))
  go_ret
  have z := Hz4.out
  have z5 := HB5.out.size
  have zw := Hwl.out
  have k6 : Below w.heap.size w w6 := HB5.out.trans (HK6.out.belowOf z5 (fun b hb hf => by have := HF5.out b hf; omega))
  have k77 := k6.trans (HB77.out.mono k6.size)
  have k8 := k77.trans (HK8.out.belowOf k77.size (fun b hb e => by
    rcases e with e | e | e
    · rcases HF6.out b e with e | e
      · have := HF5.out b e; omega
      · omega
    · omega
    · omega))
  have k9 := k8.trans (HB9.out.mono k8.size)
  exact ⟨rfl, k9.trans (HP.out.below.mono k9.size)⟩
end Go.Proofs.YtnndkfhpifgaiaaGreat
namespace Go.Proofs.YtnndkfhpifgaiaaGreat
open Go.RowKit

/-- In w a warden of table T stands, in memory that came behind w0; what was in w0 is as it was. -/
def Law (w0 w : World) (wp n dn : Nat) (T : List HV) (Bd : Nat) (num : Int) : Prop := ∃ W F, WarAt w wp W T n dn Bd F ∧ W.num = num ∧ (∀ k, F k → w0.heap.size ≤ k) ∧ w0.heap.size ≤ wp ∧ w0.heap.size ≤ W.lb ∧ Below w0.heap.size w0 w

theorem Law.ok {w0 w : World} {wp n dn : Nat} {T : List HV} {Bd : Nat} {num : Int} (h : Law w0 w wp n dn T Bd num) : TOk T n := by obtain ⟨W, F, hW, _⟩ := h; exact hW.ok
theorem Law.frame {w0 w : World} {wp n dn : Nat} {T : List HV} {Bd : Nat} {num : Int} (h : Law w0 w wp n dn T Bd num) : Below w0.heap.size w0 w := by obtain ⟨W, F, _, _, _, _, _, hb⟩ := h; exact hb
theorem Law.below {w0 w w' : World} {wp n dn : Nat} {T : List HV} {Bd : Nat} {num : Int} (h : Law w0 w wp n dn T Bd num) (hb : Below w.heap.size w w') : Law w0 w' wp n dn T Bd num := by
  obtain ⟨W, F, hW, hn, hF, h1, h2, h3⟩ := h
  exact ⟨W, F, hW.below hb, hn, hF, h1, h2, h3.trans (hb.mono h3.size)⟩

theorem lfound_yes (i : Int) (w0 w : World) (wp n dn : Nat) (T : List HV) (k m Bd : Nat) (num : Int) (x : HV) (hi : i = (k : Int) + 1) (h : Law w0 w wp n dn T Bd num) (hx : T[k]? = some x) (hst : x.None) (hgen : x.gen < 65535) (hm : 8 ≤ m) (hm' : m ≤ 40) (hle : m + (allSegs T).length ≤ n) (hB : Bd + 5000 < 1000000000) (hN : num < 100000) :
    Calls Tryz.prog 6 #[.pointer (some ⟨wp, 0, none⟩), .int .i64 i, .agg (limV m)] w fun e w' => e = .returned (.int .i64 0) ∧ ∃ sv, Law w0 w' wp n dn (T.set k (HVf (x.gen + 1) sv ((freeL n (allSegs T)).take m))) (Bd + 3000) (num + 1) := by
  obtain ⟨W, F, hW, rfl, hF, h1, h2, h3⟩ := h
  have hc := hW.ok.count
  refine (wfound_yes' i wp W T k m n dn Bd F x w hi hW hx hst hgen hm hm' (by omega) hB hN).mono ?_
  rintro e w' ⟨rfl, W', F', b, sv, hW', hnum, hhs, hlb, hF', hk⟩
  have hz := h3.size
  refine ⟨rfl, sv, W', F', hW', hnum, fun k hf => (hF' k hf).elim (hF k) (fun e => by omega), h1, by rw [hlb]; exact h2, h3.trans (hk.belowOf hz (fun b hb e => ?_))⟩
  rcases e with e | e | e
  · have := hF b e; omega
  · omega
  · omega
theorem lfound_no (i : Int) (w0 w : World) (wp n dn : Nat) (T : List HV) (k m Bd : Nat) (num : Int) (x : HV) (hi : i = (k : Int) + 1) (h : Law w0 w wp n dn T Bd num) (hx : T[k]? = some x) (hst : x.None) (hgen : x.gen < 65535) (hm : 8 ≤ m) (hm' : m ≤ 40) (hle : ¬ m + (allSegs T).length ≤ n) :
    Calls Tryz.prog 6 #[.pointer (some ⟨wp, 0, none⟩), .int .i64 i, .agg (limV m)] w fun e w' => e = .returned (.int .i64 15) ∧ Law w0 w' wp n dn T Bd num := by
  obtain ⟨W, F, hW, hn, hF, h1, h2, h3⟩ := h
  have hc := hW.ok.count
  refine (wfound_no' i wp W T k m n dn Bd F x w hi hW hx hst hgen hm hm' (by omega)).mono ?_
  rintro e w' ⟨rfl, hb⟩
  exact ⟨rfl, W, F, hW.below hb, hn, hF, h1, h2, h3.trans (hb.mono h3.size)⟩
theorem lraze (i : Int) (w0 w : World) (wp n dn : Nat) (T : List HV) (k Bd : Nat) (num : Int) (x : HV) (hi : i = (k : Int) + 1) (h : Law w0 w wp n dn T Bd num) (hx : T[k]? = some x) (hst : x.st = 1) (hg : 0 ≤ x.gen ∧ x.gen ≤ 65535) (hB : Bd + 100 < 1000000000) (hN : num < 100000) :
    Calls Tryz.prog 11 #[.pointer (some ⟨wp, 0, none⟩), .int .i64 i, .bool false] w fun e w' => e = .returned (.int .i64 0) ∧ Law w0 w' wp n dn (T.set k (HVn x.gen)) (Bd + 8) (num + 1) := by
  obtain ⟨W, F, hW, rfl, hF, h1, h2, h3⟩ := h
  have hlb : ∀ W' : WarV, True := fun _ => trivial
  refine (raze_okL i wp W T k n dn Bd F x w hi hW hx hst hg hB hN).mono ?_
  rintro e w' ⟨rfl, W', F', hW', hnum, hlb', hF', hk⟩
  have hz := h3.size
  refine ⟨rfl, W', F', hW', hnum, fun k hf => (hF' k hf).elim (hF k) (fun e => by omega), h1, by rw [hlb']; exact h2, h3.trans (hk.belowOf hz (fun b hb e => ?_))⟩
  rcases e with e | e | e
  · have := hF b e; omega
  · omega
  · omega
theorem lspare (i : Int) (w0 w : World) (wp n dn : Nat) (T : List HV) (Bd : Nat) (num : Int) (h : Law w0 w wp n dn T Bd num) (hi : i = n - (allSegs T).length) :
    Calls Tryz.prog 8 #[.pointer (some ⟨wp, 0, none⟩)] w fun e w' => e = .returned (.int .i64 i) ∧ Law w0 w' wp n dn T Bd num := by
  obtain ⟨W, F, hW, hn, hF, h1, h2, h3⟩ := h
  refine (spare_is i wp W T n dn Bd F w hW hi).mono ?_
  rintro e w' ⟨rfl, hb⟩
  exact ⟨rfl, W, F, hW.below hb, hn, hF, h1, h2, h3.trans (hb.mono h3.size)⟩
theorem lhouses (w0 w : World) (wp n dn : Nat) (T : List HV) (Bd : Nat) (num : Int) (h : Law w0 w wp n dn T Bd num) :
    Calls Tryz.prog 9 #[.pointer (some ⟨wp, 0, none⟩)] w fun e w' => ∃ p c Q, e = .returned (.slice p 16 c) ∧ HsPart w w' T 16 (.slice p 16 c) Q ∧ Law w0 w' wp n dn T Bd num := by
  obtain ⟨W, F, hW, hn, hF, h1, h2, h3⟩ := h
  refine (houses_ok wp W T n dn Bd F w hW).mono ?_
  rintro e w' ⟨u, Q, rfl, hP⟩
  obtain ⟨p, c, rfl⟩ := ownsRow_slice hP.own
  exact ⟨p, c, Q, rfl, hP, W, F, hW.below hP.below, hn, hF, h1, h2, h3.trans (hP.below.mono h3.size)⟩
theorem lstart (n dn : Nat) (w0 w : World) (hdn : dn = 48 + 32 * n) (h0 : 8 ≤ n) (h1 : n ≤ 137) (hb : Below w0.heap.size w0 w) : Calls Tryz.prog 5 #[.int .i64 n] w fun e w' => ∃ d wp, e = .returned (.tuple #[.pointer (some ⟨d, 0, none⟩), .agg #[.int .i64 (dn : Int), .int .i64 32], .pointer (some ⟨wp, 0, none⟩)]) ∧ Law w0 w' wp n dn T0 20 1 := by
  refine (start0_ok n dn w hdn h0 h1).mono ?_
  rintro e w' ⟨d, wp, W, F, rfl, hW, hn, hhs, hF, hwp, hlb, hb'⟩
  have hz := hb.size
  exact ⟨d, wp, rfl, W, F, hW, hn, fun k hf => by have := hF k hf; omega, by omega, by omega, hb.trans (hb'.mono hz)⟩

/-- The first m houses are there, kk segments each; no others. -/
def Shape (T : List HV) (m kk : Nat) : Prop := ∀ (i : Nat) (x : HV), T[i]? = some x → (i < m → x.st = 1 ∧ x.segs.length = kk ∧ x.gen = 1) ∧ (m ≤ i → x.None ∧ x.gen = 0)
theorem Shape.start (kk : Nat) : Shape T0 0 kk := by
  intro i x hx
  obtain rfl := List.eq_of_mem_replicate (List.mem_of_getElem? hx)
  exact ⟨fun h => by omega, fun _ => ⟨HV0_none, rfl⟩⟩
theorem Shape.next {T : List HV} {m kk : Nat} {x y : HV} (h : Shape T m kk) (hx : T[m]? = some x) (h1 : y.st = 1) (h2 : y.segs.length = kk) (h3 : y.gen = 1) : Shape (T.set m y) (m + 1) kk := by
  intro i z hz
  rcases Decidable.em (i = m) with rfl | hne
  · have : z = y := by
      have hl := (List.getElem?_eq_some_iff.1 hx).1
      rw [List.getElem?_set, if_pos rfl, if_pos hl] at hz
      exact (Option.some.inj hz).symm
    subst this
    exact ⟨fun _ => ⟨h1, h2, h3⟩, fun h => by omega⟩
  · rw [List.getElem?_set, if_neg (fun e => hne e.symm)] at hz
    have := h i z hz
    exact ⟨fun h => this.1 (by omega), fun h => this.2 (by omega)⟩
theorem Shape.count {T : List HV} {m kk : Nat} (h : Shape T m kk) (hl : T.length = 16) (hm : m ≤ 16) : (allSegs T).length = m * kk := by
  have key : ∀ i, i ≤ 16 → (allSegs (T.take i)).length = min i m * kk := by
    intro i
    induction i with
    | zero => intro _; simp [allSegs]
    | succ i ih =>
      intro hi
      obtain ⟨x, hx⟩ : ∃ x, T[i]? = some x := ⟨_, List.getElem?_eq_getElem (by omega)⟩
      rw [allSegs_take T i x hx, List.length_append, ih (by omega)]
      rcases Nat.lt_or_ge i m with hlt | hge
      · rw [((h i x hx).1 hlt).2.1, show min i m = i from by omega, show min (i + 1) m = i + 1 from by omega, Nat.succ_mul]
      · have hn := ((h i x hx).2 hge).1
        rw [hn.2.2.2.2.2.2.2.2.2.2, show min i m = m from by omega, show min (i + 1) m = m from by omega]
        rfl
  have := key 16 (by omega)
  rw [List.take_of_length_le (by omega), show min 16 m = m from by omega] at this
  exact this
end Go.Proofs.YtnndkfhpifgaiaaGreat
