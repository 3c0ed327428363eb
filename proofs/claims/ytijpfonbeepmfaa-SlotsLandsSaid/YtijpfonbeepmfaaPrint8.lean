-- Written by ownprint.py (this session's) with the kit's print.py: functions, contracts, rows; Lean checks it.
import Derived.Test.YtijpfonbeepmfaaPrint0
import Derived.Test.YtijpfonbeepmfaaHSq
namespace Go.Proofs.Ytijpfonbeepmfaa.Print
open Go.RowKit Go.Proofs.YtijpfonbeepmfaaW.PrintWords Go.Proofs.YtijpfonbeepmfaaW.PrintLast Go.Proofs.YtijpfonbeepmfaaW.PrintMore
attribute [local go_sem] max2_int min2_int max_two min_two max_three min_three max_four min_four   -- for this text's walks alone
set_option linter.unusedVariables false
set_option linter.unusedSimpArgs false
mutual
def fencepostref07_right.j0 : Nat → Int → Int → Bool → List Int → List (List (S53)) → Int → Int → Int → Int → Int → Option (Bool)
 | 0, _, _, _, _, _, _, _, _, _, _ => none
 | k + 1, x2, x3, x19, x147000, x147001, x148000, x148001, x148002, x148003, x148004 => if x19 = true then (some false) else (if x148000 = 1 then (fencepostref07_right.j1 k x2 x3 true x147000 x147001 x148000 x148001 x148002 x148003 x148004) else (if x148000 = 2 then (fencepostref07_right.j1 k x2 x3 true x147000 x147001 x148000 x148001 x148002 x148003 x148004) else (if x148000 = 3 then (fencepostref07_right.j1 k x2 x3 true x147000 x147001 x148000 x148001 x148002 x148003 x148004) else (if x148000 = 5 then (fencepostref07_right.j1 k x2 x3 true x147000 x147001 x148000 x148001 x148002 x148003 x148004) else (fencepostref07_right.j1 k x2 x3 (x148000 == 7) x147000 x147001 x148000 x148001 x148002 x148003 x148004)))))
def fencepostref07_right.j1 : Nat → Int → Int → Bool → List Int → List (List (S53)) → Int → Int → Int → Int → Int → Option (Bool)
 | 0, _, _, _, _, _, _, _, _, _, _ => none
 | k + 1, x2, x3, x9, x147000, x147001, x148000, x148001, x148002, x148003, x148004 => if x148000 = 2 then (fencepostref07_right.j2 k x2 x3 x9 true x147000 x147001 x148000 x148001 x148002 x148003 x148004) else (if x148000 = 3 then (fencepostref07_right.j2 k x2 x3 x9 true x147000 x147001 x148000 x148001 x148002 x148003 x148004) else (if x148000 = 4 then (fencepostref07_right.j2 k x2 x3 x9 true x147000 x147001 x148000 x148001 x148002 x148003 x148004) else (fencepostref07_right.j2 k x2 x3 x9 (x148000 == 5) x147000 x147001 x148000 x148001 x148002 x148003 x148004)))
def fencepostref07_right.j2 : Nat → Int → Int → Bool → Bool → List Int → List (List (S53)) → Int → Int → Int → Int → Int → Option (Bool)
 | 0, _, _, _, _, _, _, _, _, _, _, _ => none
 | k + 1, x2, x3, x9, x10, x147000, x147001, x148000, x148001, x148002, x148003, x148004 => if x148000 = 1 then (fencepostref07_right.j3 k x2 x3 x9 x10 true x147000 x147001 x148000 x148001 x148002 x148003 x148004) else (if x148000 = 4 then (fencepostref07_right.j3 k x2 x3 x9 x10 true x147000 x147001 x148000 x148001 x148002 x148003 x148004) else (fencepostref07_right.j3 k x2 x3 x9 x10 (x148000 == 7) x147000 x147001 x148000 x148001 x148002 x148003 x148004))
def fencepostref07_right.j3 : Nat → Int → Int → Bool → Bool → Bool → List Int → List (List (S53)) → Int → Int → Int → Int → Int → Option (Bool)
 | 0, _, _, _, _, _, _, _, _, _, _, _, _ => none
 | k + 1, x2, x3, x9, x10, x11, x147000, x147001, x148000, x148001, x148002, x148003, x148004 => if x148001 < 0 then (fencepostref07_right.j4 k x2 x3 x10 true x147000 x147001 x148000 x148001 x148002 x148003 x148004) else (if x148001 > 3 then (fencepostref07_right.j4 k x2 x3 x10 true x147000 x147001 x148000 x148001 x148002 x148003 x148004) else (if x9 = true then (if x11 = true then (fencepostref07_right.j4 k x2 x3 x10 false x147000 x147001 x148000 x148001 x148002 x148003 x148004) else (fencepostref07_right.j4 k x2 x3 x10 (x148003 != 0) x147000 x147001 x148000 x148001 x148002 x148003 x148004)) else (if x148001 = 0 then (if x11 = true then (fencepostref07_right.j4 k x2 x3 x10 false x147000 x147001 x148000 x148001 x148002 x148003 x148004) else (fencepostref07_right.j4 k x2 x3 x10 (x148003 != 0) x147000 x147001 x148000 x148001 x148002 x148003 x148004)) else (fencepostref07_right.j4 k x2 x3 x10 true x147000 x147001 x148000 x148001 x148002 x148003 x148004))))
def fencepostref07_right.j4 : Nat → Int → Int → Bool → Bool → List Int → List (List (S53)) → Int → Int → Int → Int → Int → Option (Bool)
 | 0, _, _, _, _, _, _, _, _, _, _, _ => none
 | k + 1, x2, x3, x10, x99, x147000, x147001, x148000, x148001, x148002, x148003, x148004 => if x99 = true then (some false) else (if x10 = true then (if x148002 < 0 then (fencepostref07_right.j5 k x2 x3 true x148000 x148001 x148002 x148003 x148004) else (if x148002 ≥ (x147000.length : Int) then (fencepostref07_right.j5 k x2 x3 true x148000 x148001 x148002 x148003 x148004) else (fencepostref07_right.j5 k x2 x3 false x148000 x148001 x148002 x148003 x148004))) else (fencepostref07_right.j5 k x2 x3 (x148002 != 0) x148000 x148001 x148002 x148003 x148004))
def fencepostref07_right.j5 : Nat → Int → Int → Bool → Int → Int → Int → Int → Int → Option (Bool)
 | 0, _, _, _, _, _, _, _, _ => none
 | k + 1, x2, x3, x122, x148000, x148001, x148002, x148003, x148004 => if x122 = true then (some false) else (if x148000 ≥ 8 then (if x148004 > x2 then (some (decide (x148004 ≤ x3))) else (some false)) else (some (x148004 == 0)))
end
def fencepostref07_right.f (k : Nat) (l0_0 : List Int) (l0_1 : List (List (S53))) (a1_0 : Int) (a1_1 : Int) (a1_2 : Int) (a1_3 : Int) (a1_4 : Int) (a2 : Int) (a3 : Int) : Option (Bool) := if a1_0 < 1 then (fencepostref07_right.j0 k a2 a3 true l0_0 l0_1 a1_0 a1_1 a1_2 a1_3 a1_4) else (fencepostref07_right.j0 k a2 a3 (decide (a1_0 > 10)) l0_0 l0_1 a1_0 a1_1 a1_2 a1_3 a1_4)
theorem fencepostref07_right.mono_l : ∀ k, (∀ y0 y1 y2 y3 y4 y5 y6 y7 y8 y9, LeO (fencepostref07_right.j0 k y0 y1 y2 y3 y4 y5 y6 y7 y8 y9) (fencepostref07_right.j0 (k + 1) y0 y1 y2 y3 y4 y5 y6 y7 y8 y9)) ∧ (∀ y0 y1 y2 y3 y4 y5 y6 y7 y8 y9, LeO (fencepostref07_right.j1 k y0 y1 y2 y3 y4 y5 y6 y7 y8 y9) (fencepostref07_right.j1 (k + 1) y0 y1 y2 y3 y4 y5 y6 y7 y8 y9)) ∧ (∀ y0 y1 y2 y3 y4 y5 y6 y7 y8 y9 y10, LeO (fencepostref07_right.j2 k y0 y1 y2 y3 y4 y5 y6 y7 y8 y9 y10) (fencepostref07_right.j2 (k + 1) y0 y1 y2 y3 y4 y5 y6 y7 y8 y9 y10)) ∧ (∀ y0 y1 y2 y3 y4 y5 y6 y7 y8 y9 y10 y11, LeO (fencepostref07_right.j3 k y0 y1 y2 y3 y4 y5 y6 y7 y8 y9 y10 y11) (fencepostref07_right.j3 (k + 1) y0 y1 y2 y3 y4 y5 y6 y7 y8 y9 y10 y11)) ∧ (∀ y0 y1 y2 y3 y4 y5 y6 y7 y8 y9 y10, LeO (fencepostref07_right.j4 k y0 y1 y2 y3 y4 y5 y6 y7 y8 y9 y10) (fencepostref07_right.j4 (k + 1) y0 y1 y2 y3 y4 y5 y6 y7 y8 y9 y10)) ∧ (∀ y0 y1 y2 y3 y4 y5 y6 y7, LeO (fencepostref07_right.j5 k y0 y1 y2 y3 y4 y5 y6 y7) (fencepostref07_right.j5 (k + 1) y0 y1 y2 y3 y4 y5 y6 y7))
 | 0 => ⟨fun _ _ _ _ _ _ _ _ _ _ r h => by simp [fencepostref07_right.j0] at h, fun _ _ _ _ _ _ _ _ _ _ r h => by simp [fencepostref07_right.j1] at h, fun _ _ _ _ _ _ _ _ _ _ _ r h => by simp [fencepostref07_right.j2] at h, fun _ _ _ _ _ _ _ _ _ _ _ _ r h => by simp [fencepostref07_right.j3] at h, fun _ _ _ _ _ _ _ _ _ _ _ r h => by simp [fencepostref07_right.j4] at h, fun _ _ _ _ _ _ _ _ r h => by simp [fencepostref07_right.j5] at h⟩
 | k + 1 => by
  obtain ⟨ih0, ih1, ih2, ih3, ih4, ih5⟩ := fencepostref07_right.mono_l k
  refine ⟨?_, ?_, ?_, ?_, ?_, ?_⟩
  ·intro y0 y1 y2 y3 y4 y5 y6 y7 y8 y9
   unfold fencepostref07_right.j0
   repeat' first
   | (with_reducible exact ih0 _ _ _ _ _ _ _ _ _ _)
   | (with_reducible exact ih1 _ _ _ _ _ _ _ _ _ _)
   | (with_reducible exact ih2 _ _ _ _ _ _ _ _ _ _ _)
   | (with_reducible exact ih3 _ _ _ _ _ _ _ _ _ _ _ _)
   | (with_reducible exact ih4 _ _ _ _ _ _ _ _ _ _ _)
   | (with_reducible exact ih5 _ _ _ _ _ _ _ _)
   | (with_reducible exact LeO.refl _)
   | (with_reducible exact LeO.none _)
   | (with_reducible refine LeO.ite ?_ ?_)
   | (with_reducible refine LeO.bind ?_ (fun _ => ?_))
   | exact ih0 _ _ _ _ _ _ _ _ _ _
   | exact ih1 _ _ _ _ _ _ _ _ _ _
   | exact ih2 _ _ _ _ _ _ _ _ _ _ _
   | exact ih3 _ _ _ _ _ _ _ _ _ _ _ _
   | exact ih4 _ _ _ _ _ _ _ _ _ _ _
   | exact ih5 _ _ _ _ _ _ _ _
   | exact LeO.none _
   | refine LeO.ite ?_ ?_
   | refine LeO.bind ?_ (fun _ => ?_)
  ·intro y0 y1 y2 y3 y4 y5 y6 y7 y8 y9
   unfold fencepostref07_right.j1
   repeat' first
   | (with_reducible exact ih0 _ _ _ _ _ _ _ _ _ _)
   | (with_reducible exact ih1 _ _ _ _ _ _ _ _ _ _)
   | (with_reducible exact ih2 _ _ _ _ _ _ _ _ _ _ _)
   | (with_reducible exact ih3 _ _ _ _ _ _ _ _ _ _ _ _)
   | (with_reducible exact ih4 _ _ _ _ _ _ _ _ _ _ _)
   | (with_reducible exact ih5 _ _ _ _ _ _ _ _)
   | (with_reducible exact LeO.refl _)
   | (with_reducible exact LeO.none _)
   | (with_reducible refine LeO.ite ?_ ?_)
   | (with_reducible refine LeO.bind ?_ (fun _ => ?_))
   | exact ih0 _ _ _ _ _ _ _ _ _ _
   | exact ih1 _ _ _ _ _ _ _ _ _ _
   | exact ih2 _ _ _ _ _ _ _ _ _ _ _
   | exact ih3 _ _ _ _ _ _ _ _ _ _ _ _
   | exact ih4 _ _ _ _ _ _ _ _ _ _ _
   | exact ih5 _ _ _ _ _ _ _ _
   | exact LeO.none _
   | refine LeO.ite ?_ ?_
   | refine LeO.bind ?_ (fun _ => ?_)
  ·intro y0 y1 y2 y3 y4 y5 y6 y7 y8 y9 y10
   unfold fencepostref07_right.j2
   repeat' first
   | (with_reducible exact ih0 _ _ _ _ _ _ _ _ _ _)
   | (with_reducible exact ih1 _ _ _ _ _ _ _ _ _ _)
   | (with_reducible exact ih2 _ _ _ _ _ _ _ _ _ _ _)
   | (with_reducible exact ih3 _ _ _ _ _ _ _ _ _ _ _ _)
   | (with_reducible exact ih4 _ _ _ _ _ _ _ _ _ _ _)
   | (with_reducible exact ih5 _ _ _ _ _ _ _ _)
   | (with_reducible exact LeO.refl _)
   | (with_reducible exact LeO.none _)
   | (with_reducible refine LeO.ite ?_ ?_)
   | (with_reducible refine LeO.bind ?_ (fun _ => ?_))
   | exact ih0 _ _ _ _ _ _ _ _ _ _
   | exact ih1 _ _ _ _ _ _ _ _ _ _
   | exact ih2 _ _ _ _ _ _ _ _ _ _ _
   | exact ih3 _ _ _ _ _ _ _ _ _ _ _ _
   | exact ih4 _ _ _ _ _ _ _ _ _ _ _
   | exact ih5 _ _ _ _ _ _ _ _
   | exact LeO.none _
   | refine LeO.ite ?_ ?_
   | refine LeO.bind ?_ (fun _ => ?_)
  ·intro y0 y1 y2 y3 y4 y5 y6 y7 y8 y9 y10 y11
   unfold fencepostref07_right.j3
   repeat' first
   | (with_reducible exact ih0 _ _ _ _ _ _ _ _ _ _)
   | (with_reducible exact ih1 _ _ _ _ _ _ _ _ _ _)
   | (with_reducible exact ih2 _ _ _ _ _ _ _ _ _ _ _)
   | (with_reducible exact ih3 _ _ _ _ _ _ _ _ _ _ _ _)
   | (with_reducible exact ih4 _ _ _ _ _ _ _ _ _ _ _)
   | (with_reducible exact ih5 _ _ _ _ _ _ _ _)
   | (with_reducible exact LeO.refl _)
   | (with_reducible exact LeO.none _)
   | (with_reducible refine LeO.ite ?_ ?_)
   | (with_reducible refine LeO.bind ?_ (fun _ => ?_))
   | exact ih0 _ _ _ _ _ _ _ _ _ _
   | exact ih1 _ _ _ _ _ _ _ _ _ _
   | exact ih2 _ _ _ _ _ _ _ _ _ _ _
   | exact ih3 _ _ _ _ _ _ _ _ _ _ _ _
   | exact ih4 _ _ _ _ _ _ _ _ _ _ _
   | exact ih5 _ _ _ _ _ _ _ _
   | exact LeO.none _
   | refine LeO.ite ?_ ?_
   | refine LeO.bind ?_ (fun _ => ?_)
  ·intro y0 y1 y2 y3 y4 y5 y6 y7 y8 y9 y10
   unfold fencepostref07_right.j4
   repeat' first
   | (with_reducible exact ih0 _ _ _ _ _ _ _ _ _ _)
   | (with_reducible exact ih1 _ _ _ _ _ _ _ _ _ _)
   | (with_reducible exact ih2 _ _ _ _ _ _ _ _ _ _ _)
   | (with_reducible exact ih3 _ _ _ _ _ _ _ _ _ _ _ _)
   | (with_reducible exact ih4 _ _ _ _ _ _ _ _ _ _ _)
   | (with_reducible exact ih5 _ _ _ _ _ _ _ _)
   | (with_reducible exact LeO.refl _)
   | (with_reducible exact LeO.none _)
   | (with_reducible refine LeO.ite ?_ ?_)
   | (with_reducible refine LeO.bind ?_ (fun _ => ?_))
   | exact ih0 _ _ _ _ _ _ _ _ _ _
   | exact ih1 _ _ _ _ _ _ _ _ _ _
   | exact ih2 _ _ _ _ _ _ _ _ _ _ _
   | exact ih3 _ _ _ _ _ _ _ _ _ _ _ _
   | exact ih4 _ _ _ _ _ _ _ _ _ _ _
   | exact ih5 _ _ _ _ _ _ _ _
   | exact LeO.none _
   | refine LeO.ite ?_ ?_
   | refine LeO.bind ?_ (fun _ => ?_)
  ·intro y0 y1 y2 y3 y4 y5 y6 y7
   unfold fencepostref07_right.j5
   repeat' first
   | (with_reducible exact ih0 _ _ _ _ _ _ _ _ _ _)
   | (with_reducible exact ih1 _ _ _ _ _ _ _ _ _ _)
   | (with_reducible exact ih2 _ _ _ _ _ _ _ _ _ _ _)
   | (with_reducible exact ih3 _ _ _ _ _ _ _ _ _ _ _ _)
   | (with_reducible exact ih4 _ _ _ _ _ _ _ _ _ _ _)
   | (with_reducible exact ih5 _ _ _ _ _ _ _ _)
   | (with_reducible exact LeO.refl _)
   | (with_reducible exact LeO.none _)
   | (with_reducible refine LeO.ite ?_ ?_)
   | (with_reducible refine LeO.bind ?_ (fun _ => ?_))
   | exact ih0 _ _ _ _ _ _ _ _ _ _
   | exact ih1 _ _ _ _ _ _ _ _ _ _
   | exact ih2 _ _ _ _ _ _ _ _ _ _ _
   | exact ih3 _ _ _ _ _ _ _ _ _ _ _ _
   | exact ih4 _ _ _ _ _ _ _ _ _ _ _
   | exact ih5 _ _ _ _ _ _ _ _
   | exact LeO.none _
   | refine LeO.ite ?_ ?_
   | refine LeO.bind ?_ (fun _ => ?_)
theorem fencepostref07_right.mono : ∀ a0 a1 a2 a3 a4 a5 a6 a7 a8 k, LeO (fencepostref07_right.f k a0 a1 a2 a3 a4 a5 a6 a7 a8) (fencepostref07_right.f (k + 1) a0 a1 a2 a3 a4 a5 a6 a7 a8) := by
 intro a0 a1 a2 a3 a4 a5 a6 a7 a8 k
 obtain ⟨ih0, ih1, ih2, ih3, ih4, ih5⟩ := fencepostref07_right.mono_l k
 unfold fencepostref07_right.f
 repeat' first
  | (with_reducible exact ih0 _ _ _ _ _ _ _ _ _ _)
  | (with_reducible exact ih1 _ _ _ _ _ _ _ _ _ _)
  | (with_reducible exact ih2 _ _ _ _ _ _ _ _ _ _ _)
  | (with_reducible exact ih3 _ _ _ _ _ _ _ _ _ _ _ _)
  | (with_reducible exact ih4 _ _ _ _ _ _ _ _ _ _ _)
  | (with_reducible exact ih5 _ _ _ _ _ _ _ _)
  | (with_reducible exact LeO.refl _)
  | (with_reducible exact LeO.none _)
  | (with_reducible refine LeO.ite ?_ ?_)
  | (with_reducible refine LeO.bind ?_ (fun _ => ?_))
  | exact ih0 _ _ _ _ _ _ _ _ _ _
  | exact ih1 _ _ _ _ _ _ _ _ _ _
  | exact ih2 _ _ _ _ _ _ _ _ _ _ _
  | exact ih3 _ _ _ _ _ _ _ _ _ _ _ _
  | exact ih4 _ _ _ _ _ _ _ _ _ _ _
  | exact ih5 _ _ _ _ _ _ _ _
  | exact LeO.none _
  | refine LeO.ite ?_ ?_
  | refine LeO.bind ?_ (fun _ => ?_)
set_option maxHeartbeats 8000000 in
set_option maxRecDepth 100000 in
theorem fencepostref07_right.calls (k : Nat) (A0_0 : Option Addr) (c0_0 : Nat) (l0_0 : List Int) (A0_1 : Option Addr) (c0_1 : Nat) (l0_1 : List (List (S53))) (a1_0 : Int) (a1_1 : Int) (a1_2 : Int) (a1_3 : Int) (a1_4 : Int) (a2 : Int) (a3 : Int) (r : Bool) (w : World) (hr0_0 : Kd.C (Kd.int .i64) w A0_0 l0_0.length l0_0) (hc0_0 : l0_0.length ≤ c0_0) (hr0_1 : Kd.C (Kd.slice 53 k53) w A0_1 l0_1.length l0_1) (hc0_1 : l0_1.length ≤ c0_1) (h : fencepostref07_right.f k l0_0 l0_1 a1_0 a1_1 a1_2 a1_3 a1_4 a2 a3 = some r) :
 Calls Try.prog 48 #[.agg #[.slice A0_0 l0_0.length c0_0, .slice A0_1 l0_1.length c0_1], .agg #[.int .i64 a1_0, .int .i64 a1_1, .int .i64 a1_2, .int .i64 a1_3, .int .i64 a1_4], .int .i64 a2, .int .i64 a3] w fun e w' => e = .returned (.bool r) ∧ Below w.heap.size w w' := by
 have hu25 := Try.underlying25
 have hu53 := Try.underlying53
 have HR0_0 := Aside0.mk hr0_0
 have HC0_0 := Aside0.mk hc0_0
 clear hr0_0 hc0_0
 have HR0_1 := Aside0.mk hr0_1
 have HC0_1 := Aside0.mk hc0_1
 clear hr0_1 hc0_1
 have HB := Aside0.mk (Below.refl w.heap.size w)
 have H : (if a1_0 < 1 then (fencepostref07_right.j0 k a2 a3 true l0_0 l0_1 a1_0 a1_1 a1_2 a1_3 a1_4) else (fencepostref07_right.j0 k a2 a3 (decide (a1_0 > 10)) l0_0 l0_1 a1_0 a1_1 a1_2 a1_3 a1_4)) = some r := h
 clear h
 have HC5 := Aside0.mk H
 clear H
 go_enter Try.func48, Try.ntmps48
 (try simp only [List.append_eq, List.cons_append, List.nil_append])
 go_upto_region 1 with (first | ((with_reducible refine gate_dst (N := 4) rfl ?_); (try (refine gate_guard (by rfl) ?_; dsimp only)); refine box_event ?hg (N := 4) ?hd (cs := #[.slice A0_0 l0_0.length c0_0, .slice A0_1 l0_1.length c0_1]) (t := 25) ?hr ?_; (case hd => rfl); (case hg => rfl); (case hr => first | (go_simp; done) | (go_simp; rfl)); intro gb146 hg w6 hbox hb; have n0_ := Aside0.mk (below_step (hb_ HB.out) hb); have n1_ := Aside0.mk (hbox); have n2_ := Aside0.mk (gs_ hg (hb_ HB.out)); have n3_ := Aside0.mk (gs_ hg (hb_ HB.out)); clear HB; have HB := n0_; have BK146 := n1_; have GW146 := n2_; have GE146 := n3_; clear n0_ n1_ n2_ n3_; clear hb hbox hg) | ((with_reducible refine gate_dst (N := 5) rfl ?_); (try (refine gate_guard (by rfl) ?_; dsimp only)); refine box_event ?hg (N := 5) ?hd (cs := #[.int .i64 a1_0, .int .i64 a1_1, .int .i64 a1_2, .int .i64 a1_3, .int .i64 a1_4]) (t := 53) ?hr ?_; (case hd => rfl); (case hg => rfl); (case hr => first | (go_simp; done) | (go_simp; rfl)); intro gb147 hg w7 hbox hb; have n0_ := Aside0.mk (bb_ BK146.out hb); have n1_ := Aside0.mk (below_step (hb_ HB.out) hb); have n2_ := Aside0.mk (hbox); have n3_ := Aside0.mk (gs_ hg (hb_ HB.out)); have n4_ := Aside0.mk (gs_ hg (hb_ HB.out)); have n5_ := Aside0.mk (gn_ hg BK146.out); have n6_ := Aside0.mk (gn_ hg BK146.out).symm; clear BK146; clear HB; have BK146 := n0_; have HB := n1_; have BK147 := n2_; have GW147 := n3_; have GE147 := n4_; have NB146_147 := n5_; have NB147_146 := n6_; clear n0_ n1_ n2_ n3_ n4_ n5_ n6_; clear hb hbox hg))
 (try simp only [Act.put, List.setIfInBounds_toArray, List.set_cons_zero, List.set_cons_succ])
 go_cut [19] (fun v19 wc => ∃ (kq : Nat) (x19_4 : Bool), v19 = .bool x19_4 ∧ Aside0 (fencepostref07_right.j0 kq a2 a3 x19_4 l0_0 l0_1 a1_0 a1_1 a1_2 a1_3 a1_4 = some r) ∧ Aside0 (kq ≤ k) ∧ Aside0 (wc.heap[gb146]? = some (.cells #[(.slice A0_0 l0_0.length c0_0), (.slice A0_1 l0_1.length c0_1)] 25 (0, 0))) ∧ Aside0 (wc.heap[gb147]? = some (.cells #[.int .i64 a1_0, .int .i64 a1_1, .int .i64 a1_2, .int .i64 a1_3, .int .i64 a1_4] 53 (0, 0))) ∧ Aside0 (Below w.heap.size w wc))
 case first =>
  have H := HC5.out
  clear HC5
  by_cases c8 : a1_0 < 1
  ·rw [if_pos c8] at H
   have c8b0 : decide (a1_0 < 1) = true := decide_eq_true c8
   clear c8
   (first | rw [c8b0] | (simp only [i64_w, i32_w]; rw [c8b0]) | skip)
   have H' := Aside0.mk H
   clear H
   have hnb9 := NB147_146.out
   have hnc9 := NB146_147.out
   have hcz10_0 : w7.cell? ⟨gb147, 0, none⟩ = some (.int .i64 a1_0) := (blk_cell BK147.out 0).trans rfl
   have hcz10_1 : w7.cell? ⟨gb147, 1, none⟩ = some (.int .i64 a1_1) := (blk_cell BK147.out 1).trans rfl
   have hcz10_2 : w7.cell? ⟨gb147, 2, none⟩ = some (.int .i64 a1_2) := (blk_cell BK147.out 2).trans rfl
   have hcz10_3 : w7.cell? ⟨gb147, 3, none⟩ = some (.int .i64 a1_3) := (blk_cell BK147.out 3).trans rfl
   have hcz10_4 : w7.cell? ⟨gb147, 4, none⟩ = some (.int .i64 a1_4) := (blk_cell BK147.out 4).trans rfl
   have hfz10_0 := blk_frozen BK147.out 0
   have hfz10_1 := blk_frozen BK147.out 1
   have hfz10_2 := blk_frozen BK147.out 2
   have hfz10_3 := blk_frozen BK147.out 3
   have hfz10_4 := blk_frozen BK147.out 4
   go_wp2
   go_meet
   case rel => exact ⟨_, (true), rf_, H', ⟨by first | omega | exact Nat.le_refl _⟩, ⟨bd_ BK146.out⟩, ⟨bd_ BK147.out⟩, ⟨hb_ HB.out⟩⟩
  rw [if_neg c8] at H
  have c8b0 : decide (a1_0 < 1) = false := decide_eq_false c8
  clear c8
  (first | rw [c8b0] | (simp only [i64_w, i32_w]; rw [c8b0]) | skip)
  have H' := Aside0.mk H
  clear H
  have hnb11 := NB147_146.out
  have hnc11 := NB146_147.out
  have hcz12_0 : w7.cell? ⟨gb147, 0, none⟩ = some (.int .i64 a1_0) := (blk_cell BK147.out 0).trans rfl
  have hcz12_1 : w7.cell? ⟨gb147, 1, none⟩ = some (.int .i64 a1_1) := (blk_cell BK147.out 1).trans rfl
  have hcz12_2 : w7.cell? ⟨gb147, 2, none⟩ = some (.int .i64 a1_2) := (blk_cell BK147.out 2).trans rfl
  have hcz12_3 : w7.cell? ⟨gb147, 3, none⟩ = some (.int .i64 a1_3) := (blk_cell BK147.out 3).trans rfl
  have hcz12_4 : w7.cell? ⟨gb147, 4, none⟩ = some (.int .i64 a1_4) := (blk_cell BK147.out 4).trans rfl
  have hfz12_0 := blk_frozen BK147.out 0
  have hfz12_1 := blk_frozen BK147.out 1
  have hfz12_2 := blk_frozen BK147.out 2
  have hfz12_3 := blk_frozen BK147.out 3
  have hfz12_4 := blk_frozen BK147.out 4
  go_wp2
  go_meet
  case rel => exact ⟨_, (decide (a1_0 > 10)), rf_, H', ⟨by first | omega | exact Nat.le_refl _⟩, ⟨bd_ BK146.out⟩, ⟨bd_ BK147.out⟩, ⟨hb_ HB.out⟩⟩
 clear HC5
 obtain ⟨kq, x19_4, rfl, HA, HJ4, BK146, BK147, HB⟩ := hcut
 cases kq with
 | zero => exact absurd HA.out (by simp [fencepostref07_right.j0])
 | succ kj4 => ?_
 have H := HA.out
 clear HA
 simp only [fencepostref07_right.j0] at H
 by_cases c13 : x19_4 = true
 ·subst c13
  have H1 : (some false) = some r := by rw [if_pos rfl] at H; exact H
  clear H
  have H := H1
  clear H1
  obtain rfl := Option.some.inj H
  go_wp2
  go_ret
  exact ⟨by first | rfl | (simp [errW_none, errW_some] <;> rfl) | (simp [*, errW_none, errW_some] <;> rfl), hb_ HB.out⟩
 replace c13 := Bool.eq_false_iff.mpr c13
 subst c13
 have H1 : (if a1_0 = 1 then (fencepostref07_right.j1 kj4 a2 a3 true l0_0 l0_1 a1_0 a1_1 a1_2 a1_3 a1_4) else (if a1_0 = 2 then (fencepostref07_right.j1 kj4 a2 a3 true l0_0 l0_1 a1_0 a1_1 a1_2 a1_3 a1_4) else (if a1_0 = 3 then (fencepostref07_right.j1 kj4 a2 a3 true l0_0 l0_1 a1_0 a1_1 a1_2 a1_3 a1_4) else (if a1_0 = 5 then (fencepostref07_right.j1 kj4 a2 a3 true l0_0 l0_1 a1_0 a1_1 a1_2 a1_3 a1_4) else (fencepostref07_right.j1 kj4 a2 a3 (a1_0 == 7) l0_0 l0_1 a1_0 a1_1 a1_2 a1_3 a1_4))))) = some r := by rw [if_neg (show ¬ (false = true) by decide)] at H; exact H
 clear H
 have H := H1
 clear H1
 have HC14 := Aside0.mk H
 clear H
 go_upto_region 3 with (fail)
 go_cut [9] (fun v9 wc => ∃ (kq : Nat) (x9_13 : Bool), v9 = .bool x9_13 ∧ Aside0 (fencepostref07_right.j1 kq a2 a3 x9_13 l0_0 l0_1 a1_0 a1_1 a1_2 a1_3 a1_4 = some r) ∧ Aside0 (kq ≤ kj4) ∧ Aside0 (wc.heap[gb146]? = some (.cells #[(.slice A0_0 l0_0.length c0_0), (.slice A0_1 l0_1.length c0_1)] 25 (0, 0))) ∧ Aside0 (wc.heap[gb147]? = some (.cells #[.int .i64 a1_0, .int .i64 a1_1, .int .i64 a1_2, .int .i64 a1_3, .int .i64 a1_4] 53 (0, 0))) ∧ Aside0 (Below w.heap.size w wc))
 case first =>
  have H := HC14.out
  clear HC14
  by_cases c15 : a1_0 = 1
  ·rw [if_pos c15] at H
   have c15b0 : (a1_0 == 1) = true := beq_iff_eq.mpr c15
   have c15b1 : (a1_0 != 1) = false := bne_eq_false_iff_eq.mpr c15
   clear c15
   (first | rw [c15b0] | (simp only [i64_w, i32_w]; rw [c15b0]) | skip)
   have H' := Aside0.mk H
   clear H
   have hnb16 := NB147_146.out
   have hnc16 := NB146_147.out
   have hcz17_0 : wc.cell? ⟨gb147, 0, none⟩ = some (.int .i64 a1_0) := (blk_cell BK147.out 0).trans rfl
   have hcz17_1 : wc.cell? ⟨gb147, 1, none⟩ = some (.int .i64 a1_1) := (blk_cell BK147.out 1).trans rfl
   have hcz17_2 : wc.cell? ⟨gb147, 2, none⟩ = some (.int .i64 a1_2) := (blk_cell BK147.out 2).trans rfl
   have hcz17_3 : wc.cell? ⟨gb147, 3, none⟩ = some (.int .i64 a1_3) := (blk_cell BK147.out 3).trans rfl
   have hcz17_4 : wc.cell? ⟨gb147, 4, none⟩ = some (.int .i64 a1_4) := (blk_cell BK147.out 4).trans rfl
   have hfz17_0 := blk_frozen BK147.out 0
   have hfz17_1 := blk_frozen BK147.out 1
   have hfz17_2 := blk_frozen BK147.out 2
   have hfz17_3 := blk_frozen BK147.out 3
   have hfz17_4 := blk_frozen BK147.out 4
   go_wp2
   go_meet
   case rel => exact ⟨_, (true), rf_, H', ⟨by have := HJ4.out; first | omega | exact Nat.le_refl _⟩, ⟨bd_ BK146.out⟩, ⟨bd_ BK147.out⟩, ⟨hb_ HB.out⟩⟩
  rw [if_neg c15] at H
  have c15b0 : (a1_0 == 1) = false := beq_eq_false_iff_ne.mpr c15
  have c15b1 : (a1_0 != 1) = true := bne_iff_ne.mpr c15
  (first | rw [c15b0] | (simp only [i64_w, i32_w]; rw [c15b0]) | skip)
  by_cases c18 : a1_0 = 2
  ·rw [if_pos c18] at H
   have c18b0 : (a1_0 == 2) = true := beq_iff_eq.mpr c18
   have c18b1 : (a1_0 != 2) = false := bne_eq_false_iff_eq.mpr c18
   clear c18
   have H' := Aside0.mk H
   clear H
   have hnb19 := NB147_146.out
   have hnc19 := NB146_147.out
   have hcz20_0 : wc.cell? ⟨gb147, 0, none⟩ = some (.int .i64 a1_0) := (blk_cell BK147.out 0).trans rfl
   have hcz20_1 : wc.cell? ⟨gb147, 1, none⟩ = some (.int .i64 a1_1) := (blk_cell BK147.out 1).trans rfl
   have hcz20_2 : wc.cell? ⟨gb147, 2, none⟩ = some (.int .i64 a1_2) := (blk_cell BK147.out 2).trans rfl
   have hcz20_3 : wc.cell? ⟨gb147, 3, none⟩ = some (.int .i64 a1_3) := (blk_cell BK147.out 3).trans rfl
   have hcz20_4 : wc.cell? ⟨gb147, 4, none⟩ = some (.int .i64 a1_4) := (blk_cell BK147.out 4).trans rfl
   have hfz20_0 := blk_frozen BK147.out 0
   have hfz20_1 := blk_frozen BK147.out 1
   have hfz20_2 := blk_frozen BK147.out 2
   have hfz20_3 := blk_frozen BK147.out 3
   have hfz20_4 := blk_frozen BK147.out 4
   go_wp2
   go_meet
   case rel => exact ⟨_, (true), rf_, H', ⟨by have := HJ4.out; first | omega | exact Nat.le_refl _⟩, ⟨bd_ BK146.out⟩, ⟨bd_ BK147.out⟩, ⟨hb_ HB.out⟩⟩
  rw [if_neg c18] at H
  have c18b0 : (a1_0 == 2) = false := beq_eq_false_iff_ne.mpr c18
  have c18b1 : (a1_0 != 2) = true := bne_iff_ne.mpr c18
  by_cases c21 : a1_0 = 3
  ·rw [if_pos c21] at H
   have c21b0 : (a1_0 == 3) = true := beq_iff_eq.mpr c21
   have c21b1 : (a1_0 != 3) = false := bne_eq_false_iff_eq.mpr c21
   clear c21
   have H' := Aside0.mk H
   clear H
   have hnb22 := NB147_146.out
   have hnc22 := NB146_147.out
   have hcz23_0 : wc.cell? ⟨gb147, 0, none⟩ = some (.int .i64 a1_0) := (blk_cell BK147.out 0).trans rfl
   have hcz23_1 : wc.cell? ⟨gb147, 1, none⟩ = some (.int .i64 a1_1) := (blk_cell BK147.out 1).trans rfl
   have hcz23_2 : wc.cell? ⟨gb147, 2, none⟩ = some (.int .i64 a1_2) := (blk_cell BK147.out 2).trans rfl
   have hcz23_3 : wc.cell? ⟨gb147, 3, none⟩ = some (.int .i64 a1_3) := (blk_cell BK147.out 3).trans rfl
   have hcz23_4 : wc.cell? ⟨gb147, 4, none⟩ = some (.int .i64 a1_4) := (blk_cell BK147.out 4).trans rfl
   have hfz23_0 := blk_frozen BK147.out 0
   have hfz23_1 := blk_frozen BK147.out 1
   have hfz23_2 := blk_frozen BK147.out 2
   have hfz23_3 := blk_frozen BK147.out 3
   have hfz23_4 := blk_frozen BK147.out 4
   go_wp2
   go_meet
   case rel => exact ⟨_, (true), rf_, H', ⟨by have := HJ4.out; first | omega | exact Nat.le_refl _⟩, ⟨bd_ BK146.out⟩, ⟨bd_ BK147.out⟩, ⟨hb_ HB.out⟩⟩
  rw [if_neg c21] at H
  have c21b0 : (a1_0 == 3) = false := beq_eq_false_iff_ne.mpr c21
  have c21b1 : (a1_0 != 3) = true := bne_iff_ne.mpr c21
  by_cases c24 : a1_0 = 5
  rotate_left
  ·rw [if_neg c24] at H
   have c24b0 : (a1_0 == 5) = false := beq_eq_false_iff_ne.mpr c24
   have c24b1 : (a1_0 != 5) = true := bne_iff_ne.mpr c24
   have H' := Aside0.mk H
   clear H
   have hnb27 := NB147_146.out
   have hnc27 := NB146_147.out
   have hcz28_0 : wc.cell? ⟨gb147, 0, none⟩ = some (.int .i64 a1_0) := (blk_cell BK147.out 0).trans rfl
   have hcz28_1 : wc.cell? ⟨gb147, 1, none⟩ = some (.int .i64 a1_1) := (blk_cell BK147.out 1).trans rfl
   have hcz28_2 : wc.cell? ⟨gb147, 2, none⟩ = some (.int .i64 a1_2) := (blk_cell BK147.out 2).trans rfl
   have hcz28_3 : wc.cell? ⟨gb147, 3, none⟩ = some (.int .i64 a1_3) := (blk_cell BK147.out 3).trans rfl
   have hcz28_4 : wc.cell? ⟨gb147, 4, none⟩ = some (.int .i64 a1_4) := (blk_cell BK147.out 4).trans rfl
   have hfz28_0 := blk_frozen BK147.out 0
   have hfz28_1 := blk_frozen BK147.out 1
   have hfz28_2 := blk_frozen BK147.out 2
   have hfz28_3 := blk_frozen BK147.out 3
   have hfz28_4 := blk_frozen BK147.out 4
   go_wp2
   go_meet
   case rel => exact ⟨_, ((a1_0 == 7)), rf_, H', ⟨by have := HJ4.out; first | omega | exact Nat.le_refl _⟩, ⟨bd_ BK146.out⟩, ⟨bd_ BK147.out⟩, ⟨hb_ HB.out⟩⟩
  rw [if_pos c24] at H
  have c24b0 : (a1_0 == 5) = true := beq_iff_eq.mpr c24
  have c24b1 : (a1_0 != 5) = false := bne_eq_false_iff_eq.mpr c24
  clear c24
  have H' := Aside0.mk H
  clear H
  have hnb25 := NB147_146.out
  have hnc25 := NB146_147.out
  have hcz26_0 : wc.cell? ⟨gb147, 0, none⟩ = some (.int .i64 a1_0) := (blk_cell BK147.out 0).trans rfl
  have hcz26_1 : wc.cell? ⟨gb147, 1, none⟩ = some (.int .i64 a1_1) := (blk_cell BK147.out 1).trans rfl
  have hcz26_2 : wc.cell? ⟨gb147, 2, none⟩ = some (.int .i64 a1_2) := (blk_cell BK147.out 2).trans rfl
  have hcz26_3 : wc.cell? ⟨gb147, 3, none⟩ = some (.int .i64 a1_3) := (blk_cell BK147.out 3).trans rfl
  have hcz26_4 : wc.cell? ⟨gb147, 4, none⟩ = some (.int .i64 a1_4) := (blk_cell BK147.out 4).trans rfl
  have hfz26_0 := blk_frozen BK147.out 0
  have hfz26_1 := blk_frozen BK147.out 1
  have hfz26_2 := blk_frozen BK147.out 2
  have hfz26_3 := blk_frozen BK147.out 3
  have hfz26_4 := blk_frozen BK147.out 4
  go_wp2
  go_meet
  case rel => exact ⟨_, (true), rf_, H', ⟨by have := HJ4.out; first | omega | exact Nat.le_refl _⟩, ⟨bd_ BK146.out⟩, ⟨bd_ BK147.out⟩, ⟨hb_ HB.out⟩⟩
 clear HC14
 try clear c13
 obtain ⟨kq, x9_13, rfl, HA, HJ13, BK146, BK147, HB⟩ := hcut
 cases kq with
 | zero => exact absurd HA.out (by simp [fencepostref07_right.j1])
 | succ kj13 => ?_
 have H := HA.out
 clear HA
 simp only [fencepostref07_right.j1] at H
 have HC29 := Aside0.mk H
 clear H
 go_upto_region 4 with (fail)
 go_cut [10] (fun v10 wc => ∃ (kq : Nat) (x10_28 : Bool), v10 = .bool x10_28 ∧ Aside0 (fencepostref07_right.j2 kq a2 a3 x9_13 x10_28 l0_0 l0_1 a1_0 a1_1 a1_2 a1_3 a1_4 = some r) ∧ Aside0 (kq ≤ kj13) ∧ Aside0 (wc.heap[gb146]? = some (.cells #[(.slice A0_0 l0_0.length c0_0), (.slice A0_1 l0_1.length c0_1)] 25 (0, 0))) ∧ Aside0 (wc.heap[gb147]? = some (.cells #[.int .i64 a1_0, .int .i64 a1_1, .int .i64 a1_2, .int .i64 a1_3, .int .i64 a1_4] 53 (0, 0))) ∧ Aside0 (Below w.heap.size w wc))
 case first =>
  have H := HC29.out
  clear HC29
  by_cases c30 : a1_0 = 2
  ·rw [if_pos c30] at H
   have c30b0 : (a1_0 == 2) = true := beq_iff_eq.mpr c30
   have c30b1 : (a1_0 != 2) = false := bne_eq_false_iff_eq.mpr c30
   clear c30
   (first | rw [c30b0] | (simp only [i64_w, i32_w]; rw [c30b0]) | skip)
   have H' := Aside0.mk H
   clear H
   have hnb31 := NB147_146.out
   have hnc31 := NB146_147.out
   have hcz32_0 : wc.cell? ⟨gb147, 0, none⟩ = some (.int .i64 a1_0) := (blk_cell BK147.out 0).trans rfl
   have hcz32_1 : wc.cell? ⟨gb147, 1, none⟩ = some (.int .i64 a1_1) := (blk_cell BK147.out 1).trans rfl
   have hcz32_2 : wc.cell? ⟨gb147, 2, none⟩ = some (.int .i64 a1_2) := (blk_cell BK147.out 2).trans rfl
   have hcz32_3 : wc.cell? ⟨gb147, 3, none⟩ = some (.int .i64 a1_3) := (blk_cell BK147.out 3).trans rfl
   have hcz32_4 : wc.cell? ⟨gb147, 4, none⟩ = some (.int .i64 a1_4) := (blk_cell BK147.out 4).trans rfl
   have hfz32_0 := blk_frozen BK147.out 0
   have hfz32_1 := blk_frozen BK147.out 1
   have hfz32_2 := blk_frozen BK147.out 2
   have hfz32_3 := blk_frozen BK147.out 3
   have hfz32_4 := blk_frozen BK147.out 4
   go_wp2
   go_meet
   case rel => exact ⟨_, (true), rf_, H', ⟨by have := HJ4.out; have := HJ13.out; first | omega | exact Nat.le_refl _⟩, ⟨bd_ BK146.out⟩, ⟨bd_ BK147.out⟩, ⟨hb_ HB.out⟩⟩
  rw [if_neg c30] at H
  have c30b0 : (a1_0 == 2) = false := beq_eq_false_iff_ne.mpr c30
  have c30b1 : (a1_0 != 2) = true := bne_iff_ne.mpr c30
  (first | rw [c30b0] | (simp only [i64_w, i32_w]; rw [c30b0]) | skip)
  by_cases c33 : a1_0 = 3
  ·rw [if_pos c33] at H
   have c33b0 : (a1_0 == 3) = true := beq_iff_eq.mpr c33
   have c33b1 : (a1_0 != 3) = false := bne_eq_false_iff_eq.mpr c33
   clear c33
   have H' := Aside0.mk H
   clear H
   have hnb34 := NB147_146.out
   have hnc34 := NB146_147.out
   have hcz35_0 : wc.cell? ⟨gb147, 0, none⟩ = some (.int .i64 a1_0) := (blk_cell BK147.out 0).trans rfl
   have hcz35_1 : wc.cell? ⟨gb147, 1, none⟩ = some (.int .i64 a1_1) := (blk_cell BK147.out 1).trans rfl
   have hcz35_2 : wc.cell? ⟨gb147, 2, none⟩ = some (.int .i64 a1_2) := (blk_cell BK147.out 2).trans rfl
   have hcz35_3 : wc.cell? ⟨gb147, 3, none⟩ = some (.int .i64 a1_3) := (blk_cell BK147.out 3).trans rfl
   have hcz35_4 : wc.cell? ⟨gb147, 4, none⟩ = some (.int .i64 a1_4) := (blk_cell BK147.out 4).trans rfl
   have hfz35_0 := blk_frozen BK147.out 0
   have hfz35_1 := blk_frozen BK147.out 1
   have hfz35_2 := blk_frozen BK147.out 2
   have hfz35_3 := blk_frozen BK147.out 3
   have hfz35_4 := blk_frozen BK147.out 4
   go_wp2
   go_meet
   case rel => exact ⟨_, (true), rf_, H', ⟨by have := HJ4.out; have := HJ13.out; first | omega | exact Nat.le_refl _⟩, ⟨bd_ BK146.out⟩, ⟨bd_ BK147.out⟩, ⟨hb_ HB.out⟩⟩
  rw [if_neg c33] at H
  have c33b0 : (a1_0 == 3) = false := beq_eq_false_iff_ne.mpr c33
  have c33b1 : (a1_0 != 3) = true := bne_iff_ne.mpr c33
  by_cases c36 : a1_0 = 4
  rotate_left
  ·rw [if_neg c36] at H
   have c36b0 : (a1_0 == 4) = false := beq_eq_false_iff_ne.mpr c36
   have c36b1 : (a1_0 != 4) = true := bne_iff_ne.mpr c36
   have H' := Aside0.mk H
   clear H
   have hnb39 := NB147_146.out
   have hnc39 := NB146_147.out
   have hcz40_0 : wc.cell? ⟨gb147, 0, none⟩ = some (.int .i64 a1_0) := (blk_cell BK147.out 0).trans rfl
   have hcz40_1 : wc.cell? ⟨gb147, 1, none⟩ = some (.int .i64 a1_1) := (blk_cell BK147.out 1).trans rfl
   have hcz40_2 : wc.cell? ⟨gb147, 2, none⟩ = some (.int .i64 a1_2) := (blk_cell BK147.out 2).trans rfl
   have hcz40_3 : wc.cell? ⟨gb147, 3, none⟩ = some (.int .i64 a1_3) := (blk_cell BK147.out 3).trans rfl
   have hcz40_4 : wc.cell? ⟨gb147, 4, none⟩ = some (.int .i64 a1_4) := (blk_cell BK147.out 4).trans rfl
   have hfz40_0 := blk_frozen BK147.out 0
   have hfz40_1 := blk_frozen BK147.out 1
   have hfz40_2 := blk_frozen BK147.out 2
   have hfz40_3 := blk_frozen BK147.out 3
   have hfz40_4 := blk_frozen BK147.out 4
   go_wp2
   go_meet
   case rel => exact ⟨_, ((a1_0 == 5)), rf_, H', ⟨by have := HJ4.out; have := HJ13.out; first | omega | exact Nat.le_refl _⟩, ⟨bd_ BK146.out⟩, ⟨bd_ BK147.out⟩, ⟨hb_ HB.out⟩⟩
  rw [if_pos c36] at H
  have c36b0 : (a1_0 == 4) = true := beq_iff_eq.mpr c36
  have c36b1 : (a1_0 != 4) = false := bne_eq_false_iff_eq.mpr c36
  clear c36
  have H' := Aside0.mk H
  clear H
  have hnb37 := NB147_146.out
  have hnc37 := NB146_147.out
  have hcz38_0 : wc.cell? ⟨gb147, 0, none⟩ = some (.int .i64 a1_0) := (blk_cell BK147.out 0).trans rfl
  have hcz38_1 : wc.cell? ⟨gb147, 1, none⟩ = some (.int .i64 a1_1) := (blk_cell BK147.out 1).trans rfl
  have hcz38_2 : wc.cell? ⟨gb147, 2, none⟩ = some (.int .i64 a1_2) := (blk_cell BK147.out 2).trans rfl
  have hcz38_3 : wc.cell? ⟨gb147, 3, none⟩ = some (.int .i64 a1_3) := (blk_cell BK147.out 3).trans rfl
  have hcz38_4 : wc.cell? ⟨gb147, 4, none⟩ = some (.int .i64 a1_4) := (blk_cell BK147.out 4).trans rfl
  have hfz38_0 := blk_frozen BK147.out 0
  have hfz38_1 := blk_frozen BK147.out 1
  have hfz38_2 := blk_frozen BK147.out 2
  have hfz38_3 := blk_frozen BK147.out 3
  have hfz38_4 := blk_frozen BK147.out 4
  go_wp2
  go_meet
  case rel => exact ⟨_, (true), rf_, H', ⟨by have := HJ4.out; have := HJ13.out; first | omega | exact Nat.le_refl _⟩, ⟨bd_ BK146.out⟩, ⟨bd_ BK147.out⟩, ⟨hb_ HB.out⟩⟩
 clear HC29
 try clear c13
 obtain ⟨kq, x10_28, rfl, HA, HJ28, BK146, BK147, HB⟩ := hcut
 cases kq with
 | zero => exact absurd HA.out (by simp [fencepostref07_right.j2])
 | succ kj28 => ?_
 have H := HA.out
 clear HA
 simp only [fencepostref07_right.j2] at H
 have HC41 := Aside0.mk H
 clear H
 go_upto_region 5 with (fail)
 go_cut [11] (fun v11 wc => ∃ (kq : Nat) (x11_40 : Bool), v11 = .bool x11_40 ∧ Aside0 (fencepostref07_right.j3 kq a2 a3 x9_13 x10_28 x11_40 l0_0 l0_1 a1_0 a1_1 a1_2 a1_3 a1_4 = some r) ∧ Aside0 (kq ≤ kj28) ∧ Aside0 (wc.heap[gb146]? = some (.cells #[(.slice A0_0 l0_0.length c0_0), (.slice A0_1 l0_1.length c0_1)] 25 (0, 0))) ∧ Aside0 (wc.heap[gb147]? = some (.cells #[.int .i64 a1_0, .int .i64 a1_1, .int .i64 a1_2, .int .i64 a1_3, .int .i64 a1_4] 53 (0, 0))) ∧ Aside0 (Below w.heap.size w wc))
 case first =>
  have H := HC41.out
  clear HC41
  by_cases c42 : a1_0 = 1
  ·rw [if_pos c42] at H
   have c42b0 : (a1_0 == 1) = true := beq_iff_eq.mpr c42
   have c42b1 : (a1_0 != 1) = false := bne_eq_false_iff_eq.mpr c42
   clear c42
   (first | rw [c42b0] | (simp only [i64_w, i32_w]; rw [c42b0]) | skip)
   have H' := Aside0.mk H
   clear H
   have hnb43 := NB147_146.out
   have hnc43 := NB146_147.out
   have hcz44_0 : wc.cell? ⟨gb147, 0, none⟩ = some (.int .i64 a1_0) := (blk_cell BK147.out 0).trans rfl
   have hcz44_1 : wc.cell? ⟨gb147, 1, none⟩ = some (.int .i64 a1_1) := (blk_cell BK147.out 1).trans rfl
   have hcz44_2 : wc.cell? ⟨gb147, 2, none⟩ = some (.int .i64 a1_2) := (blk_cell BK147.out 2).trans rfl
   have hcz44_3 : wc.cell? ⟨gb147, 3, none⟩ = some (.int .i64 a1_3) := (blk_cell BK147.out 3).trans rfl
   have hcz44_4 : wc.cell? ⟨gb147, 4, none⟩ = some (.int .i64 a1_4) := (blk_cell BK147.out 4).trans rfl
   have hfz44_0 := blk_frozen BK147.out 0
   have hfz44_1 := blk_frozen BK147.out 1
   have hfz44_2 := blk_frozen BK147.out 2
   have hfz44_3 := blk_frozen BK147.out 3
   have hfz44_4 := blk_frozen BK147.out 4
   go_wp2
   go_meet
   case rel => exact ⟨_, (true), rf_, H', ⟨by have := HJ4.out; have := HJ13.out; have := HJ28.out; first | omega | exact Nat.le_refl _⟩, ⟨bd_ BK146.out⟩, ⟨bd_ BK147.out⟩, ⟨hb_ HB.out⟩⟩
  rw [if_neg c42] at H
  have c42b0 : (a1_0 == 1) = false := beq_eq_false_iff_ne.mpr c42
  have c42b1 : (a1_0 != 1) = true := bne_iff_ne.mpr c42
  (first | rw [c42b0] | (simp only [i64_w, i32_w]; rw [c42b0]) | skip)
  by_cases c45 : a1_0 = 4
  rotate_left
  ·rw [if_neg c45] at H
   have c45b0 : (a1_0 == 4) = false := beq_eq_false_iff_ne.mpr c45
   have c45b1 : (a1_0 != 4) = true := bne_iff_ne.mpr c45
   have H' := Aside0.mk H
   clear H
   have hnb48 := NB147_146.out
   have hnc48 := NB146_147.out
   have hcz49_0 : wc.cell? ⟨gb147, 0, none⟩ = some (.int .i64 a1_0) := (blk_cell BK147.out 0).trans rfl
   have hcz49_1 : wc.cell? ⟨gb147, 1, none⟩ = some (.int .i64 a1_1) := (blk_cell BK147.out 1).trans rfl
   have hcz49_2 : wc.cell? ⟨gb147, 2, none⟩ = some (.int .i64 a1_2) := (blk_cell BK147.out 2).trans rfl
   have hcz49_3 : wc.cell? ⟨gb147, 3, none⟩ = some (.int .i64 a1_3) := (blk_cell BK147.out 3).trans rfl
   have hcz49_4 : wc.cell? ⟨gb147, 4, none⟩ = some (.int .i64 a1_4) := (blk_cell BK147.out 4).trans rfl
   have hfz49_0 := blk_frozen BK147.out 0
   have hfz49_1 := blk_frozen BK147.out 1
   have hfz49_2 := blk_frozen BK147.out 2
   have hfz49_3 := blk_frozen BK147.out 3
   have hfz49_4 := blk_frozen BK147.out 4
   go_wp2
   go_meet
   case rel => exact ⟨_, ((a1_0 == 7)), rf_, H', ⟨by have := HJ4.out; have := HJ13.out; have := HJ28.out; first | omega | exact Nat.le_refl _⟩, ⟨bd_ BK146.out⟩, ⟨bd_ BK147.out⟩, ⟨hb_ HB.out⟩⟩
  rw [if_pos c45] at H
  have c45b0 : (a1_0 == 4) = true := beq_iff_eq.mpr c45
  have c45b1 : (a1_0 != 4) = false := bne_eq_false_iff_eq.mpr c45
  clear c45
  have H' := Aside0.mk H
  clear H
  have hnb46 := NB147_146.out
  have hnc46 := NB146_147.out
  have hcz47_0 : wc.cell? ⟨gb147, 0, none⟩ = some (.int .i64 a1_0) := (blk_cell BK147.out 0).trans rfl
  have hcz47_1 : wc.cell? ⟨gb147, 1, none⟩ = some (.int .i64 a1_1) := (blk_cell BK147.out 1).trans rfl
  have hcz47_2 : wc.cell? ⟨gb147, 2, none⟩ = some (.int .i64 a1_2) := (blk_cell BK147.out 2).trans rfl
  have hcz47_3 : wc.cell? ⟨gb147, 3, none⟩ = some (.int .i64 a1_3) := (blk_cell BK147.out 3).trans rfl
  have hcz47_4 : wc.cell? ⟨gb147, 4, none⟩ = some (.int .i64 a1_4) := (blk_cell BK147.out 4).trans rfl
  have hfz47_0 := blk_frozen BK147.out 0
  have hfz47_1 := blk_frozen BK147.out 1
  have hfz47_2 := blk_frozen BK147.out 2
  have hfz47_3 := blk_frozen BK147.out 3
  have hfz47_4 := blk_frozen BK147.out 4
  go_wp2
  go_meet
  case rel => exact ⟨_, (true), rf_, H', ⟨by have := HJ4.out; have := HJ13.out; have := HJ28.out; first | omega | exact Nat.le_refl _⟩, ⟨bd_ BK146.out⟩, ⟨bd_ BK147.out⟩, ⟨hb_ HB.out⟩⟩
 clear HC41
 try clear c13
 obtain ⟨kq, x11_40, rfl, HA, HJ40, BK146, BK147, HB⟩ := hcut
 cases kq with
 | zero => exact absurd HA.out (by simp [fencepostref07_right.j3])
 | succ kj40 => ?_
 have H := HA.out
 clear HA
 simp only [fencepostref07_right.j3] at H
 have HC50 := Aside0.mk H
 clear H
 go_upto_region 6 with (fail)
 go_cut [99] (fun v99 wc => ∃ (kq : Nat) (x99_49 : Bool), v99 = .bool x99_49 ∧ Aside0 (fencepostref07_right.j4 kq a2 a3 x10_28 x99_49 l0_0 l0_1 a1_0 a1_1 a1_2 a1_3 a1_4 = some r) ∧ Aside0 (kq ≤ kj40) ∧ Aside0 (wc.heap[gb146]? = some (.cells #[(.slice A0_0 l0_0.length c0_0), (.slice A0_1 l0_1.length c0_1)] 25 (0, 0))) ∧ Aside0 (wc.heap[gb147]? = some (.cells #[.int .i64 a1_0, .int .i64 a1_1, .int .i64 a1_2, .int .i64 a1_3, .int .i64 a1_4] 53 (0, 0))) ∧ Aside0 (Below w.heap.size w wc))
 case first =>
  have H := HC50.out
  clear HC50
  by_cases c51 : a1_1 < 0
  ·rw [if_pos c51] at H
   have c51b0 : decide (a1_1 < 0) = true := decide_eq_true c51
   clear c51
   (first | rw [c51b0] | (simp only [i64_w, i32_w]; rw [c51b0]) | skip)
   have H' := Aside0.mk H
   clear H
   have hnb52 := NB147_146.out
   have hnc52 := NB146_147.out
   have hcz53_0 : wc.cell? ⟨gb147, 0, none⟩ = some (.int .i64 a1_0) := (blk_cell BK147.out 0).trans rfl
   have hcz53_1 : wc.cell? ⟨gb147, 1, none⟩ = some (.int .i64 a1_1) := (blk_cell BK147.out 1).trans rfl
   have hcz53_2 : wc.cell? ⟨gb147, 2, none⟩ = some (.int .i64 a1_2) := (blk_cell BK147.out 2).trans rfl
   have hcz53_3 : wc.cell? ⟨gb147, 3, none⟩ = some (.int .i64 a1_3) := (blk_cell BK147.out 3).trans rfl
   have hcz53_4 : wc.cell? ⟨gb147, 4, none⟩ = some (.int .i64 a1_4) := (blk_cell BK147.out 4).trans rfl
   have hfz53_0 := blk_frozen BK147.out 0
   have hfz53_1 := blk_frozen BK147.out 1
   have hfz53_2 := blk_frozen BK147.out 2
   have hfz53_3 := blk_frozen BK147.out 3
   have hfz53_4 := blk_frozen BK147.out 4
   go_wp2
   go_meet
   case rel => exact ⟨_, (true), rf_, H', ⟨by have := HJ4.out; have := HJ13.out; have := HJ28.out; have := HJ40.out; first | omega | exact Nat.le_refl _⟩, ⟨bd_ BK146.out⟩, ⟨bd_ BK147.out⟩, ⟨hb_ HB.out⟩⟩
  rw [if_neg c51] at H
  have c51b0 : decide (a1_1 < 0) = false := decide_eq_false c51
  clear c51
  (first | rw [c51b0] | (simp only [i64_w, i32_w]; rw [c51b0]) | skip)
  by_cases c54 : a1_1 > 3
  ·rw [if_pos c54] at H
   have c54b0 : decide (3 < a1_1) = true := decide_eq_true c54
   clear c54
   have H' := Aside0.mk H
   clear H
   have hnb55 := NB147_146.out
   have hnc55 := NB146_147.out
   have hcz56_0 : wc.cell? ⟨gb147, 0, none⟩ = some (.int .i64 a1_0) := (blk_cell BK147.out 0).trans rfl
   have hcz56_1 : wc.cell? ⟨gb147, 1, none⟩ = some (.int .i64 a1_1) := (blk_cell BK147.out 1).trans rfl
   have hcz56_2 : wc.cell? ⟨gb147, 2, none⟩ = some (.int .i64 a1_2) := (blk_cell BK147.out 2).trans rfl
   have hcz56_3 : wc.cell? ⟨gb147, 3, none⟩ = some (.int .i64 a1_3) := (blk_cell BK147.out 3).trans rfl
   have hcz56_4 : wc.cell? ⟨gb147, 4, none⟩ = some (.int .i64 a1_4) := (blk_cell BK147.out 4).trans rfl
   have hfz56_0 := blk_frozen BK147.out 0
   have hfz56_1 := blk_frozen BK147.out 1
   have hfz56_2 := blk_frozen BK147.out 2
   have hfz56_3 := blk_frozen BK147.out 3
   have hfz56_4 := blk_frozen BK147.out 4
   go_wp2
   go_meet
   case rel => exact ⟨_, (true), rf_, H', ⟨by have := HJ4.out; have := HJ13.out; have := HJ28.out; have := HJ40.out; first | omega | exact Nat.le_refl _⟩, ⟨bd_ BK146.out⟩, ⟨bd_ BK147.out⟩, ⟨hb_ HB.out⟩⟩
  rw [if_neg c54] at H
  have c54b0 : decide (3 < a1_1) = false := decide_eq_false c54
  clear c54
  by_cases c57 : x9_13 = true
  ·subst c57
   have H1 : (if x11_40 = true then (fencepostref07_right.j4 kj40 a2 a3 x10_28 false l0_0 l0_1 a1_0 a1_1 a1_2 a1_3 a1_4) else (fencepostref07_right.j4 kj40 a2 a3 x10_28 (a1_3 != 0) l0_0 l0_1 a1_0 a1_1 a1_2 a1_3 a1_4)) = some r := by rw [if_pos rfl] at H; exact H
   clear H
   have H := H1
   clear H1
   by_cases c58 : x11_40 = true
   ·subst c58
    have H1 : (fencepostref07_right.j4 kj40 a2 a3 x10_28 false l0_0 l0_1 a1_0 a1_1 a1_2 a1_3 a1_4) = some r := by rw [if_pos rfl] at H; exact H
    clear H
    have H := H1
    clear H1
    have H' := Aside0.mk H
    clear H
    have hnb59 := NB147_146.out
    have hnc59 := NB146_147.out
    have hcz60_0 : wc.cell? ⟨gb147, 0, none⟩ = some (.int .i64 a1_0) := (blk_cell BK147.out 0).trans rfl
    have hcz60_1 : wc.cell? ⟨gb147, 1, none⟩ = some (.int .i64 a1_1) := (blk_cell BK147.out 1).trans rfl
    have hcz60_2 : wc.cell? ⟨gb147, 2, none⟩ = some (.int .i64 a1_2) := (blk_cell BK147.out 2).trans rfl
    have hcz60_3 : wc.cell? ⟨gb147, 3, none⟩ = some (.int .i64 a1_3) := (blk_cell BK147.out 3).trans rfl
    have hcz60_4 : wc.cell? ⟨gb147, 4, none⟩ = some (.int .i64 a1_4) := (blk_cell BK147.out 4).trans rfl
    have hfz60_0 := blk_frozen BK147.out 0
    have hfz60_1 := blk_frozen BK147.out 1
    have hfz60_2 := blk_frozen BK147.out 2
    have hfz60_3 := blk_frozen BK147.out 3
    have hfz60_4 := blk_frozen BK147.out 4
    go_wp2
    go_meet
    case rel => exact ⟨_, (false), rf_, H', ⟨by have := HJ4.out; have := HJ13.out; have := HJ28.out; have := HJ40.out; first | omega | exact Nat.le_refl _⟩, ⟨bd_ BK146.out⟩, ⟨bd_ BK147.out⟩, ⟨hb_ HB.out⟩⟩
   replace c58 := Bool.eq_false_iff.mpr c58
   subst c58
   have H1 : (fencepostref07_right.j4 kj40 a2 a3 x10_28 (a1_3 != 0) l0_0 l0_1 a1_0 a1_1 a1_2 a1_3 a1_4) = some r := by rw [if_neg (show ¬ (false = true) by decide)] at H; exact H
   clear H
   have H := H1
   clear H1
   have H' := Aside0.mk H
   clear H
   have hnb61 := NB147_146.out
   have hnc61 := NB146_147.out
   have hcz62_0 : wc.cell? ⟨gb147, 0, none⟩ = some (.int .i64 a1_0) := (blk_cell BK147.out 0).trans rfl
   have hcz62_1 : wc.cell? ⟨gb147, 1, none⟩ = some (.int .i64 a1_1) := (blk_cell BK147.out 1).trans rfl
   have hcz62_2 : wc.cell? ⟨gb147, 2, none⟩ = some (.int .i64 a1_2) := (blk_cell BK147.out 2).trans rfl
   have hcz62_3 : wc.cell? ⟨gb147, 3, none⟩ = some (.int .i64 a1_3) := (blk_cell BK147.out 3).trans rfl
   have hcz62_4 : wc.cell? ⟨gb147, 4, none⟩ = some (.int .i64 a1_4) := (blk_cell BK147.out 4).trans rfl
   have hfz62_0 := blk_frozen BK147.out 0
   have hfz62_1 := blk_frozen BK147.out 1
   have hfz62_2 := blk_frozen BK147.out 2
   have hfz62_3 := blk_frozen BK147.out 3
   have hfz62_4 := blk_frozen BK147.out 4
   go_wp2
   go_meet
   case rel => exact ⟨_, ((a1_3 != 0)), rf_, H', ⟨by have := HJ4.out; have := HJ13.out; have := HJ28.out; have := HJ40.out; first | omega | exact Nat.le_refl _⟩, ⟨bd_ BK146.out⟩, ⟨bd_ BK147.out⟩, ⟨hb_ HB.out⟩⟩
  replace c57 := Bool.eq_false_iff.mpr c57
  subst c57
  have H1 : (if a1_1 = 0 then (if x11_40 = true then (fencepostref07_right.j4 kj40 a2 a3 x10_28 false l0_0 l0_1 a1_0 a1_1 a1_2 a1_3 a1_4) else (fencepostref07_right.j4 kj40 a2 a3 x10_28 (a1_3 != 0) l0_0 l0_1 a1_0 a1_1 a1_2 a1_3 a1_4)) else (fencepostref07_right.j4 kj40 a2 a3 x10_28 true l0_0 l0_1 a1_0 a1_1 a1_2 a1_3 a1_4)) = some r := by rw [if_neg (show ¬ (false = true) by decide)] at H; exact H
  clear H
  have H := H1
  clear H1
  by_cases c63 : a1_1 = 0
  rotate_left
  ·rw [if_neg c63] at H
   have c63b0 : (a1_1 == 0) = false := beq_eq_false_iff_ne.mpr c63
   have c63b1 : (a1_1 != 0) = true := bne_iff_ne.mpr c63
   have H' := Aside0.mk H
   clear H
   have hnb69 := NB147_146.out
   have hnc69 := NB146_147.out
   have hcz70_0 : wc.cell? ⟨gb147, 0, none⟩ = some (.int .i64 a1_0) := (blk_cell BK147.out 0).trans rfl
   have hcz70_1 : wc.cell? ⟨gb147, 1, none⟩ = some (.int .i64 a1_1) := (blk_cell BK147.out 1).trans rfl
   have hcz70_2 : wc.cell? ⟨gb147, 2, none⟩ = some (.int .i64 a1_2) := (blk_cell BK147.out 2).trans rfl
   have hcz70_3 : wc.cell? ⟨gb147, 3, none⟩ = some (.int .i64 a1_3) := (blk_cell BK147.out 3).trans rfl
   have hcz70_4 : wc.cell? ⟨gb147, 4, none⟩ = some (.int .i64 a1_4) := (blk_cell BK147.out 4).trans rfl
   have hfz70_0 := blk_frozen BK147.out 0
   have hfz70_1 := blk_frozen BK147.out 1
   have hfz70_2 := blk_frozen BK147.out 2
   have hfz70_3 := blk_frozen BK147.out 3
   have hfz70_4 := blk_frozen BK147.out 4
   go_wp2
   go_meet
   case rel => exact ⟨_, (true), rf_, H', ⟨by have := HJ4.out; have := HJ13.out; have := HJ28.out; have := HJ40.out; first | omega | exact Nat.le_refl _⟩, ⟨bd_ BK146.out⟩, ⟨bd_ BK147.out⟩, ⟨hb_ HB.out⟩⟩
  rw [if_pos c63] at H
  have c63b0 : (a1_1 == 0) = true := beq_iff_eq.mpr c63
  have c63b1 : (a1_1 != 0) = false := bne_eq_false_iff_eq.mpr c63
  clear c63
  by_cases c64 : x11_40 = true
  ·subst c64
   have H1 : (fencepostref07_right.j4 kj40 a2 a3 x10_28 false l0_0 l0_1 a1_0 a1_1 a1_2 a1_3 a1_4) = some r := by rw [if_pos rfl] at H; exact H
   clear H
   have H := H1
   clear H1
   have H' := Aside0.mk H
   clear H
   have hnb65 := NB147_146.out
   have hnc65 := NB146_147.out
   have hcz66_0 : wc.cell? ⟨gb147, 0, none⟩ = some (.int .i64 a1_0) := (blk_cell BK147.out 0).trans rfl
   have hcz66_1 : wc.cell? ⟨gb147, 1, none⟩ = some (.int .i64 a1_1) := (blk_cell BK147.out 1).trans rfl
   have hcz66_2 : wc.cell? ⟨gb147, 2, none⟩ = some (.int .i64 a1_2) := (blk_cell BK147.out 2).trans rfl
   have hcz66_3 : wc.cell? ⟨gb147, 3, none⟩ = some (.int .i64 a1_3) := (blk_cell BK147.out 3).trans rfl
   have hcz66_4 : wc.cell? ⟨gb147, 4, none⟩ = some (.int .i64 a1_4) := (blk_cell BK147.out 4).trans rfl
   have hfz66_0 := blk_frozen BK147.out 0
   have hfz66_1 := blk_frozen BK147.out 1
   have hfz66_2 := blk_frozen BK147.out 2
   have hfz66_3 := blk_frozen BK147.out 3
   have hfz66_4 := blk_frozen BK147.out 4
   go_wp2
   go_meet
   case rel => exact ⟨_, (false), rf_, H', ⟨by have := HJ4.out; have := HJ13.out; have := HJ28.out; have := HJ40.out; first | omega | exact Nat.le_refl _⟩, ⟨bd_ BK146.out⟩, ⟨bd_ BK147.out⟩, ⟨hb_ HB.out⟩⟩
  replace c64 := Bool.eq_false_iff.mpr c64
  subst c64
  have H1 : (fencepostref07_right.j4 kj40 a2 a3 x10_28 (a1_3 != 0) l0_0 l0_1 a1_0 a1_1 a1_2 a1_3 a1_4) = some r := by rw [if_neg (show ¬ (false = true) by decide)] at H; exact H
  clear H
  have H := H1
  clear H1
  have H' := Aside0.mk H
  clear H
  have hnb67 := NB147_146.out
  have hnc67 := NB146_147.out
  have hcz68_0 : wc.cell? ⟨gb147, 0, none⟩ = some (.int .i64 a1_0) := (blk_cell BK147.out 0).trans rfl
  have hcz68_1 : wc.cell? ⟨gb147, 1, none⟩ = some (.int .i64 a1_1) := (blk_cell BK147.out 1).trans rfl
  have hcz68_2 : wc.cell? ⟨gb147, 2, none⟩ = some (.int .i64 a1_2) := (blk_cell BK147.out 2).trans rfl
  have hcz68_3 : wc.cell? ⟨gb147, 3, none⟩ = some (.int .i64 a1_3) := (blk_cell BK147.out 3).trans rfl
  have hcz68_4 : wc.cell? ⟨gb147, 4, none⟩ = some (.int .i64 a1_4) := (blk_cell BK147.out 4).trans rfl
  have hfz68_0 := blk_frozen BK147.out 0
  have hfz68_1 := blk_frozen BK147.out 1
  have hfz68_2 := blk_frozen BK147.out 2
  have hfz68_3 := blk_frozen BK147.out 3
  have hfz68_4 := blk_frozen BK147.out 4
  go_wp2
  go_meet
  case rel => exact ⟨_, ((a1_3 != 0)), rf_, H', ⟨by have := HJ4.out; have := HJ13.out; have := HJ28.out; have := HJ40.out; first | omega | exact Nat.le_refl _⟩, ⟨bd_ BK146.out⟩, ⟨bd_ BK147.out⟩, ⟨hb_ HB.out⟩⟩
 clear HC50
 try clear c13
 obtain ⟨kq, x99_49, rfl, HA, HJ49, BK146, BK147, HB⟩ := hcut
 cases kq with
 | zero => exact absurd HA.out (by simp [fencepostref07_right.j4])
 | succ kj49 => ?_
 have H := HA.out
 clear HA
 simp only [fencepostref07_right.j4] at H
 by_cases c71 : x99_49 = true
 ·subst c71
  have H1 : (some false) = some r := by rw [if_pos rfl] at H; exact H
  clear H
  have H := H1
  clear H1
  obtain rfl := Option.some.inj H
  go_wp2
  go_ret
  exact ⟨by first | rfl | (simp [errW_none, errW_some] <;> rfl) | (simp [*, errW_none, errW_some] <;> rfl), hb_ HB.out⟩
 replace c71 := Bool.eq_false_iff.mpr c71
 subst c71
 have H1 : (if x10_28 = true then (if a1_2 < 0 then (fencepostref07_right.j5 kj49 a2 a3 true a1_0 a1_1 a1_2 a1_3 a1_4) else (if a1_2 ≥ (l0_0.length : Int) then (fencepostref07_right.j5 kj49 a2 a3 true a1_0 a1_1 a1_2 a1_3 a1_4) else (fencepostref07_right.j5 kj49 a2 a3 false a1_0 a1_1 a1_2 a1_3 a1_4))) else (fencepostref07_right.j5 kj49 a2 a3 (a1_2 != 0) a1_0 a1_1 a1_2 a1_3 a1_4)) = some r := by rw [if_neg (show ¬ (false = true) by decide)] at H; exact H
 clear H
 have H := H1
 clear H1
 have HC72 := Aside0.mk H
 clear H
 go_upto_region 8 with (fail)
 go_cut [122] (fun v122 wc => ∃ (kq : Nat) (x122_71 : Bool), v122 = .bool x122_71 ∧ Aside0 (fencepostref07_right.j5 kq a2 a3 x122_71 a1_0 a1_1 a1_2 a1_3 a1_4 = some r) ∧ Aside0 (kq ≤ kj49) ∧ Aside0 (wc.heap[gb146]? = some (.cells #[(.slice A0_0 l0_0.length c0_0), (.slice A0_1 l0_1.length c0_1)] 25 (0, 0))) ∧ Aside0 (wc.heap[gb147]? = some (.cells #[.int .i64 a1_0, .int .i64 a1_1, .int .i64 a1_2, .int .i64 a1_3, .int .i64 a1_4] 53 (0, 0))) ∧ Aside0 (Below w.heap.size w wc))
 case first =>
  have H := HC72.out
  clear HC72
  by_cases c73 : x10_28 = true
  rotate_left
  ·replace c73 := Bool.eq_false_iff.mpr c73
   subst c73
   have H1 : (fencepostref07_right.j5 kj49 a2 a3 (a1_2 != 0) a1_0 a1_1 a1_2 a1_3 a1_4) = some r := by rw [if_neg (show ¬ (false = true) by decide)] at H; exact H
   clear H
   have H := H1
   clear H1
   have H' := Aside0.mk H
   clear H
   have hnb84 := NB147_146.out
   have hnc84 := NB146_147.out
   have hcz85_0 : wc.cell? ⟨gb147, 0, none⟩ = some (.int .i64 a1_0) := (blk_cell BK147.out 0).trans rfl
   have hcz85_1 : wc.cell? ⟨gb147, 1, none⟩ = some (.int .i64 a1_1) := (blk_cell BK147.out 1).trans rfl
   have hcz85_2 : wc.cell? ⟨gb147, 2, none⟩ = some (.int .i64 a1_2) := (blk_cell BK147.out 2).trans rfl
   have hcz85_3 : wc.cell? ⟨gb147, 3, none⟩ = some (.int .i64 a1_3) := (blk_cell BK147.out 3).trans rfl
   have hcz85_4 : wc.cell? ⟨gb147, 4, none⟩ = some (.int .i64 a1_4) := (blk_cell BK147.out 4).trans rfl
   have hfz85_0 := blk_frozen BK147.out 0
   have hfz85_1 := blk_frozen BK147.out 1
   have hfz85_2 := blk_frozen BK147.out 2
   have hfz85_3 := blk_frozen BK147.out 3
   have hfz85_4 := blk_frozen BK147.out 4
   go_wp2
   go_meet
   case rel => exact ⟨_, ((a1_2 != 0)), rf_, H', ⟨by have := HJ4.out; have := HJ13.out; have := HJ28.out; have := HJ40.out; have := HJ49.out; first | omega | exact Nat.le_refl _⟩, ⟨bd_ BK146.out⟩, ⟨bd_ BK147.out⟩, ⟨hb_ HB.out⟩⟩
  subst c73
  have H1 : (if a1_2 < 0 then (fencepostref07_right.j5 kj49 a2 a3 true a1_0 a1_1 a1_2 a1_3 a1_4) else (if a1_2 ≥ (l0_0.length : Int) then (fencepostref07_right.j5 kj49 a2 a3 true a1_0 a1_1 a1_2 a1_3 a1_4) else (fencepostref07_right.j5 kj49 a2 a3 false a1_0 a1_1 a1_2 a1_3 a1_4))) = some r := by rw [if_pos rfl] at H; exact H
  clear H
  have H := H1
  clear H1
  by_cases c74 : a1_2 < 0
  ·rw [if_pos c74] at H
   have c74b0 : decide (a1_2 < 0) = true := decide_eq_true c74
   clear c74
   (first | rw [c74b0] | (simp only [i64_w, i32_w]; rw [c74b0]) | skip)
   have H' := Aside0.mk H
   clear H
   have hnb75 := NB147_146.out
   have hnc75 := NB146_147.out
   have hcz76_0 : wc.cell? ⟨gb147, 0, none⟩ = some (.int .i64 a1_0) := (blk_cell BK147.out 0).trans rfl
   have hcz76_1 : wc.cell? ⟨gb147, 1, none⟩ = some (.int .i64 a1_1) := (blk_cell BK147.out 1).trans rfl
   have hcz76_2 : wc.cell? ⟨gb147, 2, none⟩ = some (.int .i64 a1_2) := (blk_cell BK147.out 2).trans rfl
   have hcz76_3 : wc.cell? ⟨gb147, 3, none⟩ = some (.int .i64 a1_3) := (blk_cell BK147.out 3).trans rfl
   have hcz76_4 : wc.cell? ⟨gb147, 4, none⟩ = some (.int .i64 a1_4) := (blk_cell BK147.out 4).trans rfl
   have hfz76_0 := blk_frozen BK147.out 0
   have hfz76_1 := blk_frozen BK147.out 1
   have hfz76_2 := blk_frozen BK147.out 2
   have hfz76_3 := blk_frozen BK147.out 3
   have hfz76_4 := blk_frozen BK147.out 4
   go_wp2
   go_meet
   case rel => exact ⟨_, (true), rf_, H', ⟨by have := HJ4.out; have := HJ13.out; have := HJ28.out; have := HJ40.out; have := HJ49.out; first | omega | exact Nat.le_refl _⟩, ⟨bd_ BK146.out⟩, ⟨bd_ BK147.out⟩, ⟨hb_ HB.out⟩⟩
  rw [if_neg c74] at H
  have c74b0 : decide (a1_2 < 0) = false := decide_eq_false c74
  clear c74
  (first | rw [c74b0] | (simp only [i64_w, i32_w]; rw [c74b0]) | skip)
  by_cases c77 : a1_2 ≥ (l0_0.length : Int)
  ·rw [if_pos c77] at H
   have c77b0 : decide ((l0_0.length : Int) ≤ a1_2) = true := decide_eq_true c77
   clear c77
   have H' := Aside0.mk H
   clear H
   have hnb78 := NB147_146.out
   have hnc78 := NB146_147.out
   have hcz79_0 : wc.cell? ⟨gb147, 0, none⟩ = some (.int .i64 a1_0) := (blk_cell BK147.out 0).trans rfl
   have hcz79_1 : wc.cell? ⟨gb147, 1, none⟩ = some (.int .i64 a1_1) := (blk_cell BK147.out 1).trans rfl
   have hcz79_2 : wc.cell? ⟨gb147, 2, none⟩ = some (.int .i64 a1_2) := (blk_cell BK147.out 2).trans rfl
   have hcz79_3 : wc.cell? ⟨gb147, 3, none⟩ = some (.int .i64 a1_3) := (blk_cell BK147.out 3).trans rfl
   have hcz79_4 : wc.cell? ⟨gb147, 4, none⟩ = some (.int .i64 a1_4) := (blk_cell BK147.out 4).trans rfl
   have hfz79_0 := blk_frozen BK147.out 0
   have hfz79_1 := blk_frozen BK147.out 1
   have hfz79_2 := blk_frozen BK147.out 2
   have hfz79_3 := blk_frozen BK147.out 3
   have hfz79_4 := blk_frozen BK147.out 4
   have hcz80_0 : wc.cell? ⟨gb146, 0, none⟩ = some (.slice A0_0 l0_0.length c0_0) := (blk_cell BK146.out 0).trans rfl
   have hcz80_1 : wc.cell? ⟨gb146, 1, none⟩ = some (.slice A0_1 l0_1.length c0_1) := (blk_cell BK146.out 1).trans rfl
   have hfz80_0 := blk_frozen BK146.out 0
   have hfz80_1 := blk_frozen BK146.out 1
   go_wp2
   go_meet
   case rel => exact ⟨_, (true), rf_, H', ⟨by have := HJ4.out; have := HJ13.out; have := HJ28.out; have := HJ40.out; have := HJ49.out; first | omega | exact Nat.le_refl _⟩, ⟨bd_ BK146.out⟩, ⟨bd_ BK147.out⟩, ⟨hb_ HB.out⟩⟩
  rw [if_neg c77] at H
  have c77b0 : decide ((l0_0.length : Int) ≤ a1_2) = false := decide_eq_false c77
  clear c77
  have H' := Aside0.mk H
  clear H
  have hnb81 := NB147_146.out
  have hnc81 := NB146_147.out
  have hcz82_0 : wc.cell? ⟨gb147, 0, none⟩ = some (.int .i64 a1_0) := (blk_cell BK147.out 0).trans rfl
  have hcz82_1 : wc.cell? ⟨gb147, 1, none⟩ = some (.int .i64 a1_1) := (blk_cell BK147.out 1).trans rfl
  have hcz82_2 : wc.cell? ⟨gb147, 2, none⟩ = some (.int .i64 a1_2) := (blk_cell BK147.out 2).trans rfl
  have hcz82_3 : wc.cell? ⟨gb147, 3, none⟩ = some (.int .i64 a1_3) := (blk_cell BK147.out 3).trans rfl
  have hcz82_4 : wc.cell? ⟨gb147, 4, none⟩ = some (.int .i64 a1_4) := (blk_cell BK147.out 4).trans rfl
  have hfz82_0 := blk_frozen BK147.out 0
  have hfz82_1 := blk_frozen BK147.out 1
  have hfz82_2 := blk_frozen BK147.out 2
  have hfz82_3 := blk_frozen BK147.out 3
  have hfz82_4 := blk_frozen BK147.out 4
  have hcz83_0 : wc.cell? ⟨gb146, 0, none⟩ = some (.slice A0_0 l0_0.length c0_0) := (blk_cell BK146.out 0).trans rfl
  have hcz83_1 : wc.cell? ⟨gb146, 1, none⟩ = some (.slice A0_1 l0_1.length c0_1) := (blk_cell BK146.out 1).trans rfl
  have hfz83_0 := blk_frozen BK146.out 0
  have hfz83_1 := blk_frozen BK146.out 1
  go_wp2
  go_meet
  case rel => exact ⟨_, (false), rf_, H', ⟨by have := HJ4.out; have := HJ13.out; have := HJ28.out; have := HJ40.out; have := HJ49.out; first | omega | exact Nat.le_refl _⟩, ⟨bd_ BK146.out⟩, ⟨bd_ BK147.out⟩, ⟨hb_ HB.out⟩⟩
 clear HC72
 try clear c13
 try clear c71
 obtain ⟨kq, x122_71, rfl, HA, HJ71, BK146, BK147, HB⟩ := hcut
 cases kq with
 | zero => exact absurd HA.out (by simp [fencepostref07_right.j5])
 | succ kj71 => ?_
 have H := HA.out
 clear HA
 simp only [fencepostref07_right.j5] at H
 by_cases c86 : x122_71 = true
 ·subst c86
  have H1 : (some false) = some r := by rw [if_pos rfl] at H; exact H
  clear H
  have H := H1
  clear H1
  obtain rfl := Option.some.inj H
  go_wp2
  go_ret
  exact ⟨by first | rfl | (simp [errW_none, errW_some] <;> rfl) | (simp [*, errW_none, errW_some] <;> rfl), hb_ HB.out⟩
 replace c86 := Bool.eq_false_iff.mpr c86
 subst c86
 have H1 : (if a1_0 ≥ 8 then (if a1_4 > a2 then (some (decide (a1_4 ≤ a3))) else (some false)) else (some (a1_4 == 0))) = some r := by rw [if_neg (show ¬ (false = true) by decide)] at H; exact H
 clear H
 have H := H1
 clear H1
 by_cases c87 : a1_0 ≥ 8
 rotate_left
 ·rw [if_neg c87] at H
  have c87b0 : decide (8 ≤ a1_0) = false := decide_eq_false c87
  clear c87
  obtain rfl := Option.some.inj H
  have hnb93 := NB147_146.out
  have hnc93 := NB146_147.out
  have hcz94_0 : wc.cell? ⟨gb147, 0, none⟩ = some (.int .i64 a1_0) := (blk_cell BK147.out 0).trans rfl
  have hcz94_1 : wc.cell? ⟨gb147, 1, none⟩ = some (.int .i64 a1_1) := (blk_cell BK147.out 1).trans rfl
  have hcz94_2 : wc.cell? ⟨gb147, 2, none⟩ = some (.int .i64 a1_2) := (blk_cell BK147.out 2).trans rfl
  have hcz94_3 : wc.cell? ⟨gb147, 3, none⟩ = some (.int .i64 a1_3) := (blk_cell BK147.out 3).trans rfl
  have hcz94_4 : wc.cell? ⟨gb147, 4, none⟩ = some (.int .i64 a1_4) := (blk_cell BK147.out 4).trans rfl
  have hfz94_0 := blk_frozen BK147.out 0
  have hfz94_1 := blk_frozen BK147.out 1
  have hfz94_2 := blk_frozen BK147.out 2
  have hfz94_3 := blk_frozen BK147.out 3
  have hfz94_4 := blk_frozen BK147.out 4
  go_wp2
  go_ret
  exact ⟨by first | rfl | (simp [errW_none, errW_some] <;> rfl) | (simp [*, errW_none, errW_some] <;> rfl), hb_ HB.out⟩
 rw [if_pos c87] at H
 have c87b0 : decide (8 ≤ a1_0) = true := decide_eq_true c87
 clear c87
 by_cases c88 : a1_4 > a2
 ·rw [if_pos c88] at H
  have c88b0 : decide (a2 < a1_4) = true := decide_eq_true c88
  clear c88
  obtain rfl := Option.some.inj H
  have hnb89 := NB147_146.out
  have hnc89 := NB146_147.out
  have hcz90_0 : wc.cell? ⟨gb147, 0, none⟩ = some (.int .i64 a1_0) := (blk_cell BK147.out 0).trans rfl
  have hcz90_1 : wc.cell? ⟨gb147, 1, none⟩ = some (.int .i64 a1_1) := (blk_cell BK147.out 1).trans rfl
  have hcz90_2 : wc.cell? ⟨gb147, 2, none⟩ = some (.int .i64 a1_2) := (blk_cell BK147.out 2).trans rfl
  have hcz90_3 : wc.cell? ⟨gb147, 3, none⟩ = some (.int .i64 a1_3) := (blk_cell BK147.out 3).trans rfl
  have hcz90_4 : wc.cell? ⟨gb147, 4, none⟩ = some (.int .i64 a1_4) := (blk_cell BK147.out 4).trans rfl
  have hfz90_0 := blk_frozen BK147.out 0
  have hfz90_1 := blk_frozen BK147.out 1
  have hfz90_2 := blk_frozen BK147.out 2
  have hfz90_3 := blk_frozen BK147.out 3
  have hfz90_4 := blk_frozen BK147.out 4
  go_wp2
  go_ret
  exact ⟨by first | rfl | (simp [errW_none, errW_some] <;> rfl) | (simp [*, errW_none, errW_some] <;> rfl), hb_ HB.out⟩
 rw [if_neg c88] at H
 have c88b0 : decide (a2 < a1_4) = false := decide_eq_false c88
 clear c88
 obtain rfl := Option.some.inj H
 have hnb91 := NB147_146.out
 have hnc91 := NB146_147.out
 have hcz92_0 : wc.cell? ⟨gb147, 0, none⟩ = some (.int .i64 a1_0) := (blk_cell BK147.out 0).trans rfl
 have hcz92_1 : wc.cell? ⟨gb147, 1, none⟩ = some (.int .i64 a1_1) := (blk_cell BK147.out 1).trans rfl
 have hcz92_2 : wc.cell? ⟨gb147, 2, none⟩ = some (.int .i64 a1_2) := (blk_cell BK147.out 2).trans rfl
 have hcz92_3 : wc.cell? ⟨gb147, 3, none⟩ = some (.int .i64 a1_3) := (blk_cell BK147.out 3).trans rfl
 have hcz92_4 : wc.cell? ⟨gb147, 4, none⟩ = some (.int .i64 a1_4) := (blk_cell BK147.out 4).trans rfl
 have hfz92_0 := blk_frozen BK147.out 0
 have hfz92_1 := blk_frozen BK147.out 1
 have hfz92_2 := blk_frozen BK147.out 2
 have hfz92_3 := blk_frozen BK147.out 3
 have hfz92_4 := blk_frozen BK147.out 4
 go_wp2
 go_ret
 exact ⟨by first | rfl | (simp [errW_none, errW_some] <;> rfl) | (simp [*, errW_none, errW_some] <;> rfl), hb_ HB.out⟩
end Go.Proofs.Ytijpfonbeepmfaa.Print
