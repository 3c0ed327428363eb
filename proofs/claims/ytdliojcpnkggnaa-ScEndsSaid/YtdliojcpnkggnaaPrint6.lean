-- Written by ownprint.py (this session's) with the kit's print.py: functions, contracts, rows; Lean checks it.
import Derived.Test.YtdliojcpnkggnaaPrint0
import Derived.Test.YtdliojcpnkggnaaPrint4
import Derived.Test.YtdliojcpnkggnaaPrint5
import Derived.Test.YtdliojcpnkggnaaHHead10
import Derived.Test.YtdliojcpnkggnaaHScBegin
import Derived.Test.YtdliojcpnkggnaaHScStep
namespace Go.Proofs.Ytdliojcpnkggnaa.Print
open Go.RowKit Go.Proofs.YtdliojcpnkggnaaW.PrintWords Go.Proofs.YtdliojcpnkggnaaW.PrintLast Go.Proofs.YtdliojcpnkggnaaW.PrintMore
attribute [local go_sem] max2_int min2_int max_two min_two max_three min_three max_four min_four   -- for this text's walks alone
set_option linter.unusedVariables false
set_option linter.unusedSimpArgs false

/-! ### fencepostlaw10_ScEnds: function 8 -/
mutual
def fencepostlaw10_ScEnds.j0 : Nat → List Int → Bool → Bool → List Int → List (List (S39)) → Option (Bool)
  | 0, _, _, _, _, _ => none
  | k + 1, x1, x5, x22, x127000, x127001 => if x22 = true then (some x5) else ((sc_Begin.f x127000 x127001).bind fun bt129 => (fencepostlaw10_ScEnds.l0 k x1 x5 0 0 x127000 x127001 bt129.1 bt129.2))
def fencepostlaw10_ScEnds.l0 : Nat → List Int → Bool → Int → Int → List Int → List (List (S39)) → List Int → List (S45) → Option (Bool)
  | 0, _, _, _, _, _, _, _, _ => none
  | k + 1, x1, x5, x7, x8, x127000, x127001, x136000, x136001 => if x8 < (x127001.length : Int) then (if 0 ≤ x8 then (fencepostlaw10_ScEnds.l0 k x1 x5 (wrap64 (x7 + ((rd_L3 x127001 x8).length : Int))) (wrap64 (x8 + 1)) x127000 x127001 x136000 x136001) else (none)) else (fencepostlaw10_ScEnds.l1 k x1 x5 x7 0 x127000 x127001 x136000 x136001)
def fencepostlaw10_ScEnds.l1 : Nat → List Int → Bool → Int → Int → List Int → List (List (S39)) → List Int → List (S45) → Option (Bool)
  | 0, _, _, _, _, _, _, _, _ => none
  | k + 1, x1, x5, x7, x9, x127000, x127001, x136000, x136001 => if x9 ≤ x7 then ((fencepostref10_Right.f k x127000 x127001 x136000 x136001).bind fun t137 => (if t137 = true then (if x9 < (x1.length : Int) then (if 0 ≤ x9 then (fencepostlaw10_ScEnds.j3 k x1 x5 x7 x9 (wrap64 (rd x1 x9)) x127000 x127001 x136000 x136001) else (none)) else (fencepostlaw10_ScEnds.j3 k x1 x5 x7 x9 0 x127000 x127001 x136000 x136001)) else (some false))) else (some false)
def fencepostlaw10_ScEnds.j3 : Nat → List Int → Bool → Int → Int → Int → List Int → List (List (S39)) → List Int → List (S45) → Option (Bool)
  | 0, _, _, _, _, _, _, _, _, _ => none
  | k + 1, x1, x5, x7, x9, x10, x127000, x127001, x136000, x136001 => fencepostlaw10_ScEnds.l2 k x1 x5 x7 x9 x10 false 0 x127000 x127001 x136000 x136001
def fencepostlaw10_ScEnds.l2 : Nat → List Int → Bool → Int → Int → Int → Bool → Int → List Int → List (List (S39)) → List Int → List (S45) → Option (Bool)
  | 0, _, _, _, _, _, _, _, _, _, _, _ => none
  | k + 1, x1, x5, x7, x9, x10, x11, x12, x127000, x127001, x136000, x136001 => if x12 < (x127001.length : Int) then (fencepostlaw10_ScEnds.j5 k x1 x5 x7 x9 x10 x11 x12 (!x11) x127000 x127001 x136000 x136001) else (fencepostlaw10_ScEnds.j5 k x1 x5 x7 x9 x10 x11 x12 false x127000 x127001 x136000 x136001)
def fencepostlaw10_ScEnds.j5 : Nat → List Int → Bool → Int → Int → Int → Bool → Int → Bool → List Int → List (List (S39)) → List Int → List (S45) → Option (Bool)
  | 0, _, _, _, _, _, _, _, _, _, _, _, _ => none
  | k + 1, x1, x5, x7, x9, x10, x11, x12, x67, x127000, x127001, x136000, x136001 => if x67 = true then (if (x127001.length : Int) = 0 then (none) else ((sc_Step.f x127000 x127001 x136000 x136001 (Int.tmod (wrap64 (x10 + x12)) (x127001.length : Int))).bind fun bt139 => (if bt139.2.2 = true then (fencepostlaw10_ScEnds.l2 k x1 x5 x7 x9 x10 true (wrap64 (x12 + 1)) x127000 x127001 bt139.1 bt139.2.1) else (fencepostlaw10_ScEnds.l2 k x1 x5 x7 x9 x10 x11 (wrap64 (x12 + 1)) x127000 x127001 x136000 x136001)))) else (if x11 = true then (fencepostlaw10_ScEnds.l1 k x1 x5 x7 (wrap64 (x9 + 1)) x127000 x127001 x136000 x136001) else (some x5))
end
def fencepostlaw10_ScEnds.f (k : Nat) (l0_0 : List Int) (l0_1 : List (List (S39))) (l1 : List Int) : Option (Bool) := (fencepostlaw10_head.f).bind fun t127 => ((fencepostlaw10_Great.f k l0_0 l0_1).bind fun t128 => (if t128 = true then (fencepostlaw10_ScEnds.j0 k l1 t127 true l0_0 l0_1) else (fencepostlaw10_ScEnds.j0 k l1 t127 (decide ((l1.length : Int) > 100)) l0_0 l0_1)))
theorem fencepostlaw10_ScEnds.mono_l : ∀ k, (∀ y0 y1 y2 y3 y4, LeO (fencepostlaw10_ScEnds.j0 k y0 y1 y2 y3 y4) (fencepostlaw10_ScEnds.j0 (k + 1) y0 y1 y2 y3 y4)) ∧ (∀ y0 y1 y2 y3 y4 y5 y6 y7, LeO (fencepostlaw10_ScEnds.l0 k y0 y1 y2 y3 y4 y5 y6 y7) (fencepostlaw10_ScEnds.l0 (k + 1) y0 y1 y2 y3 y4 y5 y6 y7)) ∧ (∀ y0 y1 y2 y3 y4 y5 y6 y7, LeO (fencepostlaw10_ScEnds.l1 k y0 y1 y2 y3 y4 y5 y6 y7) (fencepostlaw10_ScEnds.l1 (k + 1) y0 y1 y2 y3 y4 y5 y6 y7)) ∧ (∀ y0 y1 y2 y3 y4 y5 y6 y7 y8, LeO (fencepostlaw10_ScEnds.j3 k y0 y1 y2 y3 y4 y5 y6 y7 y8) (fencepostlaw10_ScEnds.j3 (k + 1) y0 y1 y2 y3 y4 y5 y6 y7 y8)) ∧ (∀ y0 y1 y2 y3 y4 y5 y6 y7 y8 y9 y10, LeO (fencepostlaw10_ScEnds.l2 k y0 y1 y2 y3 y4 y5 y6 y7 y8 y9 y10) (fencepostlaw10_ScEnds.l2 (k + 1) y0 y1 y2 y3 y4 y5 y6 y7 y8 y9 y10)) ∧ (∀ y0 y1 y2 y3 y4 y5 y6 y7 y8 y9 y10 y11, LeO (fencepostlaw10_ScEnds.j5 k y0 y1 y2 y3 y4 y5 y6 y7 y8 y9 y10 y11) (fencepostlaw10_ScEnds.j5 (k + 1) y0 y1 y2 y3 y4 y5 y6 y7 y8 y9 y10 y11))
  | 0 => ⟨fun _ _ _ _ _ r h => by simp [fencepostlaw10_ScEnds.j0] at h, fun _ _ _ _ _ _ _ _ r h => by simp [fencepostlaw10_ScEnds.l0] at h, fun _ _ _ _ _ _ _ _ r h => by simp [fencepostlaw10_ScEnds.l1] at h, fun _ _ _ _ _ _ _ _ _ r h => by simp [fencepostlaw10_ScEnds.j3] at h, fun _ _ _ _ _ _ _ _ _ _ _ r h => by simp [fencepostlaw10_ScEnds.l2] at h, fun _ _ _ _ _ _ _ _ _ _ _ _ r h => by simp [fencepostlaw10_ScEnds.j5] at h⟩
  | k + 1 => by
    obtain ⟨ih0, ih1, ih2, ih3, ih4, ih5⟩ := fencepostlaw10_ScEnds.mono_l k
    refine ⟨?_, ?_, ?_, ?_, ?_, ?_⟩
    · intro y0 y1 y2 y3 y4
      unfold fencepostlaw10_ScEnds.j0
      repeat' first
      | (with_reducible exact ih0 _ _ _ _ _)
      | (with_reducible exact ih1 _ _ _ _ _ _ _ _)
      | (with_reducible exact ih2 _ _ _ _ _ _ _ _)
      | (with_reducible exact ih3 _ _ _ _ _ _ _ _ _)
      | (with_reducible exact ih4 _ _ _ _ _ _ _ _ _ _ _)
      | (with_reducible exact ih5 _ _ _ _ _ _ _ _ _ _ _ _)
      | (with_reducible exact fencepostlaw10_Great.mono _ _ _)
      | (with_reducible exact fencepostref10_Right.mono _ _ _ _ _)
      | (with_reducible exact LeO.refl _)
      | (with_reducible exact LeO.none _)
      | (with_reducible refine LeO.ite ?_ ?_)
      | (with_reducible refine LeO.bind ?_ (fun _ => ?_))
      | exact ih0 _ _ _ _ _
      | exact ih1 _ _ _ _ _ _ _ _
      | exact ih2 _ _ _ _ _ _ _ _
      | exact ih3 _ _ _ _ _ _ _ _ _
      | exact ih4 _ _ _ _ _ _ _ _ _ _ _
      | exact ih5 _ _ _ _ _ _ _ _ _ _ _ _
      | exact fencepostlaw10_Great.mono _ _ _
      | exact fencepostref10_Right.mono _ _ _ _ _
      | exact LeO.none _
      | refine LeO.ite ?_ ?_
      | refine LeO.bind ?_ (fun _ => ?_)
    · intro y0 y1 y2 y3 y4 y5 y6 y7
      unfold fencepostlaw10_ScEnds.l0
      repeat' first
      | (with_reducible exact ih0 _ _ _ _ _)
      | (with_reducible exact ih1 _ _ _ _ _ _ _ _)
      | (with_reducible exact ih2 _ _ _ _ _ _ _ _)
      | (with_reducible exact ih3 _ _ _ _ _ _ _ _ _)
      | (with_reducible exact ih4 _ _ _ _ _ _ _ _ _ _ _)
      | (with_reducible exact ih5 _ _ _ _ _ _ _ _ _ _ _ _)
      | (with_reducible exact fencepostlaw10_Great.mono _ _ _)
      | (with_reducible exact fencepostref10_Right.mono _ _ _ _ _)
      | (with_reducible exact LeO.refl _)
      | (with_reducible exact LeO.none _)
      | (with_reducible refine LeO.ite ?_ ?_)
      | (with_reducible refine LeO.bind ?_ (fun _ => ?_))
      | exact ih0 _ _ _ _ _
      | exact ih1 _ _ _ _ _ _ _ _
      | exact ih2 _ _ _ _ _ _ _ _
      | exact ih3 _ _ _ _ _ _ _ _ _
      | exact ih4 _ _ _ _ _ _ _ _ _ _ _
      | exact ih5 _ _ _ _ _ _ _ _ _ _ _ _
      | exact fencepostlaw10_Great.mono _ _ _
      | exact fencepostref10_Right.mono _ _ _ _ _
      | exact LeO.none _
      | refine LeO.ite ?_ ?_
      | refine LeO.bind ?_ (fun _ => ?_)
    · intro y0 y1 y2 y3 y4 y5 y6 y7
      unfold fencepostlaw10_ScEnds.l1
      repeat' first
      | (with_reducible exact ih0 _ _ _ _ _)
      | (with_reducible exact ih1 _ _ _ _ _ _ _ _)
      | (with_reducible exact ih2 _ _ _ _ _ _ _ _)
      | (with_reducible exact ih3 _ _ _ _ _ _ _ _ _)
      | (with_reducible exact ih4 _ _ _ _ _ _ _ _ _ _ _)
      | (with_reducible exact ih5 _ _ _ _ _ _ _ _ _ _ _ _)
      | (with_reducible exact fencepostlaw10_Great.mono _ _ _)
      | (with_reducible exact fencepostref10_Right.mono _ _ _ _ _)
      | (with_reducible exact LeO.refl _)
      | (with_reducible exact LeO.none _)
      | (with_reducible refine LeO.ite ?_ ?_)
      | (with_reducible refine LeO.bind ?_ (fun _ => ?_))
      | exact ih0 _ _ _ _ _
      | exact ih1 _ _ _ _ _ _ _ _
      | exact ih2 _ _ _ _ _ _ _ _
      | exact ih3 _ _ _ _ _ _ _ _ _
      | exact ih4 _ _ _ _ _ _ _ _ _ _ _
      | exact ih5 _ _ _ _ _ _ _ _ _ _ _ _
      | exact fencepostlaw10_Great.mono _ _ _
      | exact fencepostref10_Right.mono _ _ _ _ _
      | exact LeO.none _
      | refine LeO.ite ?_ ?_
      | refine LeO.bind ?_ (fun _ => ?_)
    · intro y0 y1 y2 y3 y4 y5 y6 y7 y8
      unfold fencepostlaw10_ScEnds.j3
      repeat' first
      | (with_reducible exact ih0 _ _ _ _ _)
      | (with_reducible exact ih1 _ _ _ _ _ _ _ _)
      | (with_reducible exact ih2 _ _ _ _ _ _ _ _)
      | (with_reducible exact ih3 _ _ _ _ _ _ _ _ _)
      | (with_reducible exact ih4 _ _ _ _ _ _ _ _ _ _ _)
      | (with_reducible exact ih5 _ _ _ _ _ _ _ _ _ _ _ _)
      | (with_reducible exact fencepostlaw10_Great.mono _ _ _)
      | (with_reducible exact fencepostref10_Right.mono _ _ _ _ _)
      | (with_reducible exact LeO.refl _)
      | (with_reducible exact LeO.none _)
      | (with_reducible refine LeO.ite ?_ ?_)
      | (with_reducible refine LeO.bind ?_ (fun _ => ?_))
      | exact ih0 _ _ _ _ _
      | exact ih1 _ _ _ _ _ _ _ _
      | exact ih2 _ _ _ _ _ _ _ _
      | exact ih3 _ _ _ _ _ _ _ _ _
      | exact ih4 _ _ _ _ _ _ _ _ _ _ _
      | exact ih5 _ _ _ _ _ _ _ _ _ _ _ _
      | exact fencepostlaw10_Great.mono _ _ _
      | exact fencepostref10_Right.mono _ _ _ _ _
      | exact LeO.none _
      | refine LeO.ite ?_ ?_
      | refine LeO.bind ?_ (fun _ => ?_)
    · intro y0 y1 y2 y3 y4 y5 y6 y7 y8 y9 y10
      unfold fencepostlaw10_ScEnds.l2
      repeat' first
      | (with_reducible exact ih0 _ _ _ _ _)
      | (with_reducible exact ih1 _ _ _ _ _ _ _ _)
      | (with_reducible exact ih2 _ _ _ _ _ _ _ _)
      | (with_reducible exact ih3 _ _ _ _ _ _ _ _ _)
      | (with_reducible exact ih4 _ _ _ _ _ _ _ _ _ _ _)
      | (with_reducible exact ih5 _ _ _ _ _ _ _ _ _ _ _ _)
      | (with_reducible exact fencepostlaw10_Great.mono _ _ _)
      | (with_reducible exact fencepostref10_Right.mono _ _ _ _ _)
      | (with_reducible exact LeO.refl _)
      | (with_reducible exact LeO.none _)
      | (with_reducible refine LeO.ite ?_ ?_)
      | (with_reducible refine LeO.bind ?_ (fun _ => ?_))
      | exact ih0 _ _ _ _ _
      | exact ih1 _ _ _ _ _ _ _ _
      | exact ih2 _ _ _ _ _ _ _ _
      | exact ih3 _ _ _ _ _ _ _ _ _
      | exact ih4 _ _ _ _ _ _ _ _ _ _ _
      | exact ih5 _ _ _ _ _ _ _ _ _ _ _ _
      | exact fencepostlaw10_Great.mono _ _ _
      | exact fencepostref10_Right.mono _ _ _ _ _
      | exact LeO.none _
      | refine LeO.ite ?_ ?_
      | refine LeO.bind ?_ (fun _ => ?_)
    · intro y0 y1 y2 y3 y4 y5 y6 y7 y8 y9 y10 y11
      unfold fencepostlaw10_ScEnds.j5
      repeat' first
      | (with_reducible exact ih0 _ _ _ _ _)
      | (with_reducible exact ih1 _ _ _ _ _ _ _ _)
      | (with_reducible exact ih2 _ _ _ _ _ _ _ _)
      | (with_reducible exact ih3 _ _ _ _ _ _ _ _ _)
      | (with_reducible exact ih4 _ _ _ _ _ _ _ _ _ _ _)
      | (with_reducible exact ih5 _ _ _ _ _ _ _ _ _ _ _ _)
      | (with_reducible exact fencepostlaw10_Great.mono _ _ _)
      | (with_reducible exact fencepostref10_Right.mono _ _ _ _ _)
      | (with_reducible exact LeO.refl _)
      | (with_reducible exact LeO.none _)
      | (with_reducible refine LeO.ite ?_ ?_)
      | (with_reducible refine LeO.bind ?_ (fun _ => ?_))
      | exact ih0 _ _ _ _ _
      | exact ih1 _ _ _ _ _ _ _ _
      | exact ih2 _ _ _ _ _ _ _ _
      | exact ih3 _ _ _ _ _ _ _ _ _
      | exact ih4 _ _ _ _ _ _ _ _ _ _ _
      | exact ih5 _ _ _ _ _ _ _ _ _ _ _ _
      | exact fencepostlaw10_Great.mono _ _ _
      | exact fencepostref10_Right.mono _ _ _ _ _
      | exact LeO.none _
      | refine LeO.ite ?_ ?_
      | refine LeO.bind ?_ (fun _ => ?_)
theorem fencepostlaw10_ScEnds.mono : ∀ a0 a1 a2 k, LeO (fencepostlaw10_ScEnds.f k a0 a1 a2) (fencepostlaw10_ScEnds.f (k + 1) a0 a1 a2) := by
  intro a0 a1 a2 k
  obtain ⟨ih0, ih1, ih2, ih3, ih4, ih5⟩ := fencepostlaw10_ScEnds.mono_l k
  unfold fencepostlaw10_ScEnds.f
  repeat' first
      | (with_reducible exact ih0 _ _ _ _ _)
      | (with_reducible exact ih1 _ _ _ _ _ _ _ _)
      | (with_reducible exact ih2 _ _ _ _ _ _ _ _)
      | (with_reducible exact ih3 _ _ _ _ _ _ _ _ _)
      | (with_reducible exact ih4 _ _ _ _ _ _ _ _ _ _ _)
      | (with_reducible exact ih5 _ _ _ _ _ _ _ _ _ _ _ _)
      | (with_reducible exact fencepostlaw10_Great.mono _ _ _)
      | (with_reducible exact fencepostref10_Right.mono _ _ _ _ _)
      | (with_reducible exact LeO.refl _)
      | (with_reducible exact LeO.none _)
      | (with_reducible refine LeO.ite ?_ ?_)
      | (with_reducible refine LeO.bind ?_ (fun _ => ?_))
      | exact ih0 _ _ _ _ _
      | exact ih1 _ _ _ _ _ _ _ _
      | exact ih2 _ _ _ _ _ _ _ _
      | exact ih3 _ _ _ _ _ _ _ _ _
      | exact ih4 _ _ _ _ _ _ _ _ _ _ _
      | exact ih5 _ _ _ _ _ _ _ _ _ _ _ _
      | exact fencepostlaw10_Great.mono _ _ _
      | exact fencepostref10_Right.mono _ _ _ _ _
      | exact LeO.none _
      | refine LeO.ite ?_ ?_
      | refine LeO.bind ?_ (fun _ => ?_)
def fencepostlaw10_ScEnds.T22 : Bool × List (List Nat × List Nat) := (true, [([], []), ([], []), ([], []), ([], []), ([2, 3], [2, 3]), ([], []), ([5], [5]), ([6], [6]), ([4, 7], [4, 7]), ([0, 1, 8], [0, 1, 8]), ([9], [9]), ([10], [10]), ([10], [10]), ([], []), ([13, 11, 9, 0, 1, 2, 3, 4, 5, 6, 7, 8, 9, 10, 11, 13], [11, 13]), ([12, 14, 0, 1, 2, 3, 4, 5, 6, 7, 8, 9, 10, 11, 12, 13, 14], [12])])
def fencepostlaw10_ScEnds.B22 : List Nat := [0, 0, 0, 0, 12, 0, 32, 96, 252, 511, 1023, 2047, 2047, 0, 12287, 32767]
theorem fencepostlaw10_ScEnds.tab22 : rtab .any (opsOf Try.f8 22) = fencepostlaw10_ScEnds.T22 := by kernel_rfl
theorem fencepostlaw10_ScEnds.bits22 : waitsOk fencepostlaw10_ScEnds.T22.2 fencepostlaw10_ScEnds.B22 = true := by kernel_rfl
set_option maxHeartbeats 8000000 in
set_option maxRecDepth 100000 in
theorem fencepostlaw10_ScEnds.calls (k : Nat) (A0_0 : Option Addr) (c0_0 : Nat) (l0_0 : List Int) (A0_1 : Option Addr) (c0_1 : Nat) (l0_1 : List (List (S39))) (A1 : Option Addr) (c1 : Nat) (l1 : List Int) (r : Bool) (w : World) (hr0_0 : Kd.C (Kd.int .i64) w A0_0 l0_0.length l0_0) (hc0_0 : l0_0.length ≤ c0_0) (hr0_1 : Kd.C (Kd.slice 39 k39) w A0_1 l0_1.length l0_1) (hc0_1 : l0_1.length ≤ c0_1) (hr1 : Kd.C (Kd.int .u8) w A1 l1.length l1) (hc1 : l1.length ≤ c1) (ht_ : r = true) (h : fencepostlaw10_ScEnds.f k l0_0 l0_1 l1 = some r) :
    Calls Try.prog 8 #[.agg #[.slice A0_0 l0_0.length c0_0, .slice A0_1 l0_1.length c0_1], .slice A1 l1.length c1] w fun e w' => e = .returned (.bool r) ∧ Below w.heap.size w w' := by
  have hu25 := Try.underlying25
  have hu28 := Try.underlying28
  have HR0_0 := Aside0.mk hr0_0
  have HC0_0 := Aside0.mk hc0_0
  clear hr0_0 hc0_0
  have HR0_1 := Aside0.mk hr0_1
  have HC0_1 := Aside0.mk hc0_1
  clear hr0_1 hc0_1
  have HR1 := Aside0.mk hr1
  have HC1 := Aside0.mk hc1
  clear hr1 hc1
  have HB := Aside0.mk (Below.refl w.heap.size w)
  have HT := Aside0.mk ht_
  clear ht_
  have H : ((fencepostlaw10_head.f).bind fun t127 => ((fencepostlaw10_Great.f k l0_0 l0_1).bind fun t128 => (if t128 = true then (fencepostlaw10_ScEnds.j0 k l1 t127 true l0_0 l0_1) else (fencepostlaw10_ScEnds.j0 k l1 t127 (decide ((l1.length : Int) > 100)) l0_0 l0_1)))) = some r := h
  clear h
  replace H := Option.bind_eq_some_iff.mp H
  obtain ⟨t127, A30, H⟩ := H
  replace H : ((fencepostlaw10_Great.f k l0_0 l0_1).bind fun t128 => (if t128 = true then (fencepostlaw10_ScEnds.j0 k l1 t127 true l0_0 l0_1) else (fencepostlaw10_ScEnds.j0 k l1 t127 (decide ((l1.length : Int) > 100)) l0_0 l0_1))) = some r := H
  have A3 := Aside0.mk A30
  clear A30
  have HC4 := Aside0.mk H
  clear H
  go_enter Try.func8, Try.ntmps8
  (try simp only [List.append_eq, List.cons_append, List.nil_append])
  go_upto_region 2 with (first | ((with_reducible refine gate_dst (N := 2) rfl ?_); (try (refine gate_guard (by rfl) ?_; dsimp only)); refine box_event ?hg (N := 2) ?hd (cs := #[.slice A0_0 l0_0.length c0_0, .slice A0_1 l0_1.length c0_1]) (t := 25) ?hr ?_; (case hd => rfl); (case hg => rfl); (case hr => first | (go_simp; done) | (go_simp; rfl)); intro gb126 hg w5 hbox hb; have n0_ := Aside0.mk (below_step (by repeat (first | (with_reducible first | exact HB.out | apply below_alloc | apply pw_below_drewN | apply below_drew1) | exact HB.out)) hb); have n1_ := Aside0.mk (hbox); have n2_ := Aside0.mk ((by rw [hg]; exact (below_size (by repeat (first | (with_reducible first | exact HB.out | apply below_alloc | apply pw_below_drewN | apply below_drew1) | exact HB.out))) : w.heap.size ≤ gb126)); have n3_ := Aside0.mk ((by rw [hg]; exact (below_size (by repeat (first | (with_reducible first | exact HB.out | apply below_alloc | apply pw_below_drewN | apply below_drew1) | exact HB.out))) : w.heap.size ≤ gb126)); clear HB; have HB := n0_; have BK126 := n1_; have GW126 := n2_; have GE126 := n3_; clear n0_ n1_ n2_ n3_; clear hb hbox hg) | ((with_reducible refine gate_callee (f := 9) rfl ?_); refine goesL_ (some 15) rfl rfl Try.func9 (by kernel_rfl) rfl #[] rfl (by (try simp only [List.map_toArray, List.map_cons, List.map_nil]); first | done | rfl | (simp only [List.length_drop, List.length_take]; rfl)) ?_; (with_reducible refine (fencepostlaw10_head.calls  t127 _ A3.out).mono ?_); rintro e w6 ⟨rfl, hb⟩; refine ⟨_, rfl, ?_⟩; have n0_ := Aside0.mk (blk_below (g := gb126) (o := .cells #[.slice A0_0 l0_0.length c0_0, .slice A0_1 l0_1.length c0_1] 25 (0, 0)) (by (with_reducible repeat (first | refine blk_drewN ?_ _ | refine blk_drew ?_ | refine blk_alloc ?_ _)); exact BK126.out) hb); have n1_ := Aside0.mk (below_step (by repeat (first | (with_reducible first | exact HB.out | apply below_alloc | apply pw_below_drewN | apply below_drew1 | refine below_set ?_ GE126.out) | exact HB.out)) hb); clear BK126; clear HB; have BK126 := n0_; have HB := n1_; clear n0_ n1_; (try clear hb); (try clear hb2); (try clear hk); (try clear hi)))
  (try simp only [Act.put, List.setIfInBounds_toArray, List.set_cons_zero, List.set_cons_succ])
  go_cut [22] (fun v22 wc => ∃ (kq : Nat) (x22_3 : Bool), v22 = .bool x22_3 ∧ Aside0 (fencepostlaw10_ScEnds.j0 kq l1 t127 x22_3 l0_0 l0_1 = some r) ∧ Aside0 (kq ≤ k) ∧ Aside0 (wc.heap[gb126]? = some (.cells #[(.slice A0_0 l0_0.length c0_0), (.slice A0_1 l0_1.length c0_1)] 25 (0, 0))) ∧ Aside0 (Below w.heap.size w wc))
  case first =>
    have H := HC4.out
    clear HC4
    replace H := Option.bind_eq_some_iff.mp H
    obtain ⟨t128, A70, H⟩ := H
    replace H : (if t128 = true then (fencepostlaw10_ScEnds.j0 k l1 t127 true l0_0 l0_1) else (fencepostlaw10_ScEnds.j0 k l1 t127 (decide ((l1.length : Int) > 100)) l0_0 l0_1)) = some r := H
    have A7 := Aside0.mk A70
    clear A70
    by_cases c8 : t128 = true
    · subst c8
      have H1 : (fencepostlaw10_ScEnds.j0 k l1 t127 true l0_0 l0_1) = some r := by rw [if_pos rfl] at H; exact H
      clear H
      have H := H1
      clear H1
      have H' := Aside0.mk H
      clear H
      have hcz9_0 : w6.cell? ⟨gb126, 0, none⟩ = some (.slice A0_0 l0_0.length c0_0) := (blk_cell BK126.out 0).trans rfl
      have hcz9_1 : w6.cell? ⟨gb126, 1, none⟩ = some (.slice A0_1 l0_1.length c0_1) := (blk_cell BK126.out 1).trans rfl
      have hfz9_0 := blk_frozen BK126.out 0
      have hfz9_1 := blk_frozen BK126.out 1
      go_wp2_with (first | ((with_reducible refine gate_callee (f := 10) rfl ?_); refine goesL_ (some 17) rfl rfl Try.func10 (by kernel_rfl) rfl #[.agg #[.slice A0_0 l0_0.length c0_0, .slice A0_1 l0_1.length c0_1]] rfl (by (try simp only [List.map_toArray, List.map_cons, List.map_nil]); first | done | rfl | (simp only [List.length_drop, List.length_take]; rfl)) ?_; (with_reducible refine (fencepostlaw10_Great.calls k _ _ l0_0 _ _ l0_1 true _ ?side1 ?side2 ?side3 ?side4 A7.out).mono ?_); (case side1 => repeat (first | exact (Kd.C_below HR0_0.out HB.out) | (with_reducible refine Kd.C_alloc ?_ _) | (with_reducible refine Kd.C_drewN ?_ _) | (with_reducible refine Kd.C_drew ?_))); (case side2 => exact HC0_0.out); (case side3 => repeat (first | exact (Kd.C_below HR0_1.out HB.out) | (with_reducible refine Kd.C_alloc ?_ _) | (with_reducible refine Kd.C_drewN ?_ _) | (with_reducible refine Kd.C_drew ?_))); (case side4 => exact HC0_1.out); rintro e w10 ⟨rfl, hb⟩; refine ⟨_, rfl, ?_⟩; have n0_ := Aside0.mk (blk_below (g := gb126) (o := .cells #[.slice A0_0 l0_0.length c0_0, .slice A0_1 l0_1.length c0_1] 25 (0, 0)) (by (with_reducible repeat (first | refine blk_drewN ?_ _ | refine blk_drew ?_ | refine blk_alloc ?_ _)); exact BK126.out) hb); have n1_ := Aside0.mk (below_step (by repeat (first | (with_reducible first | exact HB.out | apply below_alloc | apply pw_below_drewN | apply below_drew1 | refine below_set ?_ GE126.out) | exact HB.out)) hb); clear BK126; clear HB; have BK126 := n0_; have HB := n1_; clear n0_ n1_; (try clear hb); (try clear hb2); (try clear hk); (try clear hi)))
      go_meet
      case rel => exact ⟨_, (true), (by first | rfl | (simp; done) | (simp [*]; done)), H', ⟨by first | omega | exact Nat.le_refl _⟩, ⟨by (with_reducible repeat (first | refine blk_drewN ?_ _ | refine blk_drew ?_ | refine blk_alloc ?_ _)); exact BK126.out⟩, ⟨by repeat (first | (with_reducible first | exact HB.out | apply below_alloc | apply pw_below_drewN | apply below_drew1 | refine below_set ?_ GE126.out) | exact HB.out)⟩⟩
    · replace c8 := Bool.eq_false_iff.mpr c8
      subst c8
      have H1 : (fencepostlaw10_ScEnds.j0 k l1 t127 (decide ((l1.length : Int) > 100)) l0_0 l0_1) = some r := by rw [if_neg (show ¬ (false = true) by decide)] at H; exact H
      clear H
      have H := H1
      clear H1
      have H' := Aside0.mk H
      clear H
      have hcz11_0 : w6.cell? ⟨gb126, 0, none⟩ = some (.slice A0_0 l0_0.length c0_0) := (blk_cell BK126.out 0).trans rfl
      have hcz11_1 : w6.cell? ⟨gb126, 1, none⟩ = some (.slice A0_1 l0_1.length c0_1) := (blk_cell BK126.out 1).trans rfl
      have hfz11_0 := blk_frozen BK126.out 0
      have hfz11_1 := blk_frozen BK126.out 1
      go_wp2_with (first | ((with_reducible refine gate_callee (f := 10) rfl ?_); refine goesL_ (some 17) rfl rfl Try.func10 (by kernel_rfl) rfl #[.agg #[.slice A0_0 l0_0.length c0_0, .slice A0_1 l0_1.length c0_1]] rfl (by (try simp only [List.map_toArray, List.map_cons, List.map_nil]); first | done | rfl | (simp only [List.length_drop, List.length_take]; rfl)) ?_; (with_reducible refine (fencepostlaw10_Great.calls k _ _ l0_0 _ _ l0_1 false _ ?side1 ?side2 ?side3 ?side4 A7.out).mono ?_); (case side1 => repeat (first | exact (Kd.C_below HR0_0.out HB.out) | (with_reducible refine Kd.C_alloc ?_ _) | (with_reducible refine Kd.C_drewN ?_ _) | (with_reducible refine Kd.C_drew ?_))); (case side2 => exact HC0_0.out); (case side3 => repeat (first | exact (Kd.C_below HR0_1.out HB.out) | (with_reducible refine Kd.C_alloc ?_ _) | (with_reducible refine Kd.C_drewN ?_ _) | (with_reducible refine Kd.C_drew ?_))); (case side4 => exact HC0_1.out); rintro e w12 ⟨rfl, hb⟩; refine ⟨_, rfl, ?_⟩; have n0_ := Aside0.mk (blk_below (g := gb126) (o := .cells #[.slice A0_0 l0_0.length c0_0, .slice A0_1 l0_1.length c0_1] 25 (0, 0)) (by (with_reducible repeat (first | refine blk_drewN ?_ _ | refine blk_drew ?_ | refine blk_alloc ?_ _)); exact BK126.out) hb); have n1_ := Aside0.mk (below_step (by repeat (first | (with_reducible first | exact HB.out | apply below_alloc | apply pw_below_drewN | apply below_drew1 | refine below_set ?_ GE126.out) | exact HB.out)) hb); clear BK126; clear HB; have BK126 := n0_; have HB := n1_; clear n0_ n1_; (try clear hb); (try clear hb2); (try clear hk); (try clear hi)))
      go_meet
      case rel => exact ⟨_, (decide ((l1.length : Int) > 100)), (by first | rfl | (simp; done) | (simp [*]; done)), H', ⟨by first | omega | exact Nat.le_refl _⟩, ⟨by (with_reducible repeat (first | refine blk_drewN ?_ _ | refine blk_drew ?_ | refine blk_alloc ?_ _)); exact BK126.out⟩, ⟨by repeat (first | (with_reducible first | exact HB.out | apply below_alloc | apply pw_below_drewN | apply below_drew1 | refine below_set ?_ GE126.out) | exact HB.out)⟩⟩
  case rest =>
    clear HC4
    try clear c1
    try clear p2
    try clear c8
    try clear c9
    try clear c10
    try clear hcz11_0
    try clear hcz11_1
    try clear hcz9_0
    try clear hcz9_1
    try clear hfz11_0
    try clear hfz11_1
    try clear hfz9_0
    try clear hfz9_1
    obtain ⟨kq, x22_3, rfl, HA, HJ3, BK126, HB⟩ := hcut
    cases kq with
    | zero => exact absurd HA.out (by simp [fencepostlaw10_ScEnds.j0])
    | succ kj3 =>
      have H := HA.out
      clear HA
      simp only [fencepostlaw10_ScEnds.j0] at H
      by_cases c13 : x22_3 = true
      · subst c13
        have H1 : (some t127) = some r := by rw [if_pos rfl] at H; exact H
        clear H
        have H := H1
        clear H1
        obtain rfl := Option.some.inj H
        go_wp2
        go_ret
        exact ⟨by first | rfl | (simp [errW_none, errW_some] <;> rfl) | (simp [*, errW_none, errW_some] <;> rfl), by repeat (first | (with_reducible first | exact HB.out | apply below_alloc | apply pw_below_drewN | apply below_drew1 | refine below_set ?_ GE126.out) | exact HB.out)⟩
      · replace c13 := Bool.eq_false_iff.mpr c13
        subst c13
        have H1 : ((sc_Begin.f l0_0 l0_1).bind fun bt129 => (fencepostlaw10_ScEnds.l0 kj3 l1 t127 0 0 l0_0 l0_1 bt129.1 bt129.2)) = some r := by rw [if_neg (show ¬ (false = true) by decide)] at H; exact H
        clear H
        have H := H1
        clear H1
        replace H := Option.bind_eq_some_iff.mp H
        obtain ⟨⟨t129, t132⟩, A140, H⟩ := H
        replace H : (fencepostlaw10_ScEnds.l0 kj3 l1 t127 0 0 l0_0 l0_1 t129 t132) = some r := H
        have A14 := Aside0.mk A140
        clear A140
        have H' := Aside0.mk H
        clear H
        have hcz15_0 : wc.cell? ⟨gb126, 0, none⟩ = some (.slice A0_0 l0_0.length c0_0) := (blk_cell BK126.out 0).trans rfl
        have hcz15_1 : wc.cell? ⟨gb126, 1, none⟩ = some (.slice A0_1 l0_1.length c0_1) := (blk_cell BK126.out 1).trans rfl
        have hfz15_0 := blk_frozen BK126.out 0
        have hfz15_1 := blk_frozen BK126.out 1
        go_wp2_with (first | ((with_reducible refine gate_callee (f := 15) rfl ?_); refine goesL_ (some 25) rfl rfl Try.func15 (by kernel_rfl) rfl #[.agg #[.slice A0_0 l0_0.length c0_0, .slice A0_1 l0_1.length c0_1]] rfl (by (try simp only [List.map_toArray, List.map_cons, List.map_nil]); first | done | rfl | (simp only [List.length_drop, List.length_take]; rfl)) ?_; (with_reducible refine (sc_Begin.calls _ _ l0_0 _ _ l0_1 t129 t132 _ ?side1 ?side2 ?side3 ?side4 A14.out).mono ?_); (case side1 => repeat (first | exact (Kd.C_below HR0_0.out HB.out) | (with_reducible refine Kd.C_alloc ?_ _) | (with_reducible refine Kd.C_drewN ?_ _) | (with_reducible refine Kd.C_drew ?_))); (case side2 => exact HC0_0.out); (case side3 => repeat (first | exact (Kd.C_below HR0_1.out HB.out) | (with_reducible refine Kd.C_alloc ?_ _) | (with_reducible refine Kd.C_drewN ?_ _) | (with_reducible refine Kd.C_drew ?_))); (case side4 => exact HC0_1.out); rintro e w16 ⟨v130, v133, rfl, ho0, ho1, hb⟩; refine ⟨_, rfl, ?_⟩; have n0_ := Aside0.mk (Kd.V_lower (Kd.V_mono (ok' := fun k_ => k_ ≠ gb126) ho0 (fun k_ hk_ => (Kd.freshB (g := gb126) (o := .cells #[.slice A0_0 l0_0.length c0_0, .slice A0_1 l0_1.length c0_1] 25 (0, 0)) (by (with_reducible repeat (first | refine blk_drewN ?_ _ | refine blk_drew ?_ | refine blk_alloc ?_ _)); exact BK126.out) k_ hk_))) (below_size (by repeat (first | (with_reducible first | exact HB.out | apply below_alloc | apply pw_below_drewN | apply below_drew1 | refine below_set ?_ GE126.out) | exact HB.out)))); have n1_ := Aside0.mk (Kd.V_lower (Kd.V_mono (ok' := fun k_ => k_ ≠ gb126) ho1 (fun k_ hk_ => (Kd.freshB (g := gb126) (o := .cells #[.slice A0_0 l0_0.length c0_0, .slice A0_1 l0_1.length c0_1] 25 (0, 0)) (by (with_reducible repeat (first | refine blk_drewN ?_ _ | refine blk_drew ?_ | refine blk_alloc ?_ _)); exact BK126.out) k_ hk_))) (below_size (by repeat (first | (with_reducible first | exact HB.out | apply below_alloc | apply pw_below_drewN | apply below_drew1 | refine below_set ?_ GE126.out) | exact HB.out)))); have n2_ := Aside0.mk (blk_below (g := gb126) (o := .cells #[.slice A0_0 l0_0.length c0_0, .slice A0_1 l0_1.length c0_1] 25 (0, 0)) (by (with_reducible repeat (first | refine blk_drewN ?_ _ | refine blk_drew ?_ | refine blk_alloc ?_ _)); exact BK126.out) hb); have n3_ := Aside0.mk (below_step (by repeat (first | (with_reducible first | exact HB.out | apply below_alloc | apply pw_below_drewN | apply below_drew1 | refine below_set ?_ GE126.out) | exact HB.out)) hb); clear BK126; clear HB; have HO131 := n0_; have HO134 := n1_; have BK126 := n2_; have HB := n3_; clear n0_ n1_ n2_ n3_; (try clear hb); (try clear hb2); (try clear hk); (try clear hi); (try clear ho0); (try clear ho1)) | ((with_reducible refine gate_dst (N := 6) rfl ?_); (try (refine gate_guard (by rfl) ?_; dsimp only)); refine box_event ?hg (N := 6) ?hd (cs := #[.slice none 0 0, .slice none 0 0]) (t := 28) ?hr ?_; (case hd => rfl); (case hg => rfl); (case hr => first | (go_simp; done) | (go_simp; rfl)); intro gb135 hg w17 hbox hb; have n0_ := Aside0.mk (Kd.V_below (Kd.V_elderB (by (with_reducible repeat (first | apply Kd.V_alloc | apply Kd.V_drewN | apply Kd.V_drew)); exact HO131.out) gb135 (Nat.le_of_eq hg.symm)) hb); have n1_ := Aside0.mk (Kd.V_below (Kd.V_elderB (by (with_reducible repeat (first | apply Kd.V_alloc | apply Kd.V_drewN | apply Kd.V_drew)); exact HO134.out) gb135 (Nat.le_of_eq hg.symm)) hb); have n2_ := Aside0.mk (blk_below (g := gb126) (o := .cells #[.slice A0_0 l0_0.length c0_0, .slice A0_1 l0_1.length c0_1] 25 (0, 0)) (by (with_reducible repeat (first | refine blk_drewN ?_ _ | refine blk_drew ?_ | refine blk_alloc ?_ _)); exact BK126.out) hb); have n3_ := Aside0.mk (below_step (by repeat (first | (with_reducible first | exact HB.out | apply below_alloc | apply pw_below_drewN | apply below_drew1 | refine below_set ?_ GE126.out) | exact HB.out)) hb); have n4_ := Aside0.mk (hbox); have n5_ := Aside0.mk ((by rw [hg]; exact (below_size (by repeat (first | (with_reducible first | exact HB.out | apply below_alloc | apply pw_below_drewN | apply below_drew1 | refine below_set ?_ GE126.out) | exact HB.out))) : w.heap.size ≤ gb135)); have n6_ := Aside0.mk ((by rw [hg]; exact (below_size (by repeat (first | (with_reducible first | exact HB.out | apply below_alloc | apply pw_below_drewN | apply below_drew1 | refine below_set ?_ GE126.out) | exact HB.out))) : w.heap.size ≤ gb135)); have n7_ := Aside0.mk ((by rw [hg]; exact Nat.ne_of_lt (blk_lt (g := gb126) (o := .cells #[.slice A0_0 l0_0.length c0_0, .slice A0_1 l0_1.length c0_1] 25 (0, 0)) (by (with_reducible repeat (first | refine blk_drewN ?_ _ | refine blk_drew ?_ | refine blk_alloc ?_ _)); exact BK126.out)) : gb126 ≠ gb135)); have n8_ := Aside0.mk ((by rw [hg]; exact Nat.ne_of_gt (blk_lt (g := gb126) (o := .cells #[.slice A0_0 l0_0.length c0_0, .slice A0_1 l0_1.length c0_1] 25 (0, 0)) (by (with_reducible repeat (first | refine blk_drewN ?_ _ | refine blk_drew ?_ | refine blk_alloc ?_ _)); exact BK126.out)) : gb135 ≠ gb126)); clear HO131; clear HO134; clear BK126; clear HB; have HO131 := n0_; have HO134 := n1_; have BK126 := n2_; have HB := n3_; have BK135 := n4_; have GW135 := n5_; have GE135 := n6_; have NB126_135 := n7_; have NB135_126 := n8_; clear n0_ n1_ n2_ n3_ n4_ n5_ n6_ n7_ n8_; clear hb hbox hg; obtain ⟨Ao18, co18, eo18⟩ := Kd.V_slice HO131.out; subst eo18; have hnb19 := NB135_126.out; have hnc19 := NB126_135.out; have hcz20_0 : w17.cell? ⟨gb135, 0, none⟩ = some (.slice none 0 0) := (blk_cell BK135.out 0).trans rfl; have hcz20_1 : w17.cell? ⟨gb135, 1, none⟩ = some (.slice none 0 0) := (blk_cell BK135.out 1).trans rfl; have hfz20_0 := blk_frozen BK135.out 0; have hfz20_1 := blk_frozen BK135.out 1; obtain ⟨Ao21, co21, eo21⟩ := Kd.V_slice HO134.out; subst eo21))
        go_loopg [7, 8] kj3 (fun kq v7 v8 w' => ∃ (x7_2 : Int) (x8_2 : Int), v7 = .int .i64 x7_2 ∧ v8 = .int .i64 x8_2 ∧ Aside0 (fencepostlaw10_ScEnds.l0 kq l1 t127 x7_2 x8_2 l0_0 l0_1 t129 t132 = some r) ∧ Aside0 (kq ≤ kj3) ∧ Aside0 (Kd.V (Kd.int .i64) 3 w' w.heap.size (fun k_ => k_ ≠ gb126 ∧ k_ ≠ gb135) (.slice Ao18 t129.length co18) t129) ∧ Aside0 (Kd.V k45 45 w' w.heap.size (fun k_ => k_ ≠ gb126 ∧ k_ ≠ gb135) (.slice Ao21 t132.length co21) t132) ∧ Aside0 (w'.heap[gb126]? = some (.cells #[(.slice A0_0 l0_0.length c0_0), (.slice A0_1 l0_1.length c0_1)] 25 (0, 0))) ∧ Aside0 (w'.heap[gb135]? = some (.cells #[(.slice Ao18 t129.length co18), (.slice Ao21 t132.length co21)] 28 (0, 0))) ∧ Aside0 (Below w.heap.size w w'))
        case atStart => exact ⟨(0), (0), (by first | rfl | (simp; done) | (simp [*]; done)), (by first | rfl | (simp; done) | (simp [*]; done)), H', ⟨Nat.le_refl _⟩, ⟨by (with_reducible repeat (first | apply Kd.V_alloc | apply Kd.V_drewN | apply Kd.V_drew)); exact Kd.V_mono (Kd.V_far (p := ⟨gb135, 1, none⟩) (Kd.V_far (p := ⟨gb135, 0, none⟩) (Kd.V_mono HO131.out (fun k_ hk => (⟨hk, hk.2⟩ : _ ∧ k_ ≠ gb135))) (fun _ hk => hk.2) (.slice Ao18 t129.length co18)) (fun _ hk => hk.2) (.slice Ao21 t132.length co21)) (fun _ hk => ⟨hk.1.1, hk.1.2⟩)⟩, ⟨by (with_reducible repeat (first | apply Kd.V_alloc | apply Kd.V_drewN | apply Kd.V_drew)); exact Kd.V_mono (Kd.V_far (p := ⟨gb135, 1, none⟩) (Kd.V_far (p := ⟨gb135, 0, none⟩) (Kd.V_mono HO134.out (fun k_ hk => (⟨hk, hk.2⟩ : _ ∧ k_ ≠ gb135))) (fun _ hk => hk.2) (.slice Ao18 t129.length co18)) (fun _ hk => hk.2) (.slice Ao21 t132.length co21)) (fun _ hk => ⟨hk.1.1, hk.1.2⟩)⟩, ⟨by (with_reducible repeat (first | refine blk_drewN ?_ _ | refine blk_drew ?_ | refine blk_alloc ?_ _)); refine blk_far ?_ NB126_135.out _; (with_reducible repeat (first | refine blk_drewN ?_ _ | refine blk_drew ?_ | refine blk_alloc ?_ _)); refine blk_far ?_ NB126_135.out _; (with_reducible repeat (first | refine blk_drewN ?_ _ | refine blk_drew ?_ | refine blk_alloc ?_ _)); exact BK126.out⟩, ⟨by (with_reducible repeat (first | refine blk_drewN ?_ _ | refine blk_drew ?_ | refine blk_alloc ?_ _)); refine blk_put (cs := #[.slice Ao18 t129.length co18, .slice none 0 0]) ?_ 1 _ rfl; (with_reducible repeat (first | refine blk_drewN ?_ _ | refine blk_drew ?_ | refine blk_alloc ?_ _)); refine blk_put (cs := #[.slice none 0 0, .slice none 0 0]) ?_ 0 _ rfl; (with_reducible repeat (first | refine blk_drewN ?_ _ | refine blk_drew ?_ | refine blk_alloc ?_ _)); exact BK135.out⟩, ⟨by repeat (first | (with_reducible first | exact HB.out | apply below_alloc | apply pw_below_drewN | apply below_drew1 | refine below_set ?_ GE126.out | refine below_set ?_ GE135.out) | exact HB.out)⟩⟩
        case round =>
          clear H'
          try clear c1
          try clear p2
          try clear c8
          try clear c9
          try clear c10
          try clear c13
          try clear c15
          try clear c19
          try clear hcz11_0
          try clear hcz11_1
          try clear hcz15_0
          try clear hcz15_1
          try clear hcz20_0
          try clear hcz20_1
          try clear hcz9_0
          try clear hcz9_1
          try clear hfz11_0
          try clear hfz11_1
          try clear hfz15_0
          try clear hfz15_1
          try clear hfz20_0
          try clear hfz20_1
          try clear hfz9_0
          try clear hfz9_1
          try clear p2
          obtain ⟨x7_2, x8_2, rfl, rfl, HA, HK2, HO_136000, HO_136001, BK126, BK135, HB⟩ := hrel
          cases gk with
          | zero => exact absurd HA.out (by simp [fencepostlaw10_ScEnds.l0])
          | succ k2 =>
            have H := HA.out
            clear HA
            simp only [fencepostlaw10_ScEnds.l0] at H
            by_cases c22 : x8_2 < (l0_1.length : Int)
            · rw [if_pos c22] at H
              have c22b0 : decide (x8_2 < (l0_1.length : Int)) = true := decide_eq_true c22
              clear c22
              by_cases c23 : 0 ≤ x8_2
              · rw [if_pos c23] at H
                have c23b0 : decide (0 ≤ x8_2) = true := decide_eq_true c23
                clear c23
                have H' := Aside0.mk H
                clear H
                have hnb24 := NB126_135.out
                have hnc24 := NB135_126.out
                have hcz25_0 : wr.cell? ⟨gb126, 0, none⟩ = some (.slice A0_0 l0_0.length c0_0) := (blk_cell BK126.out 0).trans rfl
                have hcz25_1 : wr.cell? ⟨gb126, 1, none⟩ = some (.slice A0_1 l0_1.length c0_1) := (blk_cell BK126.out 1).trans rfl
                have hfz25_0 := blk_frozen BK126.out 0
                have hfz25_1 := blk_frozen BK126.out 1
                have p136 : 0 ≤ (x8_2 : Int) := of_decide_eq_true (by first | (with_reducible assumption) | assumption)
                have q136 : x8_2 < (l0_1.length : Int) := of_decide_eq_true (by first | (with_reducible assumption) | assumption)
                obtain ⟨ad136, A136_0, c136_0, e136, hx136_0, hl136_0, hi136_0⟩ := at_L3 HR0_1.out x8_2 p136 q136
                cases e136
                replace hx136_0 := (HB.out.cell (World.block_lt_of_cell? w _ hx136_0)).trans hx136_0
                have HR136_0 := Aside0.mk hi136_0
                have HC136_0 := Aside0.mk hl136_0
                clear hi136_0 hl136_0
                replace p136 := eq_true p136
                replace q136 := eq_true q136
                go_wp2
                go_roundg k2
                case measure => have := HJ3.out; have := HK2.out; omega
                case rel => exact ⟨(wrap64 (x7_2 + ((rd_L3 l0_1 x8_2).length : Int))), (wrap64 (x8_2 + 1)), (by first | rfl | (simp; done) | (simp [*]; done)), (by first | rfl | (simp; done) | (simp [*]; done)), H', ⟨by have := HJ3.out; have := HK2.out; omega⟩, ⟨by (with_reducible repeat (first | apply Kd.V_alloc | apply Kd.V_drewN | apply Kd.V_drew)); exact HO_136000.out⟩, ⟨by (with_reducible repeat (first | apply Kd.V_alloc | apply Kd.V_drewN | apply Kd.V_drew)); exact HO_136001.out⟩, ⟨by (with_reducible repeat (first | refine blk_drewN ?_ _ | refine blk_drew ?_ | refine blk_alloc ?_ _)); exact BK126.out⟩, ⟨by (with_reducible repeat (first | refine blk_drewN ?_ _ | refine blk_drew ?_ | refine blk_alloc ?_ _)); exact BK135.out⟩, ⟨by repeat (first | (with_reducible first | exact HB.out | apply below_alloc | apply pw_below_drewN | apply below_drew1 | refine below_set ?_ GE126.out | refine below_set ?_ GE135.out) | exact HB.out)⟩⟩
              · rw [if_neg c23] at H
                exact absurd H (by simp)
            · rw [if_neg c22] at H
              have c22b0 : decide (x8_2 < (l0_1.length : Int)) = false := decide_eq_false c22
              clear c22
              have H' := Aside0.mk H
              clear H
              have hnb26 := NB126_135.out
              have hnc26 := NB135_126.out
              have hcz27_0 : wr.cell? ⟨gb126, 0, none⟩ = some (.slice A0_0 l0_0.length c0_0) := (blk_cell BK126.out 0).trans rfl
              have hcz27_1 : wr.cell? ⟨gb126, 1, none⟩ = some (.slice A0_1 l0_1.length c0_1) := (blk_cell BK126.out 1).trans rfl
              have hfz27_0 := blk_frozen BK126.out 0
              have hfz27_1 := blk_frozen BK126.out 1
              go_wp2
              go_loopg [9] k2 (fun kq v9 w' => ∃ (x9_3 : Int) (x136000_3 : List Int) (x136001_3 : List (S45)) (u136000 : Value) (u136001 : Value), v9 = .int .i64 x9_3 ∧ Aside0 (fencepostlaw10_ScEnds.l1 kq l1 t127 x7_2 x9_3 l0_0 l0_1 x136000_3 x136001_3 = some r) ∧ Aside0 (kq ≤ k2) ∧ Aside0 (Kd.V (Kd.int .i64) 3 w' w.heap.size (fun k_ => k_ ≠ gb126 ∧ k_ ≠ gb135) u136000 x136000_3) ∧ Aside0 (Kd.V k45 45 w' w.heap.size (fun k_ => k_ ≠ gb126 ∧ k_ ≠ gb135) u136001 x136001_3) ∧ Aside0 (w'.heap[gb126]? = some (.cells #[(.slice A0_0 l0_0.length c0_0), (.slice A0_1 l0_1.length c0_1)] 25 (0, 0))) ∧ Aside0 (w'.heap[gb135]? = some (.cells #[u136000, u136001] 28 (0, 0))) ∧ Aside0 (Below w.heap.size w w'))
              case atStart => exact ⟨(0), (t129), (t132), (.slice Ao18 t129.length co18), (.slice Ao21 t132.length co21), (by first | rfl | (simp; done) | (simp [*]; done)), H', ⟨Nat.le_refl _⟩, ⟨by (with_reducible repeat (first | apply Kd.V_alloc | apply Kd.V_drewN | apply Kd.V_drew)); exact HO_136000.out⟩, ⟨by (with_reducible repeat (first | apply Kd.V_alloc | apply Kd.V_drewN | apply Kd.V_drew)); exact HO_136001.out⟩, ⟨by (with_reducible repeat (first | refine blk_drewN ?_ _ | refine blk_drew ?_ | refine blk_alloc ?_ _)); exact BK126.out⟩, ⟨by (with_reducible repeat (first | refine blk_drewN ?_ _ | refine blk_drew ?_ | refine blk_alloc ?_ _)); exact BK135.out⟩, ⟨by repeat (first | (with_reducible first | exact HB.out | apply below_alloc | apply pw_below_drewN | apply below_drew1 | refine below_set ?_ GE126.out | refine below_set ?_ GE135.out) | exact HB.out)⟩⟩
              case round =>
                clear H'
                try clear c1
                try clear p1
                try clear q1
                try clear hx1
                try clear c2
                try clear p2
                try clear p6
                try clear c8
                try clear c9
                try clear c10
                try clear c13
                try clear p13
                try clear q13
                try clear hx13
                try clear c15
                try clear c19
                try clear c22
                try clear c22b0
                try clear c23
                try clear c23b0
                try clear c24
                try clear c26
                try clear hcz11_0
                try clear hcz11_1
                try clear hcz15_0
                try clear hcz15_1
                try clear hcz20_0
                try clear hcz20_1
                try clear hcz25_0
                try clear hcz25_1
                try clear hcz27_0
                try clear hcz27_1
                try clear hcz9_0
                try clear hcz9_1
                try clear hfz11_0
                try clear hfz11_1
                try clear hfz15_0
                try clear hfz15_1
                try clear hfz20_0
                try clear hfz20_1
                try clear hfz25_0
                try clear hfz25_1
                try clear hfz27_0
                try clear hfz27_1
                try clear hfz9_0
                try clear hfz9_1
                try clear hx136_0
                try clear p136
                try clear p2
                try clear q136
                obtain ⟨x9_3, x136000_3, x136001_3, u136000, u136001, rfl, HA, HK3, HO_136000, HO_136001, BK126, BK135, HB⟩ := hrel
                cases gk with
                | zero => exact absurd HA.out (by simp [fencepostlaw10_ScEnds.l1])
                | succ k3 =>
                  have H := HA.out
                  clear HA
                  simp only [fencepostlaw10_ScEnds.l1] at H
                  by_cases c28 : x9_3 ≤ x7_2
                  · rw [if_pos c28] at H
                    have c28b0 : decide (x9_3 ≤ x7_2) = true := decide_eq_true c28
                    clear c28
                    replace H := Option.bind_eq_some_iff.mp H
                    obtain ⟨t137, A290, H⟩ := H
                    replace H : (if t137 = true then (if x9_3 < (l1.length : Int) then (if 0 ≤ x9_3 then (fencepostlaw10_ScEnds.j3 k3 l1 t127 x7_2 x9_3 (wrap64 (rd l1 x9_3)) l0_0 l0_1 x136000_3 x136001_3) else (none)) else (fencepostlaw10_ScEnds.j3 k3 l1 t127 x7_2 x9_3 0 l0_0 l0_1 x136000_3 x136001_3)) else (some false)) = some r := H
                    have A29 := Aside0.mk A290
                    clear A290
                    by_cases c30 : t137 = true
                    · subst c30
                      have H1 : (if x9_3 < (l1.length : Int) then (if 0 ≤ x9_3 then (fencepostlaw10_ScEnds.j3 k3 l1 t127 x7_2 x9_3 (wrap64 (rd l1 x9_3)) l0_0 l0_1 x136000_3 x136001_3) else (none)) else (fencepostlaw10_ScEnds.j3 k3 l1 t127 x7_2 x9_3 0 l0_0 l0_1 x136000_3 x136001_3)) = some r := by rw [if_pos rfl] at H; exact H
                      clear H
                      have H := H1
                      clear H1
                      have HC31 := Aside0.mk H
                      clear H
                      have hnb32 := NB126_135.out
                      have hnc32 := NB135_126.out
                      have hcz33_0 : wr.cell? ⟨gb126, 0, none⟩ = some (.slice A0_0 l0_0.length c0_0) := (blk_cell BK126.out 0).trans rfl
                      have hcz33_1 : wr.cell? ⟨gb126, 1, none⟩ = some (.slice A0_1 l0_1.length c0_1) := (blk_cell BK126.out 1).trans rfl
                      have hfz33_0 := blk_frozen BK126.out 0
                      have hfz33_1 := blk_frozen BK126.out 1
                      have hcz34_0 : wr.cell? ⟨gb135, 0, none⟩ = some (u136000) := (blk_cell BK135.out 0).trans rfl
                      have hcz34_1 : wr.cell? ⟨gb135, 1, none⟩ = some (u136001) := (blk_cell BK135.out 1).trans rfl
                      have hfz34_0 := blk_frozen BK135.out 0
                      have hfz34_1 := blk_frozen BK135.out 1
                      obtain ⟨Ao35, co35, eo35⟩ := Kd.V_slice HO_136000.out
                      subst eo35
                      obtain ⟨Ao36, co36, eo36⟩ := Kd.V_slice HO_136001.out
                      subst eo36
                      go_upto_if 53 with (first | ((with_reducible refine gate_callee (f := 13) rfl ?_); refine goesL_ (some 48) rfl rfl Try.func13 (by kernel_rfl) rfl #[.agg #[.slice A0_0 l0_0.length c0_0, .slice A0_1 l0_1.length c0_1], .agg #[.slice Ao35 x136000_3.length co35, .slice Ao36 x136001_3.length co36]] rfl (by (try simp only [List.map_toArray, List.map_cons, List.map_nil]); first | done | rfl | (simp only [List.length_drop, List.length_take]; rfl)) ?_; (with_reducible refine (fencepostref10_Right.calls k3 _ _ l0_0 _ _ l0_1 _ _ x136000_3 _ _ x136001_3 true _ ?side1 ?side2 ?side3 ?side4 ?side5 ?side6 ?side7 ?side8 A29.out).mono ?_); (case side1 => repeat (first | exact (Kd.C_below HR0_0.out HB.out) | (with_reducible refine Kd.C_alloc ?_ _) | (with_reducible refine Kd.C_drewN ?_ _) | (with_reducible refine Kd.C_drew ?_))); (case side2 => exact HC0_0.out); (case side3 => repeat (first | exact (Kd.C_below HR0_1.out HB.out) | (with_reducible refine Kd.C_alloc ?_ _) | (with_reducible refine Kd.C_drewN ?_ _) | (with_reducible refine Kd.C_drew ?_))); (case side4 => exact HC0_1.out); (case side5 => repeat (first | exact (Kd.V_reads' HO_136000.out).2.2 | (with_reducible refine Kd.C_alloc ?_ _) | (with_reducible refine Kd.C_drewN ?_ _) | (with_reducible refine Kd.C_drew ?_))); (case side6 => exact (Kd.V_reads' HO_136000.out).2.1); (case side7 => repeat (first | exact (Kd.V_reads' HO_136001.out).2.2 | (with_reducible refine Kd.C_alloc ?_ _) | (with_reducible refine Kd.C_drewN ?_ _) | (with_reducible refine Kd.C_drew ?_))); (case side8 => exact (Kd.V_reads' HO_136001.out).2.1); rintro e w37 ⟨rfl, hb⟩; refine ⟨_, rfl, ?_⟩; have n0_ := Aside0.mk (Kd.V_below (by (with_reducible repeat (first | apply Kd.V_alloc | apply Kd.V_drewN | apply Kd.V_drew)); exact HO_136000.out) hb); have n1_ := Aside0.mk (Kd.V_below (by (with_reducible repeat (first | apply Kd.V_alloc | apply Kd.V_drewN | apply Kd.V_drew)); exact HO_136001.out) hb); have n2_ := Aside0.mk (blk_below (g := gb126) (o := .cells #[.slice A0_0 l0_0.length c0_0, .slice A0_1 l0_1.length c0_1] 25 (0, 0)) (by (with_reducible repeat (first | refine blk_drewN ?_ _ | refine blk_drew ?_ | refine blk_alloc ?_ _)); exact BK126.out) hb); have n3_ := Aside0.mk (blk_below (g := gb135) (o := .cells #[.slice Ao35 x136000_3.length co35, .slice Ao36 x136001_3.length co36] 28 (0, 0)) (by (with_reducible repeat (first | refine blk_drewN ?_ _ | refine blk_drew ?_ | refine blk_alloc ?_ _)); exact BK135.out) hb); have n4_ := Aside0.mk (below_step (by repeat (first | (with_reducible first | exact HB.out | apply below_alloc | apply pw_below_drewN | apply below_drew1 | refine below_set ?_ GE126.out | refine below_set ?_ GE135.out) | exact HB.out)) hb); clear HO_136000; clear HO_136001; clear BK126; clear BK135; clear HB; have HO_136000 := n0_; have HO_136001 := n1_; have BK126 := n2_; have BK135 := n3_; have HB := n4_; clear n0_ n1_ n2_ n3_ n4_; (try clear hb); (try clear hb2); (try clear hk); (try clear hi)))
                      (try simp only [Act.put, List.setIfInBounds_toArray, List.set_cons_zero, List.set_cons_succ])
                      go_cut [10] (fun v10 wc => ∃ (kq : Nat) (x10_30 : Int), v10 = .int .i64 x10_30 ∧ Aside0 (fencepostlaw10_ScEnds.j3 kq l1 t127 x7_2 x9_3 x10_30 l0_0 l0_1 x136000_3 x136001_3 = some r) ∧ Aside0 (kq ≤ k3) ∧ Aside0 (Kd.V (Kd.int .i64) 3 wc w.heap.size (fun k_ => k_ ≠ gb126 ∧ k_ ≠ gb135) (.slice Ao35 x136000_3.length co35) x136000_3) ∧ Aside0 (Kd.V k45 45 wc w.heap.size (fun k_ => k_ ≠ gb126 ∧ k_ ≠ gb135) (.slice Ao36 x136001_3.length co36) x136001_3) ∧ Aside0 (wc.heap[gb126]? = some (.cells #[(.slice A0_0 l0_0.length c0_0), (.slice A0_1 l0_1.length c0_1)] 25 (0, 0))) ∧ Aside0 (wc.heap[gb135]? = some (.cells #[(.slice Ao35 x136000_3.length co35), (.slice Ao36 x136001_3.length co36)] 28 (0, 0))) ∧ Aside0 (Below w.heap.size w wc))
                      case first =>
                        have H := HC31.out
                        clear HC31
                        by_cases c38 : x9_3 < (l1.length : Int)
                        · rw [if_pos c38] at H
                          have c38b0 : decide (x9_3 < (l1.length : Int)) = true := decide_eq_true c38
                          clear c38
                          (first | rw [c38b0] | (simp only [i64_w, i32_w]; rw [c38b0]) | skip)
                          by_cases c39 : 0 ≤ x9_3
                          · rw [if_pos c39] at H
                            have c39b0 : decide (0 ≤ x9_3) = true := decide_eq_true c39
                            clear c39
                            have H' := Aside0.mk H
                            clear H
                            have p138 : 0 ≤ (x9_3 : Int) := of_decide_eq_true (by first | (with_reducible assumption) | assumption)
                            have q138 : x9_3 < (l1.length : Int) := of_decide_eq_true (by first | (with_reducible assumption) | assumption)
                            obtain ⟨ad138, e138, hx138_0⟩ := Kd.at_int HR1.out x9_3 p138 q138
                            cases e138
                            replace hx138_0 := (HB.out.cell (World.block_lt_of_cell? w _ hx138_0)).trans hx138_0
                            replace p138 := eq_true p138
                            replace q138 := eq_true q138
                            go_wp2
                            go_meet
                            case rel => exact ⟨_, (wrap64 (rd l1 x9_3)), (by first | rfl | (simp; done) | (simp [*]; done)), H', ⟨by have := HJ3.out; have := HK2.out; have := HK3.out; first | omega | exact Nat.le_refl _⟩, ⟨by (with_reducible repeat (first | apply Kd.V_alloc | apply Kd.V_drewN | apply Kd.V_drew)); exact HO_136000.out⟩, ⟨by (with_reducible repeat (first | apply Kd.V_alloc | apply Kd.V_drewN | apply Kd.V_drew)); exact HO_136001.out⟩, ⟨by (with_reducible repeat (first | refine blk_drewN ?_ _ | refine blk_drew ?_ | refine blk_alloc ?_ _)); exact BK126.out⟩, ⟨by (with_reducible repeat (first | refine blk_drewN ?_ _ | refine blk_drew ?_ | refine blk_alloc ?_ _)); exact BK135.out⟩, ⟨by repeat (first | (with_reducible first | exact HB.out | apply below_alloc | apply pw_below_drewN | apply below_drew1 | refine below_set ?_ GE126.out | refine below_set ?_ GE135.out) | exact HB.out)⟩⟩
                          · rw [if_neg c39] at H
                            exact absurd H (by simp)
                        · rw [if_neg c38] at H
                          have c38b0 : decide (x9_3 < (l1.length : Int)) = false := decide_eq_false c38
                          clear c38
                          (first | rw [c38b0] | (simp only [i64_w, i32_w]; rw [c38b0]) | skip)
                          have H' := Aside0.mk H
                          clear H
                          go_wp2
                          go_meet
                          case rel => exact ⟨_, (0), (by first | rfl | (simp; done) | (simp [*]; done)), H', ⟨by have := HJ3.out; have := HK2.out; have := HK3.out; first | omega | exact Nat.le_refl _⟩, ⟨by (with_reducible repeat (first | apply Kd.V_alloc | apply Kd.V_drewN | apply Kd.V_drew)); exact HO_136000.out⟩, ⟨by (with_reducible repeat (first | apply Kd.V_alloc | apply Kd.V_drewN | apply Kd.V_drew)); exact HO_136001.out⟩, ⟨by (with_reducible repeat (first | refine blk_drewN ?_ _ | refine blk_drew ?_ | refine blk_alloc ?_ _)); exact BK126.out⟩, ⟨by (with_reducible repeat (first | refine blk_drewN ?_ _ | refine blk_drew ?_ | refine blk_alloc ?_ _)); exact BK135.out⟩, ⟨by repeat (first | (with_reducible first | exact HB.out | apply below_alloc | apply pw_below_drewN | apply below_drew1 | refine below_set ?_ GE126.out | refine below_set ?_ GE135.out) | exact HB.out)⟩⟩
                      case rest =>
                        clear HC31
                        try clear c1
                        try clear p1
                        try clear q1
                        try clear hx1
                        try clear c2
                        try clear p2
                        try clear c3
                        try clear p6
                        try clear c8
                        try clear c9
                        try clear c10
                        try clear c13
                        try clear p13
                        try clear q13
                        try clear hx13
                        try clear c15
                        try clear c19
                        try clear c22
                        try clear c22b0
                        try clear c23
                        try clear c23b0
                        try clear c24
                        try clear c26
                        try clear c28
                        try clear c28b0
                        try clear c30
                        try clear c32
                        try clear c38
                        try clear c38b0
                        try clear c39
                        try clear c39b0
                        try clear hcz11_0
                        try clear hcz11_1
                        try clear hcz15_0
                        try clear hcz15_1
                        try clear hcz20_0
                        try clear hcz20_1
                        try clear hcz25_0
                        try clear hcz25_1
                        try clear hcz27_0
                        try clear hcz27_1
                        try clear hcz33_0
                        try clear hcz33_1
                        try clear hcz34_0
                        try clear hcz34_1
                        try clear hcz9_0
                        try clear hcz9_1
                        try clear hfz11_0
                        try clear hfz11_1
                        try clear hfz15_0
                        try clear hfz15_1
                        try clear hfz20_0
                        try clear hfz20_1
                        try clear hfz25_0
                        try clear hfz25_1
                        try clear hfz27_0
                        try clear hfz27_1
                        try clear hfz33_0
                        try clear hfz33_1
                        try clear hfz34_0
                        try clear hfz34_1
                        try clear hfz9_0
                        try clear hfz9_1
                        try clear hx136_0
                        try clear hx138_0
                        try clear p1
                        try clear p13
                        try clear p136
                        try clear p138
                        try clear p2
                        try clear p6
                        try clear q1
                        try clear q13
                        try clear q136
                        try clear q138
                        obtain ⟨kq, x10_30, rfl, HA, HJ30, HO_136000, HO_136001, BK126, BK135, HB⟩ := hcut
                        cases kq with
                        | zero => exact absurd HA.out (by simp [fencepostlaw10_ScEnds.j3])
                        | succ kj30 =>
                          have H := HA.out
                          clear HA
                          simp only [fencepostlaw10_ScEnds.j3] at H
                          have H' := Aside0.mk H
                          clear H
                          go_wp2
                          go_loopg [11, 12] kj30 (fun kq v11 v12 w' => ∃ (x11_5 : Bool) (x12_5 : Int) (x136000_5 : List Int) (x136001_5 : List (S45)) (u136000 : Value) (u136001 : Value), v11 = .bool x11_5 ∧ v12 = .int .i64 x12_5 ∧ Aside0 (fencepostlaw10_ScEnds.l2 kq l1 t127 x7_2 x9_3 x10_30 x11_5 x12_5 l0_0 l0_1 x136000_5 x136001_5 = some r) ∧ Aside0 (kq ≤ kj30) ∧ Aside0 (Kd.V (Kd.int .i64) 3 w' w.heap.size (fun k_ => k_ ≠ gb126 ∧ k_ ≠ gb135) u136000 x136000_5) ∧ Aside0 (Kd.V k45 45 w' w.heap.size (fun k_ => k_ ≠ gb126 ∧ k_ ≠ gb135) u136001 x136001_5) ∧ Aside0 (w'.heap[gb126]? = some (.cells #[(.slice A0_0 l0_0.length c0_0), (.slice A0_1 l0_1.length c0_1)] 25 (0, 0))) ∧ Aside0 (w'.heap[gb135]? = some (.cells #[u136000, u136001] 28 (0, 0))) ∧ Aside0 (Below w.heap.size w w'))
                          case atStart => exact ⟨(false), (0), (x136000_3), (x136001_3), (.slice Ao35 x136000_3.length co35), (.slice Ao36 x136001_3.length co36), (by first | rfl | (simp; done) | (simp [*]; done)), (by first | rfl | (simp; done) | (simp [*]; done)), H', ⟨Nat.le_refl _⟩, ⟨by (with_reducible repeat (first | apply Kd.V_alloc | apply Kd.V_drewN | apply Kd.V_drew)); exact HO_136000.out⟩, ⟨by (with_reducible repeat (first | apply Kd.V_alloc | apply Kd.V_drewN | apply Kd.V_drew)); exact HO_136001.out⟩, ⟨by (with_reducible repeat (first | refine blk_drewN ?_ _ | refine blk_drew ?_ | refine blk_alloc ?_ _)); exact BK126.out⟩, ⟨by (with_reducible repeat (first | refine blk_drewN ?_ _ | refine blk_drew ?_ | refine blk_alloc ?_ _)); exact BK135.out⟩, ⟨by repeat (first | (with_reducible first | exact HB.out | apply below_alloc | apply pw_below_drewN | apply below_drew1 | refine below_set ?_ GE126.out | refine below_set ?_ GE135.out) | exact HB.out)⟩⟩
                          case round =>
                            clear H'
                            try clear c1
                            try clear p1
                            try clear q1
                            try clear hx1
                            try clear c2
                            try clear p2
                            try clear c3
                            try clear p6
                            try clear c8
                            try clear c9
                            try clear c10
                            try clear c13
                            try clear p13
                            try clear q13
                            try clear hx13
                            try clear c15
                            try clear c19
                            try clear c22
                            try clear c22b0
                            try clear c23
                            try clear c23b0
                            try clear c24
                            try clear c26
                            try clear c28
                            try clear c28b0
                            try clear c30
                            try clear c32
                            try clear c38
                            try clear c38b0
                            try clear c39
                            try clear c39b0
                            try clear hcz11_0
                            try clear hcz11_1
                            try clear hcz15_0
                            try clear hcz15_1
                            try clear hcz20_0
                            try clear hcz20_1
                            try clear hcz25_0
                            try clear hcz25_1
                            try clear hcz27_0
                            try clear hcz27_1
                            try clear hcz33_0
                            try clear hcz33_1
                            try clear hcz34_0
                            try clear hcz34_1
                            try clear hcz9_0
                            try clear hcz9_1
                            try clear hfz11_0
                            try clear hfz11_1
                            try clear hfz15_0
                            try clear hfz15_1
                            try clear hfz20_0
                            try clear hfz20_1
                            try clear hfz25_0
                            try clear hfz25_1
                            try clear hfz27_0
                            try clear hfz27_1
                            try clear hfz33_0
                            try clear hfz33_1
                            try clear hfz34_0
                            try clear hfz34_1
                            try clear hfz9_0
                            try clear hfz9_1
                            try clear hx136_0
                            try clear hx138_0
                            try clear p1
                            try clear p13
                            try clear p136
                            try clear p138
                            try clear p2
                            try clear p6
                            try clear q1
                            try clear q13
                            try clear q136
                            try clear q138
                            obtain ⟨x11_5, x12_5, x136000_5, x136001_5, u136000, u136001, rfl, rfl, HA, HK5, HO_136000, HO_136001, BK126, BK135, HB⟩ := hrel
                            cases gk with
                            | zero => exact absurd HA.out (by simp [fencepostlaw10_ScEnds.l2])
                            | succ k5 =>
                              have H := HA.out
                              clear HA
                              simp only [fencepostlaw10_ScEnds.l2] at H
                              have HC40 := Aside0.mk H
                              clear H
                              go_upto_region 20 with (fail)
                              go_cut [67] (fun v67 wc => ∃ (kq : Nat) (x67_39 : Bool), v67 = .bool x67_39 ∧ Aside0 (fencepostlaw10_ScEnds.j5 kq l1 t127 x7_2 x9_3 x10_30 x11_5 x12_5 x67_39 l0_0 l0_1 x136000_5 x136001_5 = some r) ∧ Aside0 (kq ≤ k5) ∧ Aside0 (Kd.V (Kd.int .i64) 3 wc w.heap.size (fun k_ => k_ ≠ gb126 ∧ k_ ≠ gb135) u136000 x136000_5) ∧ Aside0 (Kd.V k45 45 wc w.heap.size (fun k_ => k_ ≠ gb126 ∧ k_ ≠ gb135) u136001 x136001_5) ∧ Aside0 (wc.heap[gb126]? = some (.cells #[(.slice A0_0 l0_0.length c0_0), (.slice A0_1 l0_1.length c0_1)] 25 (0, 0))) ∧ Aside0 (wc.heap[gb135]? = some (.cells #[u136000, u136001] 28 (0, 0))) ∧ Aside0 (Below w.heap.size w wc))
                              case first =>
                                have H := HC40.out
                                clear HC40
                                by_cases c41 : x12_5 < (l0_1.length : Int)
                                · rw [if_pos c41] at H
                                  have c41b0 : decide (x12_5 < (l0_1.length : Int)) = true := decide_eq_true c41
                                  clear c41
                                  (first | rw [c41b0] | (simp only [i64_w, i32_w]; rw [c41b0]) | skip)
                                  have H' := Aside0.mk H
                                  clear H
                                  have hnb42 := NB126_135.out
                                  have hnc42 := NB135_126.out
                                  have hcz43_0 : wr.cell? ⟨gb126, 0, none⟩ = some (.slice A0_0 l0_0.length c0_0) := (blk_cell BK126.out 0).trans rfl
                                  have hcz43_1 : wr.cell? ⟨gb126, 1, none⟩ = some (.slice A0_1 l0_1.length c0_1) := (blk_cell BK126.out 1).trans rfl
                                  have hfz43_0 := blk_frozen BK126.out 0
                                  have hfz43_1 := blk_frozen BK126.out 1
                                  go_wp2
                                  go_meet
                                  case rel => exact ⟨_, (!x11_5), (by first | rfl | (simp; done) | (simp [*]; done)), H', ⟨by have := HJ3.out; have := HK2.out; have := HK3.out; have := HJ30.out; have := HK5.out; first | omega | exact Nat.le_refl _⟩, ⟨by (with_reducible repeat (first | apply Kd.V_alloc | apply Kd.V_drewN | apply Kd.V_drew)); exact HO_136000.out⟩, ⟨by (with_reducible repeat (first | apply Kd.V_alloc | apply Kd.V_drewN | apply Kd.V_drew)); exact HO_136001.out⟩, ⟨by (with_reducible repeat (first | refine blk_drewN ?_ _ | refine blk_drew ?_ | refine blk_alloc ?_ _)); exact BK126.out⟩, ⟨by (with_reducible repeat (first | refine blk_drewN ?_ _ | refine blk_drew ?_ | refine blk_alloc ?_ _)); exact BK135.out⟩, ⟨by repeat (first | (with_reducible first | exact HB.out | apply below_alloc | apply pw_below_drewN | apply below_drew1 | refine below_set ?_ GE126.out | refine below_set ?_ GE135.out) | exact HB.out)⟩⟩
                                · rw [if_neg c41] at H
                                  have c41b0 : decide (x12_5 < (l0_1.length : Int)) = false := decide_eq_false c41
                                  clear c41
                                  (first | rw [c41b0] | (simp only [i64_w, i32_w]; rw [c41b0]) | skip)
                                  have H' := Aside0.mk H
                                  clear H
                                  have hnb44 := NB126_135.out
                                  have hnc44 := NB135_126.out
                                  have hcz45_0 : wr.cell? ⟨gb126, 0, none⟩ = some (.slice A0_0 l0_0.length c0_0) := (blk_cell BK126.out 0).trans rfl
                                  have hcz45_1 : wr.cell? ⟨gb126, 1, none⟩ = some (.slice A0_1 l0_1.length c0_1) := (blk_cell BK126.out 1).trans rfl
                                  have hfz45_0 := blk_frozen BK126.out 0
                                  have hfz45_1 := blk_frozen BK126.out 1
                                  go_wp2
                                  go_meet
                                  case rel => exact ⟨_, (false), (by first | rfl | (simp; done) | (simp [*]; done)), H', ⟨by have := HJ3.out; have := HK2.out; have := HK3.out; have := HJ30.out; have := HK5.out; first | omega | exact Nat.le_refl _⟩, ⟨by (with_reducible repeat (first | apply Kd.V_alloc | apply Kd.V_drewN | apply Kd.V_drew)); exact HO_136000.out⟩, ⟨by (with_reducible repeat (first | apply Kd.V_alloc | apply Kd.V_drewN | apply Kd.V_drew)); exact HO_136001.out⟩, ⟨by (with_reducible repeat (first | refine blk_drewN ?_ _ | refine blk_drew ?_ | refine blk_alloc ?_ _)); exact BK126.out⟩, ⟨by (with_reducible repeat (first | refine blk_drewN ?_ _ | refine blk_drew ?_ | refine blk_alloc ?_ _)); exact BK135.out⟩, ⟨by repeat (first | (with_reducible first | exact HB.out | apply below_alloc | apply pw_below_drewN | apply below_drew1 | refine below_set ?_ GE126.out | refine below_set ?_ GE135.out) | exact HB.out)⟩⟩
                              case rest =>
                                clear HC40
                                try clear c1
                                try clear p1
                                try clear q1
                                try clear hx1
                                try clear c2
                                try clear p2
                                try clear c3
                                try clear c4
                                try clear p6
                                try clear c8
                                try clear c9
                                try clear c10
                                try clear c13
                                try clear p13
                                try clear q13
                                try clear hx13
                                try clear c15
                                try clear c19
                                try clear c22
                                try clear c22b0
                                try clear c23
                                try clear c23b0
                                try clear c24
                                try clear c26
                                try clear c28
                                try clear c28b0
                                try clear c30
                                try clear c32
                                try clear c38
                                try clear c38b0
                                try clear c39
                                try clear c39b0
                                try clear c41
                                try clear c41b0
                                try clear c42
                                try clear c44
                                try clear hcz11_0
                                try clear hcz11_1
                                try clear hcz15_0
                                try clear hcz15_1
                                try clear hcz20_0
                                try clear hcz20_1
                                try clear hcz25_0
                                try clear hcz25_1
                                try clear hcz27_0
                                try clear hcz27_1
                                try clear hcz33_0
                                try clear hcz33_1
                                try clear hcz34_0
                                try clear hcz34_1
                                try clear hcz43_0
                                try clear hcz43_1
                                try clear hcz45_0
                                try clear hcz45_1
                                try clear hcz9_0
                                try clear hcz9_1
                                try clear hfz11_0
                                try clear hfz11_1
                                try clear hfz15_0
                                try clear hfz15_1
                                try clear hfz20_0
                                try clear hfz20_1
                                try clear hfz25_0
                                try clear hfz25_1
                                try clear hfz27_0
                                try clear hfz27_1
                                try clear hfz33_0
                                try clear hfz33_1
                                try clear hfz34_0
                                try clear hfz34_1
                                try clear hfz43_0
                                try clear hfz43_1
                                try clear hfz45_0
                                try clear hfz45_1
                                try clear hfz9_0
                                try clear hfz9_1
                                try clear hx136_0
                                try clear hx138_0
                                try clear p1
                                try clear p13
                                try clear p136
                                try clear p138
                                try clear p2
                                try clear p6
                                try clear q1
                                try clear q13
                                try clear q136
                                try clear q138
                                obtain ⟨kq, x67_39, rfl, HA, HJ39, HO_136000, HO_136001, BK126, BK135, HB⟩ := hcut
                                cases kq with
                                | zero => exact absurd HA.out (by simp [fencepostlaw10_ScEnds.j5])
                                | succ kj39 =>
                                  have H := HA.out
                                  clear HA
                                  simp only [fencepostlaw10_ScEnds.j5] at H
                                  by_cases c46 : x67_39 = true
                                  · subst c46
                                    have H1 : (if (l0_1.length : Int) = 0 then (none) else ((sc_Step.f l0_0 l0_1 x136000_5 x136001_5 (Int.tmod (wrap64 (x10_30 + x12_5)) (l0_1.length : Int))).bind fun bt139 => (if bt139.2.2 = true then (fencepostlaw10_ScEnds.l2 kj39 l1 t127 x7_2 x9_3 x10_30 true (wrap64 (x12_5 + 1)) l0_0 l0_1 bt139.1 bt139.2.1) else (fencepostlaw10_ScEnds.l2 kj39 l1 t127 x7_2 x9_3 x10_30 x11_5 (wrap64 (x12_5 + 1)) l0_0 l0_1 x136000_5 x136001_5)))) = some r := by rw [if_pos rfl] at H; exact H
                                    clear H
                                    have H := H1
                                    clear H1
                                    by_cases c47 : (l0_1.length : Int) = 0
                                    · rw [if_pos c47] at H
                                      exact absurd H (by simp)
                                    · rw [if_neg c47] at H
                                      have c47b0 : ((l0_1.length : Int) == 0) = false := beq_eq_false_iff_ne.mpr c47
                                      have c47b1 : ((l0_1.length : Int) != 0) = true := bne_iff_ne.mpr c47
                                      have c47b2 : ¬ (l0_1 = []) := fun h_ => c47 (by rw [h_]; rfl)
                                      replace H := Option.bind_eq_some_iff.mp H
                                      obtain ⟨⟨t139, t142, t145⟩, A480, H⟩ := H
                                      replace H : (if t145 = true then (fencepostlaw10_ScEnds.l2 kj39 l1 t127 x7_2 x9_3 x10_30 true (wrap64 (x12_5 + 1)) l0_0 l0_1 t139 t142) else (fencepostlaw10_ScEnds.l2 kj39 l1 t127 x7_2 x9_3 x10_30 x11_5 (wrap64 (x12_5 + 1)) l0_0 l0_1 x136000_5 x136001_5)) = some r := H
                                      have A48 := Aside0.mk A480
                                      clear A480
                                      by_cases c49 : t145 = true
                                      · subst c49
                                        have H1 : (fencepostlaw10_ScEnds.l2 kj39 l1 t127 x7_2 x9_3 x10_30 true (wrap64 (x12_5 + 1)) l0_0 l0_1 t139 t142) = some r := by rw [if_pos rfl] at H; exact H
                                        clear H
                                        have H := H1
                                        clear H1
                                        have H' := Aside0.mk H
                                        clear H
                                        obtain ⟨Ao50, co50, eo50⟩ := Kd.V_slice HO_136000.out
                                        subst eo50
                                        obtain ⟨Ao51, co51, eo51⟩ := Kd.V_slice HO_136001.out
                                        subst eo51
                                        try go_wp2
                                        have n0_ := Aside0.mk (Kd.V_drew HO_136000.out)
                                        have n1_ := Aside0.mk (Kd.V_drew HO_136001.out)
                                        have n2_ := Aside0.mk (blk_drew BK126.out)
                                        have n3_ := Aside0.mk (blk_drew BK135.out)
                                        have n4_ := Aside0.mk (below_drew1 HB.out)
                                        clear HO_136000
                                        clear HO_136001
                                        clear BK126
                                        clear BK135
                                        clear HB
                                        have HO_136000 := n0_
                                        have HO_136001 := n1_
                                        have BK126 := n2_
                                        have BK135 := n3_
                                        have HB := n4_
                                        clear n0_ n1_ n2_ n3_ n4_
                                        refine start_ (n := 16) (S := fun w' => w'.cell? ⟨gb126, 0, none⟩ = some (.slice A0_0 l0_0.length c0_0) ∧ w'.cell? ⟨gb126, 1, none⟩ = some (.slice A0_1 l0_1.length c0_1) ∧ w'.cell? ⟨gb135, 0, none⟩ = some (.slice Ao50 x136000_5.length co50) ∧ w'.cell? ⟨gb135, 1, none⟩ = some (.slice Ao51 x136001_5.length co51)) (ds := []) #[false, false, false, false, false, false, false, false, false, false, false, false, false, false, false, false] (by kernel_rfl) rfl rfl ⟨(blk_cell BK126.out 0).trans rfl, (blk_cell BK126.out 1).trans rfl, (blk_cell BK135.out 0).trans rfl, (blk_cell BK135.out 1).trans rfl⟩ (fun hHeld => ?_); refine with_tabW fencepostlaw10_ScEnds.tab22 fencepostlaw10_ScEnds.bits22 (fun HT_ HW_ => ?_)
                                        generalize wc.drew = w52 at HO_136000 HO_136001 BK126 BK135 HB hHeld ⊢
                                        refine pure_ (i := 2) (N := some 73) (v := ?_) (a' := ?_) #[false, false, true, false, false, false, false, false, false, false, false, false, false, false, false, false] rfl rfl (any_of HT_.out (by kernel_rfl)) (fun _ _ _ h => h) (Or.inl ⟨by rfl, ?_⟩) ?_ ?_
                                        rotate_left
                                        · intro w'
                                          go_simp
                                          with_reducible rfl
                                        rotate_left
                                        · simp only [Act.put, List.setIfInBounds_toArray, List.set_cons_zero, List.set_cons_succ, i64_w, i32_w]
                                          rfl
                                        refine pure_ (i := 3) (N := some 74) (v := ?_) (a' := ?_) #[false, false, true, true, false, false, false, false, false, false, false, false, false, false, false, false] rfl rfl (any_of HT_.out (by kernel_rfl)) (fun _ _ _ h => h) (Or.inl ⟨by rfl, ?_⟩) ?_ ?_
                                        rotate_left
                                        · intro w'
                                          go_simp
                                          with_reducible rfl
                                        rotate_left
                                        · simp only [Act.put, List.setIfInBounds_toArray, List.set_cons_zero, List.set_cons_succ, i64_w, i32_w]
                                          rfl
                                        refine pure_ (i := 4) (N := some 75) (v := ?_) (a' := ?_) #[false, false, true, true, true, false, false, false, false, false, false, false, false, false, false, false] rfl rfl (any_of HT_.out (by kernel_rfl)) (fun _ _ _ h => h) (Or.inl ⟨by rfl, ?_⟩) ?_ ?_
                                        rotate_left
                                        · intro w'
                                          go_simp
                                          with_reducible rfl
                                        rotate_left
                                        · simp only [Act.put, List.setIfInBounds_toArray, List.set_cons_zero, List.set_cons_succ, i64_w, i32_w]
                                          rfl
                                        refine pure_ (i := 5) (N := some 76) (v := ?_) (a' := ?_) #[false, false, true, true, true, true, false, false, false, false, false, false, false, false, false, false] rfl rfl (any_of HT_.out (by kernel_rfl)) (fun _ _ _ h => h) (Or.inl ⟨by rfl, ?_⟩) ?_ ?_
                                        rotate_left
                                        · intro w'
                                          go_simp
                                          with_reducible rfl
                                        rotate_left
                                        · simp only [Act.put, List.setIfInBounds_toArray, List.set_cons_zero, List.set_cons_succ, i64_w, i32_w]
                                          rfl
                                        refine take_ (i := 0) (N := some 71) (v := ?_) (a' := ?_) #[true, false, true, true, true, true, false, false, false, false, false, false, false, false, false, false] rfl rfl (take_ofW HT_.out HW_.out (by kernel_rfl)) (fun _ _ _ h => h) (Or.inl ⟨by rfl, ?_⟩) hHeld ?_ ?_
                                        rotate_left
                                        · rintro w' ⟨s0, s1, s2, s3⟩
                                          go_simp
                                          with_reducible rfl
                                        rotate_left
                                        · simp only [Act.put, List.setIfInBounds_toArray, List.set_cons_zero, List.set_cons_succ, i64_w, i32_w]
                                          rfl
                                        refine take_ (i := 1) (N := some 72) (v := ?_) (a' := ?_) #[true, true, true, true, true, true, false, false, false, false, false, false, false, false, false, false] rfl rfl (take_ofW HT_.out HW_.out (by kernel_rfl)) (fun _ _ _ h => h) (Or.inl ⟨by rfl, ?_⟩) hHeld ?_ ?_
                                        rotate_left
                                        · rintro w' ⟨s0, s1, s2, s3⟩
                                          go_simp
                                          with_reducible rfl
                                        rotate_left
                                        · simp only [Act.put, List.setIfInBounds_toArray, List.set_cons_zero, List.set_cons_succ, i64_w, i32_w]
                                          rfl
                                        refine take_ (i := 6) (N := some 77) (v := ?_) (a' := ?_) #[true, true, true, true, true, true, true, false, false, false, false, false, false, false, false, false] rfl rfl (take_ofW HT_.out HW_.out (by kernel_rfl)) (fun _ _ _ h => h) (Or.inl ⟨by rfl, ?_⟩) hHeld ?_ ?_
                                        rotate_left
                                        · rintro w' ⟨s0, s1, s2, s3⟩
                                          go_simp
                                          with_reducible rfl
                                        rotate_left
                                        · simp only [Act.put, List.setIfInBounds_toArray, List.set_cons_zero, List.set_cons_succ, i64_w, i32_w]
                                          rfl
                                        refine pure_ (i := 7) (N := some 78) (v := ?_) (a' := ?_) #[true, true, true, true, true, true, true, true, false, false, false, false, false, false, false, false] rfl rfl (any_of HT_.out (by kernel_rfl)) (fun _ _ _ h => h) (Or.inl ⟨by rfl, ?_⟩) ?_ ?_
                                        rotate_left
                                        · intro w'
                                          go_simp
                                          with_reducible rfl
                                        rotate_left
                                        · simp only [Act.put, List.setIfInBounds_toArray, List.set_cons_zero, List.set_cons_succ, i64_w, i32_w]
                                          rfl
                                        refine pure_ (i := 8) (N := some 79) (v := ?_) (a' := ?_) #[true, true, true, true, true, true, true, true, true, false, false, false, false, false, false, false] rfl rfl (any_of HT_.out (by kernel_rfl)) (fun _ _ _ h => h) (Or.inl ⟨by rfl, ?_⟩) ?_ ?_
                                        rotate_left
                                        · intro w'
                                          go_simp
                                          with_reducible rfl
                                        rotate_left
                                        · simp only [Act.put, List.setIfInBounds_toArray, List.set_cons_zero, List.set_cons_succ, i64_w, i32_w]
                                          rfl
                                        refine join_ (σ := Value × Value × Nat) 2 #[true, true, true, true, true, true, true, true, true, true, true, true, true, true, false, false] (fun s_ => [(80, .tuple #[.agg #[s_.1, s_.2.1], .bool true]), (13, .pointer (some ⟨s_.2.2, 0, none⟩)), (70, .tuple #[.agg #[s_.1, s_.2.1], .bool true]), (81, .agg #[s_.1, s_.2.1]), (82, .bool true)]) (fun s_ w' => (w'.cell? ⟨gb126, 0, none⟩ = some (.slice A0_0 l0_0.length c0_0) ∧ w'.cell? ⟨gb126, 1, none⟩ = some (.slice A0_1 l0_1.length c0_1) ∧ w'.cell? ⟨gb135, 0, none⟩ = some (.slice Ao50 x136000_5.length co50) ∧ w'.cell? ⟨gb135, 1, none⟩ = some (.slice Ao51 x136001_5.length co51)) ∧ (Kd.V (Kd.int .i64) 3 w' w.heap.size (fun k_ => k_ ≠ gb126 ∧ k_ ≠ gb135 ∧ k_ ≠ s_.2.2) s_.1 t139) ∧ (Kd.V k45 45 w' w.heap.size (fun k_ => k_ ≠ gb126 ∧ k_ ≠ gb135 ∧ k_ ≠ s_.2.2) s_.2.1 t142) ∧ (Kd.V (Kd.int .i64) 3 w' w.heap.size (fun k_ => k_ ≠ gb126 ∧ k_ ≠ gb135 ∧ k_ ≠ s_.2.2) (.slice Ao50 x136000_5.length co50) x136000_5) ∧ (Kd.V k45 45 w' w.heap.size (fun k_ => k_ ≠ gb126 ∧ k_ ≠ gb135 ∧ k_ ≠ s_.2.2) (.slice Ao51 x136001_5.length co51) x136001_5) ∧ (w'.heap[gb126]? = some (.cells #[.slice A0_0 l0_0.length c0_0, .slice A0_1 l0_1.length c0_1] 25 (0, 0))) ∧ (w'.heap[gb135]? = some (.cells #[.slice Ao50 x136000_5.length co50, .slice Ao51 x136001_5.length co51] 28 (0, 0))) ∧ (w'.heap[s_.2.2]? = some (.cells #[.slice none 0 0, .slice none 0 0] 28 (0, 0))) ∧ (w.heap.size ≤ s_.2.2) ∧ (w.heap.size ≤ s_.2.2) ∧ (gb126 ≠ s_.2.2) ∧ (s_.2.2 ≠ gb126) ∧ (gb135 ≠ s_.2.2) ∧ (s_.2.2 ≠ gb135) ∧ (Below w.heap.size w w')) ?_ ?_
                                        rotate_left
                                        · intro hCont
                                          refine two_ (i := 9) (j := 13) (Ni := some 80) (Nj := some 13) #[true, true, true, true, true, true, true, true, true, true, false, false, false, false, false, false] #[true, true, true, true, true, true, true, true, true, false, false, false, false, true, false, false] rfl rfl rfl rfl (two_of HT_.out (by kernel_rfl)) (by decide) (by decide) (fun K hK => ?_) (fun K hK => ?_)
                                          · skip
                                            refine goes_ Try.func17 (by kernel_rfl) rfl #[.agg #[.slice A0_0 l0_0.length c0_0, .slice A0_1 l0_1.length c0_1], .agg #[.slice Ao50 x136000_5.length co50, .slice Ao51 x136001_5.length co51], .int .i64 (Int.tmod (wrap64 (x10_30 + x12_5)) (l0_1.length : Int))] (by rfl) rfl rfl (by (try simp only [List.map_toArray, List.map_cons, List.map_nil]); first | done | rfl | (simp only [List.length_drop, List.length_take]; rfl)) ?_
                                            with_reducible refine (sc_Step.calls _ _ l0_0 _ _ l0_1 _ _ x136000_5 _ _ x136001_5 (Int.tmod (wrap64 (x10_30 + x12_5)) (l0_1.length : Int)) t139 t142 true _ ?side1 ?side2 ?side3 ?side4 ?side5 ?side6 ?side7 ?side8 A48.out).mono ?_
                                            (case side1 => repeat (first | exact (Kd.C_below HR0_0.out HB.out) | (with_reducible refine Kd.C_alloc ?_ _) | (with_reducible refine Kd.C_drewN ?_ _) | (with_reducible refine Kd.C_drew ?_)))
                                            (case side2 => exact HC0_0.out)
                                            (case side3 => repeat (first | exact (Kd.C_below HR0_1.out HB.out) | (with_reducible refine Kd.C_alloc ?_ _) | (with_reducible refine Kd.C_drewN ?_ _) | (with_reducible refine Kd.C_drew ?_)))
                                            (case side4 => exact HC0_1.out)
                                            (case side5 => repeat (first | exact (Kd.V_reads' HO_136000.out).2.2 | (with_reducible refine Kd.C_alloc ?_ _) | (with_reducible refine Kd.C_drewN ?_ _) | (with_reducible refine Kd.C_drew ?_)))
                                            (case side6 => exact (Kd.V_reads' HO_136000.out).2.1)
                                            (case side7 => repeat (first | exact (Kd.V_reads' HO_136001.out).2.2 | (with_reducible refine Kd.C_alloc ?_ _) | (with_reducible refine Kd.C_drewN ?_ _) | (with_reducible refine Kd.C_drew ?_)))
                                            (case side8 => exact (Kd.V_reads' HO_136001.out).2.1)
                                            rintro e w53 ⟨v140, v143, rfl, ho0, ho1, hb⟩
                                            refine ⟨_, rfl, ?_⟩
                                            have n0_ := Aside0.mk (Kd.V_below (by (with_reducible repeat (first | apply Kd.V_alloc | apply Kd.V_drewN | apply Kd.V_drew)); exact HO_136000.out) hb)
                                            have n1_ := Aside0.mk (Kd.V_below (by (with_reducible repeat (first | apply Kd.V_alloc | apply Kd.V_drewN | apply Kd.V_drew)); exact HO_136001.out) hb)
                                            have n2_ := Aside0.mk (Kd.V_lower (Kd.V_mono (ok' := fun k_ => k_ ≠ gb126 ∧ k_ ≠ gb135) ho0 (fun k_ hk_ => ⟨(Kd.freshB (g := gb126) (o := .cells #[.slice A0_0 l0_0.length c0_0, .slice A0_1 l0_1.length c0_1] 25 (0, 0)) (by (with_reducible repeat (first | refine blk_drewN ?_ _ | refine blk_drew ?_ | refine blk_alloc ?_ _)); exact BK126.out) k_ hk_), (Kd.freshB (g := gb135) (o := .cells #[.slice Ao50 x136000_5.length co50, .slice Ao51 x136001_5.length co51] 28 (0, 0)) (by (with_reducible repeat (first | refine blk_drewN ?_ _ | refine blk_drew ?_ | refine blk_alloc ?_ _)); exact BK135.out) k_ hk_)⟩)) (below_size (by repeat (first | (with_reducible first | exact HB.out | apply below_alloc | apply pw_below_drewN | apply below_drew1 | refine below_set ?_ GE126.out | refine below_set ?_ GE135.out) | exact HB.out))))
                                            have n3_ := Aside0.mk (Kd.V_lower (Kd.V_mono (ok' := fun k_ => k_ ≠ gb126 ∧ k_ ≠ gb135) ho1 (fun k_ hk_ => ⟨(Kd.freshB (g := gb126) (o := .cells #[.slice A0_0 l0_0.length c0_0, .slice A0_1 l0_1.length c0_1] 25 (0, 0)) (by (with_reducible repeat (first | refine blk_drewN ?_ _ | refine blk_drew ?_ | refine blk_alloc ?_ _)); exact BK126.out) k_ hk_), (Kd.freshB (g := gb135) (o := .cells #[.slice Ao50 x136000_5.length co50, .slice Ao51 x136001_5.length co51] 28 (0, 0)) (by (with_reducible repeat (first | refine blk_drewN ?_ _ | refine blk_drew ?_ | refine blk_alloc ?_ _)); exact BK135.out) k_ hk_)⟩)) (below_size (by repeat (first | (with_reducible first | exact HB.out | apply below_alloc | apply pw_below_drewN | apply below_drew1 | refine below_set ?_ GE126.out | refine below_set ?_ GE135.out) | exact HB.out))))
                                            have n4_ := Aside0.mk (blk_below (g := gb126) (o := .cells #[.slice A0_0 l0_0.length c0_0, .slice A0_1 l0_1.length c0_1] 25 (0, 0)) (by (with_reducible repeat (first | refine blk_drewN ?_ _ | refine blk_drew ?_ | refine blk_alloc ?_ _)); exact BK126.out) hb)
                                            have n5_ := Aside0.mk (blk_below (g := gb135) (o := .cells #[.slice Ao50 x136000_5.length co50, .slice Ao51 x136001_5.length co51] 28 (0, 0)) (by (with_reducible repeat (first | refine blk_drewN ?_ _ | refine blk_drew ?_ | refine blk_alloc ?_ _)); exact BK135.out) hb)
                                            have n6_ := Aside0.mk (below_step (by repeat (first | (with_reducible first | exact HB.out | apply below_alloc | apply pw_below_drewN | apply below_drew1 | refine below_set ?_ GE126.out | refine below_set ?_ GE135.out) | exact HB.out)) hb)
                                            clear HO_136000
                                            clear HO_136001
                                            clear BK126
                                            clear BK135
                                            clear HB
                                            have HO_136000 := n0_
                                            have HO_136001 := n1_
                                            have HO141 := n2_
                                            have HO144 := n3_
                                            have BK126 := n4_
                                            have BK135 := n5_
                                            have HB := n6_
                                            clear n0_ n1_ n2_ n3_ n4_ n5_ n6_
                                            (try clear hb)
                                            (try clear hb2)
                                            (try clear hk)
                                            (try clear hi)
                                            (try clear ho0)
                                            (try clear ho1)
                                            refine hK.out _ _ ⟨(blk_cell BK126.out 0).trans rfl, (blk_cell BK126.out 1).trans rfl, (blk_cell BK135.out 0).trans rfl, (blk_cell BK135.out 1).trans rfl⟩ (fun hHeld => ?_)
                                            clear hK K
                                            refine norm_ (a' := ?_) ?_ ?_
                                            rotate_left
                                            · show Act.put _ (some 80) _ = _
                                              simp only [Act.put, List.setIfInBounds_toArray, List.set_cons_zero, List.set_cons_succ, i64_w, i32_w]
                                              rfl
                                            refine pure_ (i := 10) (N := some 70) (v := ?_) (a' := ?_) #[true, true, true, true, true, true, true, true, true, true, true, false, false, false, false, false] rfl rfl (any_of HT_.out (by kernel_rfl)) (fun _ _ _ h => h) (Or.inl ⟨by rfl, ?_⟩) ?_ ?_
                                            rotate_left
                                            · intro w'
                                              go_simp
                                              with_reducible rfl
                                            rotate_left
                                            · simp only [Act.put, List.setIfInBounds_toArray, List.set_cons_zero, List.set_cons_succ, i64_w, i32_w]
                                              rfl
                                            refine pure_ (i := 11) (N := some 81) (v := ?_) (a' := ?_) #[true, true, true, true, true, true, true, true, true, true, true, true, false, false, false, false] rfl rfl (any_of HT_.out (by kernel_rfl)) (fun _ _ _ h => h) (Or.inl ⟨by rfl, ?_⟩) ?_ ?_
                                            rotate_left
                                            · intro w'
                                              go_simp
                                              with_reducible rfl
                                            rotate_left
                                            · simp only [Act.put, List.setIfInBounds_toArray, List.set_cons_zero, List.set_cons_succ, i64_w, i32_w]
                                              rfl
                                            refine pure_ (i := 12) (N := some 82) (v := ?_) (a' := ?_) #[true, true, true, true, true, true, true, true, true, true, true, true, true, false, false, false] rfl rfl (any_of HT_.out (by kernel_rfl)) (fun _ _ _ h => h) (Or.inl ⟨by rfl, ?_⟩) ?_ ?_
                                            rotate_left
                                            · intro w'
                                              go_simp
                                              with_reducible rfl
                                            rotate_left
                                            · simp only [Act.put, List.setIfInBounds_toArray, List.set_cons_zero, List.set_cons_succ, i64_w, i32_w]
                                              rfl
                                            refine one_ (i := 13) (N := some 13) #[true, true, true, true, true, true, true, true, true, true, true, true, true, true, false, false] rfl rfl (one_of HT_.out (by kernel_rfl)) (by decide) (fun K hK => ?_)
                                            refine box_step ?hg (N := 13) ?hd (cs := #[.slice none 0 0, .slice none 0 0]) (t := 28) ?hr ?_; (case hd => rfl); (case hg => rfl); (case hr => first | (go_simp; done) | (go_simp; rfl))
                                            intro gb146 hg w54 hbox hb
                                            have n0_ := Aside0.mk (Kd.V_below (Kd.V_elderB (by (with_reducible repeat (first | apply Kd.V_alloc | apply Kd.V_drewN | apply Kd.V_drew)); exact HO_136000.out) gb146 (Nat.le_of_eq hg.symm)) hb)
                                            have n1_ := Aside0.mk (Kd.V_below (Kd.V_elderB (by (with_reducible repeat (first | apply Kd.V_alloc | apply Kd.V_drewN | apply Kd.V_drew)); exact HO_136001.out) gb146 (Nat.le_of_eq hg.symm)) hb)
                                            have n2_ := Aside0.mk (Kd.V_below (Kd.V_elderB (by (with_reducible repeat (first | apply Kd.V_alloc | apply Kd.V_drewN | apply Kd.V_drew)); exact HO141.out) gb146 (Nat.le_of_eq hg.symm)) hb)
                                            have n3_ := Aside0.mk (Kd.V_below (Kd.V_elderB (by (with_reducible repeat (first | apply Kd.V_alloc | apply Kd.V_drewN | apply Kd.V_drew)); exact HO144.out) gb146 (Nat.le_of_eq hg.symm)) hb)
                                            have n4_ := Aside0.mk (blk_below (g := gb126) (o := .cells #[.slice A0_0 l0_0.length c0_0, .slice A0_1 l0_1.length c0_1] 25 (0, 0)) (by (with_reducible repeat (first | refine blk_drewN ?_ _ | refine blk_drew ?_ | refine blk_alloc ?_ _)); exact BK126.out) hb)
                                            have n5_ := Aside0.mk (blk_below (g := gb135) (o := .cells #[.slice Ao50 x136000_5.length co50, .slice Ao51 x136001_5.length co51] 28 (0, 0)) (by (with_reducible repeat (first | refine blk_drewN ?_ _ | refine blk_drew ?_ | refine blk_alloc ?_ _)); exact BK135.out) hb)
                                            have n6_ := Aside0.mk (below_step (by repeat (first | (with_reducible first | exact HB.out | apply below_alloc | apply pw_below_drewN | apply below_drew1 | refine below_set ?_ GE126.out | refine below_set ?_ GE135.out) | exact HB.out)) hb)
                                            have n7_ := Aside0.mk (hbox)
                                            have n8_ := Aside0.mk ((by rw [hg]; exact (below_size (by repeat (first | (with_reducible first | exact HB.out | apply below_alloc | apply pw_below_drewN | apply below_drew1 | refine below_set ?_ GE126.out | refine below_set ?_ GE135.out) | exact HB.out))) : w.heap.size ≤ gb146))
                                            have n9_ := Aside0.mk ((by rw [hg]; exact (below_size (by repeat (first | (with_reducible first | exact HB.out | apply below_alloc | apply pw_below_drewN | apply below_drew1 | refine below_set ?_ GE126.out | refine below_set ?_ GE135.out) | exact HB.out))) : w.heap.size ≤ gb146))
                                            have n10_ := Aside0.mk ((by rw [hg]; exact Nat.ne_of_lt (blk_lt (g := gb126) (o := .cells #[.slice A0_0 l0_0.length c0_0, .slice A0_1 l0_1.length c0_1] 25 (0, 0)) (by (with_reducible repeat (first | refine blk_drewN ?_ _ | refine blk_drew ?_ | refine blk_alloc ?_ _)); exact BK126.out)) : gb126 ≠ gb146))
                                            have n11_ := Aside0.mk ((by rw [hg]; exact Nat.ne_of_gt (blk_lt (g := gb126) (o := .cells #[.slice A0_0 l0_0.length c0_0, .slice A0_1 l0_1.length c0_1] 25 (0, 0)) (by (with_reducible repeat (first | refine blk_drewN ?_ _ | refine blk_drew ?_ | refine blk_alloc ?_ _)); exact BK126.out)) : gb146 ≠ gb126))
                                            have n12_ := Aside0.mk ((by rw [hg]; exact Nat.ne_of_lt (blk_lt (g := gb135) (o := .cells #[.slice Ao50 x136000_5.length co50, .slice Ao51 x136001_5.length co51] 28 (0, 0)) (by (with_reducible repeat (first | refine blk_drewN ?_ _ | refine blk_drew ?_ | refine blk_alloc ?_ _)); exact BK135.out)) : gb135 ≠ gb146))
                                            have n13_ := Aside0.mk ((by rw [hg]; exact Nat.ne_of_gt (blk_lt (g := gb135) (o := .cells #[.slice Ao50 x136000_5.length co50, .slice Ao51 x136001_5.length co51] 28 (0, 0)) (by (with_reducible repeat (first | refine blk_drewN ?_ _ | refine blk_drew ?_ | refine blk_alloc ?_ _)); exact BK135.out)) : gb146 ≠ gb135))
                                            clear HO_136000
                                            clear HO_136001
                                            clear HO141
                                            clear HO144
                                            clear BK126
                                            clear BK135
                                            clear HB
                                            have HO_136000 := n0_
                                            have HO_136001 := n1_
                                            have HO141 := n2_
                                            have HO144 := n3_
                                            have BK126 := n4_
                                            have BK135 := n5_
                                            have HB := n6_
                                            have BK146 := n7_
                                            have GW146 := n8_
                                            have GE146 := n9_
                                            have NB126_146 := n10_
                                            have NB146_126 := n11_
                                            have NB135_146 := n12_
                                            have NB146_135 := n13_
                                            clear n0_ n1_ n2_ n3_ n4_ n5_ n6_ n7_ n8_ n9_ n10_ n11_ n12_ n13_
                                            clear hb hbox hg
                                            refine hK.out _ _ ⟨(blk_cell BK126.out 0).trans rfl, (blk_cell BK126.out 1).trans rfl, (blk_cell BK135.out 0).trans rfl, (blk_cell BK135.out 1).trans rfl⟩ (fun hHeld => ?_)
                                            clear hK K
                                            refine norm_ (a' := ?_) ?_ ?_
                                            rotate_left
                                            · show Act.put _ (some 13) _ = _
                                              simp only [Act.put, List.setIfInBounds_toArray, List.set_cons_zero, List.set_cons_succ, i64_w, i32_w]
                                              rfl
                                            exact norm_ (by simp only [putAll, Act.put, List.setIfInBounds_toArray, List.set_cons_zero, List.set_cons_succ]) (hCont (v140, v143, gb146) _ ⟨hHeld, (by (with_reducible repeat (first | apply Kd.V_alloc | apply Kd.V_drewN | apply Kd.V_drew)); exact Kd.V_mono HO141.out (fun _ hk => ⟨hk.1.1, ⟨hk.1.2, hk.2⟩⟩)), (by (with_reducible repeat (first | apply Kd.V_alloc | apply Kd.V_drewN | apply Kd.V_drew)); exact Kd.V_mono HO144.out (fun _ hk => ⟨hk.1.1, ⟨hk.1.2, hk.2⟩⟩)), (by (with_reducible repeat (first | apply Kd.V_alloc | apply Kd.V_drewN | apply Kd.V_drew)); exact Kd.V_mono HO_136000.out (fun _ hk => ⟨hk.1.1, ⟨hk.1.2, hk.2⟩⟩)), (by (with_reducible repeat (first | apply Kd.V_alloc | apply Kd.V_drewN | apply Kd.V_drew)); exact Kd.V_mono HO_136001.out (fun _ hk => ⟨hk.1.1, ⟨hk.1.2, hk.2⟩⟩)), (by (with_reducible repeat (first | refine blk_drewN ?_ _ | refine blk_drew ?_ | refine blk_alloc ?_ _)); exact BK126.out), (by (with_reducible repeat (first | refine blk_drewN ?_ _ | refine blk_drew ?_ | refine blk_alloc ?_ _)); exact BK135.out), (by (with_reducible repeat (first | refine blk_drewN ?_ _ | refine blk_drew ?_ | refine blk_alloc ?_ _)); exact BK146.out), GW146.out, GE146.out, NB126_146.out, NB146_126.out, NB135_146.out, NB146_135.out, (by repeat (first | (with_reducible first | exact HB.out | apply below_alloc | apply pw_below_drewN | apply below_drew1 | refine below_set ?_ GE126.out | refine below_set ?_ GE135.out | refine below_set ?_ GE146.out) | exact HB.out))⟩)
                                          · skip
                                            refine box_step ?hg (N := 13) ?hd (cs := #[.slice none 0 0, .slice none 0 0]) (t := 28) ?hr ?_; (case hd => rfl); (case hg => rfl); (case hr => first | (go_simp; done) | (go_simp; rfl))
                                            intro gb146 hg w53 hbox hb
                                            have n0_ := Aside0.mk (Kd.V_below (Kd.V_elderB (by (with_reducible repeat (first | apply Kd.V_alloc | apply Kd.V_drewN | apply Kd.V_drew)); exact HO_136000.out) gb146 (Nat.le_of_eq hg.symm)) hb)
                                            have n1_ := Aside0.mk (Kd.V_below (Kd.V_elderB (by (with_reducible repeat (first | apply Kd.V_alloc | apply Kd.V_drewN | apply Kd.V_drew)); exact HO_136001.out) gb146 (Nat.le_of_eq hg.symm)) hb)
                                            have n2_ := Aside0.mk (blk_below (g := gb126) (o := .cells #[.slice A0_0 l0_0.length c0_0, .slice A0_1 l0_1.length c0_1] 25 (0, 0)) (by (with_reducible repeat (first | refine blk_drewN ?_ _ | refine blk_drew ?_ | refine blk_alloc ?_ _)); exact BK126.out) hb)
                                            have n3_ := Aside0.mk (blk_below (g := gb135) (o := .cells #[.slice Ao50 x136000_5.length co50, .slice Ao51 x136001_5.length co51] 28 (0, 0)) (by (with_reducible repeat (first | refine blk_drewN ?_ _ | refine blk_drew ?_ | refine blk_alloc ?_ _)); exact BK135.out) hb)
                                            have n4_ := Aside0.mk (below_step (by repeat (first | (with_reducible first | exact HB.out | apply below_alloc | apply pw_below_drewN | apply below_drew1 | refine below_set ?_ GE126.out | refine below_set ?_ GE135.out) | exact HB.out)) hb)
                                            have n5_ := Aside0.mk (hbox)
                                            have n6_ := Aside0.mk ((by rw [hg]; exact (below_size (by repeat (first | (with_reducible first | exact HB.out | apply below_alloc | apply pw_below_drewN | apply below_drew1 | refine below_set ?_ GE126.out | refine below_set ?_ GE135.out) | exact HB.out))) : w.heap.size ≤ gb146))
                                            have n7_ := Aside0.mk ((by rw [hg]; exact (below_size (by repeat (first | (with_reducible first | exact HB.out | apply below_alloc | apply pw_below_drewN | apply below_drew1 | refine below_set ?_ GE126.out | refine below_set ?_ GE135.out) | exact HB.out))) : w.heap.size ≤ gb146))
                                            have n8_ := Aside0.mk ((by rw [hg]; exact Nat.ne_of_lt (blk_lt (g := gb126) (o := .cells #[.slice A0_0 l0_0.length c0_0, .slice A0_1 l0_1.length c0_1] 25 (0, 0)) (by (with_reducible repeat (first | refine blk_drewN ?_ _ | refine blk_drew ?_ | refine blk_alloc ?_ _)); exact BK126.out)) : gb126 ≠ gb146))
                                            have n9_ := Aside0.mk ((by rw [hg]; exact Nat.ne_of_gt (blk_lt (g := gb126) (o := .cells #[.slice A0_0 l0_0.length c0_0, .slice A0_1 l0_1.length c0_1] 25 (0, 0)) (by (with_reducible repeat (first | refine blk_drewN ?_ _ | refine blk_drew ?_ | refine blk_alloc ?_ _)); exact BK126.out)) : gb146 ≠ gb126))
                                            have n10_ := Aside0.mk ((by rw [hg]; exact Nat.ne_of_lt (blk_lt (g := gb135) (o := .cells #[.slice Ao50 x136000_5.length co50, .slice Ao51 x136001_5.length co51] 28 (0, 0)) (by (with_reducible repeat (first | refine blk_drewN ?_ _ | refine blk_drew ?_ | refine blk_alloc ?_ _)); exact BK135.out)) : gb135 ≠ gb146))
                                            have n11_ := Aside0.mk ((by rw [hg]; exact Nat.ne_of_gt (blk_lt (g := gb135) (o := .cells #[.slice Ao50 x136000_5.length co50, .slice Ao51 x136001_5.length co51] 28 (0, 0)) (by (with_reducible repeat (first | refine blk_drewN ?_ _ | refine blk_drew ?_ | refine blk_alloc ?_ _)); exact BK135.out)) : gb146 ≠ gb135))
                                            clear HO_136000
                                            clear HO_136001
                                            clear BK126
                                            clear BK135
                                            clear HB
                                            have HO_136000 := n0_
                                            have HO_136001 := n1_
                                            have BK126 := n2_
                                            have BK135 := n3_
                                            have HB := n4_
                                            have BK146 := n5_
                                            have GW146 := n6_
                                            have GE146 := n7_
                                            have NB126_146 := n8_
                                            have NB146_126 := n9_
                                            have NB135_146 := n10_
                                            have NB146_135 := n11_
                                            clear n0_ n1_ n2_ n3_ n4_ n5_ n6_ n7_ n8_ n9_ n10_ n11_
                                            clear hb hbox hg
                                            refine hK.out _ _ ⟨(blk_cell BK126.out 0).trans rfl, (blk_cell BK126.out 1).trans rfl, (blk_cell BK135.out 0).trans rfl, (blk_cell BK135.out 1).trans rfl⟩ (fun hHeld => ?_)
                                            clear hK K
                                            refine norm_ (a' := ?_) ?_ ?_
                                            rotate_left
                                            · show Act.put _ (some 13) _ = _
                                              simp only [Act.put, List.setIfInBounds_toArray, List.set_cons_zero, List.set_cons_succ, i64_w, i32_w]
                                              rfl
                                            refine one_ (i := 9) (N := some 80) #[true, true, true, true, true, true, true, true, true, true, false, false, false, true, false, false] rfl rfl (one_of HT_.out (by kernel_rfl)) (by decide) (fun K hK => ?_)
                                            refine goes_ Try.func17 (by kernel_rfl) rfl #[.agg #[.slice A0_0 l0_0.length c0_0, .slice A0_1 l0_1.length c0_1], .agg #[.slice Ao50 x136000_5.length co50, .slice Ao51 x136001_5.length co51], .int .i64 (Int.tmod (wrap64 (x10_30 + x12_5)) (l0_1.length : Int))] (by rfl) rfl rfl (by (try simp only [List.map_toArray, List.map_cons, List.map_nil]); first | done | rfl | (simp only [List.length_drop, List.length_take]; rfl)) ?_
                                            with_reducible refine (sc_Step.calls _ _ l0_0 _ _ l0_1 _ _ x136000_5 _ _ x136001_5 (Int.tmod (wrap64 (x10_30 + x12_5)) (l0_1.length : Int)) t139 t142 true _ ?side1 ?side2 ?side3 ?side4 ?side5 ?side6 ?side7 ?side8 A48.out).mono ?_
                                            (case side1 => repeat (first | exact (Kd.C_below HR0_0.out HB.out) | (with_reducible refine Kd.C_alloc ?_ _) | (with_reducible refine Kd.C_drewN ?_ _) | (with_reducible refine Kd.C_drew ?_)))
                                            (case side2 => exact HC0_0.out)
                                            (case side3 => repeat (first | exact (Kd.C_below HR0_1.out HB.out) | (with_reducible refine Kd.C_alloc ?_ _) | (with_reducible refine Kd.C_drewN ?_ _) | (with_reducible refine Kd.C_drew ?_)))
                                            (case side4 => exact HC0_1.out)
                                            (case side5 => repeat (first | exact (Kd.V_reads' HO_136000.out).2.2 | (with_reducible refine Kd.C_alloc ?_ _) | (with_reducible refine Kd.C_drewN ?_ _) | (with_reducible refine Kd.C_drew ?_)))
                                            (case side6 => exact (Kd.V_reads' HO_136000.out).2.1)
                                            (case side7 => repeat (first | exact (Kd.V_reads' HO_136001.out).2.2 | (with_reducible refine Kd.C_alloc ?_ _) | (with_reducible refine Kd.C_drewN ?_ _) | (with_reducible refine Kd.C_drew ?_)))
                                            (case side8 => exact (Kd.V_reads' HO_136001.out).2.1)
                                            rintro e w54 ⟨v140, v143, rfl, ho0, ho1, hb⟩
                                            refine ⟨_, rfl, ?_⟩
                                            have n0_ := Aside0.mk (Kd.V_below (by (with_reducible repeat (first | apply Kd.V_alloc | apply Kd.V_drewN | apply Kd.V_drew)); exact HO_136000.out) hb)
                                            have n1_ := Aside0.mk (Kd.V_below (by (with_reducible repeat (first | apply Kd.V_alloc | apply Kd.V_drewN | apply Kd.V_drew)); exact HO_136001.out) hb)
                                            have n2_ := Aside0.mk (Kd.V_lower (Kd.V_mono (ok' := fun k_ => k_ ≠ gb126 ∧ k_ ≠ gb135 ∧ k_ ≠ gb146) ho0 (fun k_ hk_ => ⟨(Kd.freshB (g := gb126) (o := .cells #[.slice A0_0 l0_0.length c0_0, .slice A0_1 l0_1.length c0_1] 25 (0, 0)) (by (with_reducible repeat (first | refine blk_drewN ?_ _ | refine blk_drew ?_ | refine blk_alloc ?_ _)); exact BK126.out) k_ hk_), (Kd.freshB (g := gb135) (o := .cells #[.slice Ao50 x136000_5.length co50, .slice Ao51 x136001_5.length co51] 28 (0, 0)) (by (with_reducible repeat (first | refine blk_drewN ?_ _ | refine blk_drew ?_ | refine blk_alloc ?_ _)); exact BK135.out) k_ hk_), (Kd.freshB (g := gb146) (o := .cells #[.slice none 0 0, .slice none 0 0] 28 (0, 0)) (by (with_reducible repeat (first | refine blk_drewN ?_ _ | refine blk_drew ?_ | refine blk_alloc ?_ _)); exact BK146.out) k_ hk_)⟩)) (below_size (by repeat (first | (with_reducible first | exact HB.out | apply below_alloc | apply pw_below_drewN | apply below_drew1 | refine below_set ?_ GE126.out | refine below_set ?_ GE135.out | refine below_set ?_ GE146.out) | exact HB.out))))
                                            have n3_ := Aside0.mk (Kd.V_lower (Kd.V_mono (ok' := fun k_ => k_ ≠ gb126 ∧ k_ ≠ gb135 ∧ k_ ≠ gb146) ho1 (fun k_ hk_ => ⟨(Kd.freshB (g := gb126) (o := .cells #[.slice A0_0 l0_0.length c0_0, .slice A0_1 l0_1.length c0_1] 25 (0, 0)) (by (with_reducible repeat (first | refine blk_drewN ?_ _ | refine blk_drew ?_ | refine blk_alloc ?_ _)); exact BK126.out) k_ hk_), (Kd.freshB (g := gb135) (o := .cells #[.slice Ao50 x136000_5.length co50, .slice Ao51 x136001_5.length co51] 28 (0, 0)) (by (with_reducible repeat (first | refine blk_drewN ?_ _ | refine blk_drew ?_ | refine blk_alloc ?_ _)); exact BK135.out) k_ hk_), (Kd.freshB (g := gb146) (o := .cells #[.slice none 0 0, .slice none 0 0] 28 (0, 0)) (by (with_reducible repeat (first | refine blk_drewN ?_ _ | refine blk_drew ?_ | refine blk_alloc ?_ _)); exact BK146.out) k_ hk_)⟩)) (below_size (by repeat (first | (with_reducible first | exact HB.out | apply below_alloc | apply pw_below_drewN | apply below_drew1 | refine below_set ?_ GE126.out | refine below_set ?_ GE135.out | refine below_set ?_ GE146.out) | exact HB.out))))
                                            have n4_ := Aside0.mk (blk_below (g := gb126) (o := .cells #[.slice A0_0 l0_0.length c0_0, .slice A0_1 l0_1.length c0_1] 25 (0, 0)) (by (with_reducible repeat (first | refine blk_drewN ?_ _ | refine blk_drew ?_ | refine blk_alloc ?_ _)); exact BK126.out) hb)
                                            have n5_ := Aside0.mk (blk_below (g := gb135) (o := .cells #[.slice Ao50 x136000_5.length co50, .slice Ao51 x136001_5.length co51] 28 (0, 0)) (by (with_reducible repeat (first | refine blk_drewN ?_ _ | refine blk_drew ?_ | refine blk_alloc ?_ _)); exact BK135.out) hb)
                                            have n6_ := Aside0.mk (blk_below (g := gb146) (o := .cells #[.slice none 0 0, .slice none 0 0] 28 (0, 0)) (by (with_reducible repeat (first | refine blk_drewN ?_ _ | refine blk_drew ?_ | refine blk_alloc ?_ _)); exact BK146.out) hb)
                                            have n7_ := Aside0.mk (below_step (by repeat (first | (with_reducible first | exact HB.out | apply below_alloc | apply pw_below_drewN | apply below_drew1 | refine below_set ?_ GE126.out | refine below_set ?_ GE135.out | refine below_set ?_ GE146.out) | exact HB.out)) hb)
                                            clear HO_136000
                                            clear HO_136001
                                            clear BK126
                                            clear BK135
                                            clear BK146
                                            clear HB
                                            have HO_136000 := n0_
                                            have HO_136001 := n1_
                                            have HO141 := n2_
                                            have HO144 := n3_
                                            have BK126 := n4_
                                            have BK135 := n5_
                                            have BK146 := n6_
                                            have HB := n7_
                                            clear n0_ n1_ n2_ n3_ n4_ n5_ n6_ n7_
                                            (try clear hb)
                                            (try clear hb2)
                                            (try clear hk)
                                            (try clear hi)
                                            (try clear ho0)
                                            (try clear ho1)
                                            refine hK.out _ _ ⟨(blk_cell BK126.out 0).trans rfl, (blk_cell BK126.out 1).trans rfl, (blk_cell BK135.out 0).trans rfl, (blk_cell BK135.out 1).trans rfl⟩ (fun hHeld => ?_)
                                            clear hK K
                                            refine norm_ (a' := ?_) ?_ ?_
                                            rotate_left
                                            · show Act.put _ (some 80) _ = _
                                              simp only [Act.put, List.setIfInBounds_toArray, List.set_cons_zero, List.set_cons_succ, i64_w, i32_w]
                                              rfl
                                            refine pure_ (i := 10) (N := some 70) (v := ?_) (a' := ?_) #[true, true, true, true, true, true, true, true, true, true, true, false, false, true, false, false] rfl rfl (any_of HT_.out (by kernel_rfl)) (fun _ _ _ h => h) (Or.inl ⟨by rfl, ?_⟩) ?_ ?_
                                            rotate_left
                                            · intro w'
                                              go_simp
                                              with_reducible rfl
                                            rotate_left
                                            · simp only [Act.put, List.setIfInBounds_toArray, List.set_cons_zero, List.set_cons_succ, i64_w, i32_w]
                                              rfl
                                            refine pure_ (i := 11) (N := some 81) (v := ?_) (a' := ?_) #[true, true, true, true, true, true, true, true, true, true, true, true, false, true, false, false] rfl rfl (any_of HT_.out (by kernel_rfl)) (fun _ _ _ h => h) (Or.inl ⟨by rfl, ?_⟩) ?_ ?_
                                            rotate_left
                                            · intro w'
                                              go_simp
                                              with_reducible rfl
                                            rotate_left
                                            · simp only [Act.put, List.setIfInBounds_toArray, List.set_cons_zero, List.set_cons_succ, i64_w, i32_w]
                                              rfl
                                            refine pure_ (i := 12) (N := some 82) (v := ?_) (a' := ?_) #[true, true, true, true, true, true, true, true, true, true, true, true, true, true, false, false] rfl rfl (any_of HT_.out (by kernel_rfl)) (fun _ _ _ h => h) (Or.inl ⟨by rfl, ?_⟩) ?_ ?_
                                            rotate_left
                                            · intro w'
                                              go_simp
                                              with_reducible rfl
                                            rotate_left
                                            · simp only [Act.put, List.setIfInBounds_toArray, List.set_cons_zero, List.set_cons_succ, i64_w, i32_w]
                                              rfl
                                            exact norm_ (by simp only [putAll, Act.put, List.setIfInBounds_toArray, List.set_cons_zero, List.set_cons_succ]) (hCont (v140, v143, gb146) _ ⟨hHeld, (by (with_reducible repeat (first | apply Kd.V_alloc | apply Kd.V_drewN | apply Kd.V_drew)); exact HO141.out), (by (with_reducible repeat (first | apply Kd.V_alloc | apply Kd.V_drewN | apply Kd.V_drew)); exact HO144.out), (by (with_reducible repeat (first | apply Kd.V_alloc | apply Kd.V_drewN | apply Kd.V_drew)); exact Kd.V_mono HO_136000.out (fun _ hk => ⟨hk.1.1, ⟨hk.1.2, hk.2⟩⟩)), (by (with_reducible repeat (first | apply Kd.V_alloc | apply Kd.V_drewN | apply Kd.V_drew)); exact Kd.V_mono HO_136001.out (fun _ hk => ⟨hk.1.1, ⟨hk.1.2, hk.2⟩⟩)), (by (with_reducible repeat (first | refine blk_drewN ?_ _ | refine blk_drew ?_ | refine blk_alloc ?_ _)); exact BK126.out), (by (with_reducible repeat (first | refine blk_drewN ?_ _ | refine blk_drew ?_ | refine blk_alloc ?_ _)); exact BK135.out), (by (with_reducible repeat (first | refine blk_drewN ?_ _ | refine blk_drew ?_ | refine blk_alloc ?_ _)); exact BK146.out), GW146.out, GE146.out, NB126_146.out, NB146_126.out, NB135_146.out, NB146_135.out, (by repeat (first | (with_reducible first | exact HB.out | apply below_alloc | apply pw_below_drewN | apply below_drew1 | refine below_set ?_ GE126.out | refine below_set ?_ GE135.out | refine below_set ?_ GE146.out) | exact HB.out))⟩)
                                        rintro ⟨v140, v143, gb146⟩ w55 ⟨hS_, h0_, h1_, h2_, h3_, h4_, h5_, h6_, h7_, h8_, h9_, h10_, h11_, h12_, h13_⟩
                                        have n0_ : Aside0 (Kd.V (Kd.int .i64) 3 w55 w.heap.size (fun k_ => k_ ≠ gb126 ∧ k_ ≠ gb135 ∧ k_ ≠ gb146) v140 t139) := ⟨h0_⟩
                                        have n1_ : Aside0 (Kd.V k45 45 w55 w.heap.size (fun k_ => k_ ≠ gb126 ∧ k_ ≠ gb135 ∧ k_ ≠ gb146) v143 t142) := ⟨h1_⟩
                                        have n2_ : Aside0 (Kd.V (Kd.int .i64) 3 w55 w.heap.size (fun k_ => k_ ≠ gb126 ∧ k_ ≠ gb135 ∧ k_ ≠ gb146) (.slice Ao50 x136000_5.length co50) x136000_5) := ⟨h2_⟩
                                        have n3_ : Aside0 (Kd.V k45 45 w55 w.heap.size (fun k_ => k_ ≠ gb126 ∧ k_ ≠ gb135 ∧ k_ ≠ gb146) (.slice Ao51 x136001_5.length co51) x136001_5) := ⟨h3_⟩
                                        have n4_ : Aside0 (w55.heap[gb126]? = some (.cells #[.slice A0_0 l0_0.length c0_0, .slice A0_1 l0_1.length c0_1] 25 (0, 0))) := ⟨h4_⟩
                                        have n5_ : Aside0 (w55.heap[gb135]? = some (.cells #[.slice Ao50 x136000_5.length co50, .slice Ao51 x136001_5.length co51] 28 (0, 0))) := ⟨h5_⟩
                                        have n6_ : Aside0 (w55.heap[gb146]? = some (.cells #[.slice none 0 0, .slice none 0 0] 28 (0, 0))) := ⟨h6_⟩
                                        have n7_ : Aside0 (w.heap.size ≤ gb146) := ⟨h7_⟩
                                        have n8_ : Aside0 (w.heap.size ≤ gb146) := ⟨h8_⟩
                                        have n9_ : Aside0 (gb126 ≠ gb146) := ⟨h9_⟩
                                        have n10_ : Aside0 (gb146 ≠ gb126) := ⟨h10_⟩
                                        have n11_ : Aside0 (gb135 ≠ gb146) := ⟨h11_⟩
                                        have n12_ : Aside0 (gb146 ≠ gb135) := ⟨h12_⟩
                                        have n13_ : Aside0 (Below w.heap.size w w55) := ⟨h13_⟩
                                        clear HO_136000
                                        clear HO_136001
                                        clear BK126
                                        clear BK135
                                        clear HB
                                        clear h0_ h1_ h2_ h3_ h4_ h5_ h6_ h7_ h8_ h9_ h10_ h11_ h12_ h13_
                                        have HO141 := n0_
                                        have HO144 := n1_
                                        have HO_136000 := n2_
                                        have HO_136001 := n3_
                                        have BK126 := n4_
                                        have BK135 := n5_
                                        have BK146 := n6_
                                        have GW146 := n7_
                                        have GE146 := n8_
                                        have NB126_146 := n9_
                                        have NB146_126 := n10_
                                        have NB135_146 := n11_
                                        have NB146_135 := n12_
                                        have HB := n13_
                                        clear n0_ n1_ n2_ n3_ n4_ n5_ n6_ n7_ n8_ n9_ n10_ n11_ n12_ n13_
                                        have hHeld : w55.cell? ⟨gb126, 0, none⟩ = some (.slice A0_0 l0_0.length c0_0) ∧ w55.cell? ⟨gb126, 1, none⟩ = some (.slice A0_1 l0_1.length c0_1) ∧ w55.cell? ⟨gb135, 0, none⟩ = some (.slice Ao50 x136000_5.length co50) ∧ w55.cell? ⟨gb135, 1, none⟩ = some (.slice Ao51 x136001_5.length co51) := hS_
                                        obtain ⟨Ao56, co56, eo56⟩ := Kd.V_slice HO141.out
                                        (first | subst eo56 | (injection eo56 with f1_ f2_ f3_; have f4_ := f1_.symm; have f5_ := f3_.symm; clear f1_ f2_ f3_; subst f4_; subst f5_))
                                        obtain ⟨Ao58, co58, eo58⟩ := Kd.V_slice HO144.out
                                        (first | subst eo58 | (injection eo58 with f1_ f2_ f3_; have f4_ := f1_.symm; have f5_ := f3_.symm; clear f1_ f2_ f3_; subst f4_; subst f5_))
                                        refine norm_ (a' := ?_) ?_ ?_
                                        rotate_left
                                        · simp only [putAll, Act.put, List.setIfInBounds_toArray, List.set_cons_zero, List.set_cons_succ]
                                          rfl
                                        refine one_ (i := 14) (N := none) #[true, true, true, true, true, true, true, true, true, true, true, true, true, true, true, false] rfl rfl (one_of HT_.out (by kernel_rfl)) (by decide) (fun K hK => ?_)
                                        have hs57 : w55.cell? ⟨gb146, 0, none⟩ = some (.slice none 0 0) := (blk_cell BK146.out 0).trans rfl
                                        have hfs57 := blk_frozen BK146.out 0
                                        have hns57_0 := NB126_146.out
                                        have hns57_1 := NB135_146.out
                                        have hms57_0 := NB146_126.out
                                        have hms57_1 := NB146_135.out
                                        have hs59 : w55.cell? ⟨gb146, 1, none⟩ = some (.slice none 0 0) := (blk_cell BK146.out 1).trans rfl
                                        have hfs59 := blk_frozen BK146.out 1
                                        have hns59_0 := NB126_146.out
                                        have hns59_1 := NB135_146.out
                                        have hms59_0 := NB146_126.out
                                        have hms59_1 := NB146_135.out
                                        refine skip_ (w1 := ?_) (by rfl) rfl ?_ ?_
                                        rotate_left
                                        · go_simp
                                          rfl
                                        refine hK.out _ _ ⟨((cell_far (p := ⟨gb146, _, none⟩) NB126_146.out _).trans (((cell_far (p := ⟨gb146, _, none⟩) NB126_146.out _).trans (hHeld.1)))), ((cell_far (p := ⟨gb146, _, none⟩) NB126_146.out _).trans (((cell_far (p := ⟨gb146, _, none⟩) NB126_146.out _).trans (hHeld.2.1)))), ((cell_far (p := ⟨gb146, _, none⟩) NB135_146.out _).trans (((cell_far (p := ⟨gb146, _, none⟩) NB135_146.out _).trans (hHeld.2.2.1)))), ((cell_far (p := ⟨gb146, _, none⟩) NB135_146.out _).trans (((cell_far (p := ⟨gb146, _, none⟩) NB135_146.out _).trans (hHeld.2.2.2))))⟩ (fun hHeld => ?_)
                                        clear hK K
                                        refine pure_ (i := 15) (N := some 14) (v := ?_) (a' := ?_) #[true, true, true, true, true, true, true, true, true, true, true, true, true, true, true, true] rfl rfl (any_of HT_.out (by kernel_rfl)) (fun _ _ _ h => h) (Or.inl ⟨by rfl, ?_⟩) ?_ ?_
                                        rotate_left
                                        · intro w'
                                          go_simp
                                          with_reducible rfl
                                        rotate_left
                                        · simp only [Act.put, List.setIfInBounds_toArray, List.set_cons_zero, List.set_cons_succ, i64_w, i32_w]
                                          rfl
                                        refine done_ (done_of HT_.out (by kernel_rfl)) ?_
                                        have hnb60 := NB146_126.out
                                        have hnc60 := NB126_146.out
                                        have hnb61 := NB146_135.out
                                        have hnc61 := NB135_146.out
                                        have hcz62_0 : w55.cell? ⟨gb146, 0, none⟩ = some (.slice none 0 0) := (blk_cell BK146.out 0).trans rfl
                                        have hcz62_1 : w55.cell? ⟨gb146, 1, none⟩ = some (.slice none 0 0) := (blk_cell BK146.out 1).trans rfl
                                        have hfz62_0 := blk_frozen BK146.out 0
                                        have hfz62_1 := blk_frozen BK146.out 1
                                        have hnb63 := NB135_126.out
                                        have hnc63 := NB126_135.out
                                        have hcz64_0 : w55.cell? ⟨gb135, 0, none⟩ = some (.slice Ao50 x136000_5.length co50) := (blk_cell BK135.out 0).trans rfl
                                        have hcz64_1 : w55.cell? ⟨gb135, 1, none⟩ = some (.slice Ao51 x136001_5.length co51) := (blk_cell BK135.out 1).trans rfl
                                        have hfz64_0 := blk_frozen BK135.out 0
                                        have hfz64_1 := blk_frozen BK135.out 1
                                        try go_wp2
                                        go_roundg kj39
                                        case measure => have := HJ3.out; have := HK2.out; have := HK3.out; have := HJ30.out; have := HK5.out; have := HJ39.out; omega
                                        case rel => exact ⟨(true), (wrap64 (x12_5 + 1)), (t139), (t142), (.slice Ao56 t139.length co56), (.slice Ao58 t142.length co58), (by first | rfl | (simp; done) | (simp [*]; done)), (by first | rfl | (simp; done) | (simp [*]; done)), H', ⟨by have := HJ3.out; have := HK2.out; have := HK3.out; have := HJ30.out; have := HK5.out; have := HJ39.out; omega⟩, ⟨by (with_reducible repeat (first | apply Kd.V_alloc | apply Kd.V_drewN | apply Kd.V_drew)); exact Kd.V_mono (Kd.V_far (p := ⟨gb135, 1, none⟩) (Kd.V_far (p := ⟨gb135, 0, none⟩) (Kd.V_far (p := ⟨gb146, 1, none⟩) (Kd.V_far (p := ⟨gb146, 0, none⟩) (Kd.V_mono (Kd.V_mono HO141.out (fun k_ hk => (⟨hk, hk.2.2⟩ : _ ∧ k_ ≠ gb146))) (fun k_ hk => (⟨hk, hk.1.2.1⟩ : _ ∧ k_ ≠ gb135))) (fun _ hk => hk.1.2) (.slice Ao56 t139.length co56)) (fun _ hk => hk.1.2) (.slice Ao58 t142.length co58)) (fun _ hk => hk.2) (.slice Ao56 t139.length co56)) (fun _ hk => hk.2) (.slice Ao58 t142.length co58)) (fun _ hk => ⟨hk.1.1.1, hk.1.1.2.1⟩)⟩, ⟨by (with_reducible repeat (first | apply Kd.V_alloc | apply Kd.V_drewN | apply Kd.V_drew)); exact Kd.V_mono (Kd.V_far (p := ⟨gb135, 1, none⟩) (Kd.V_far (p := ⟨gb135, 0, none⟩) (Kd.V_far (p := ⟨gb146, 1, none⟩) (Kd.V_far (p := ⟨gb146, 0, none⟩) (Kd.V_mono (Kd.V_mono HO144.out (fun k_ hk => (⟨hk, hk.2.2⟩ : _ ∧ k_ ≠ gb146))) (fun k_ hk => (⟨hk, hk.1.2.1⟩ : _ ∧ k_ ≠ gb135))) (fun _ hk => hk.1.2) (.slice Ao56 t139.length co56)) (fun _ hk => hk.1.2) (.slice Ao58 t142.length co58)) (fun _ hk => hk.2) (.slice Ao56 t139.length co56)) (fun _ hk => hk.2) (.slice Ao58 t142.length co58)) (fun _ hk => ⟨hk.1.1.1, hk.1.1.2.1⟩)⟩, ⟨by (with_reducible repeat (first | refine blk_drewN ?_ _ | refine blk_drew ?_ | refine blk_alloc ?_ _)); refine blk_far ?_ NB126_135.out _; (with_reducible repeat (first | refine blk_drewN ?_ _ | refine blk_drew ?_ | refine blk_alloc ?_ _)); refine blk_far ?_ NB126_135.out _; (with_reducible repeat (first | refine blk_drewN ?_ _ | refine blk_drew ?_ | refine blk_alloc ?_ _)); refine blk_far ?_ NB126_146.out _; (with_reducible repeat (first | refine blk_drewN ?_ _ | refine blk_drew ?_ | refine blk_alloc ?_ _)); refine blk_far ?_ NB126_146.out _; (with_reducible repeat (first | refine blk_drewN ?_ _ | refine blk_drew ?_ | refine blk_alloc ?_ _)); exact BK126.out⟩, ⟨by (with_reducible repeat (first | refine blk_drewN ?_ _ | refine blk_drew ?_ | refine blk_alloc ?_ _)); refine blk_put (cs := #[.slice Ao56 t139.length co56, .slice Ao51 x136001_5.length co51]) ?_ 1 _ rfl; (with_reducible repeat (first | refine blk_drewN ?_ _ | refine blk_drew ?_ | refine blk_alloc ?_ _)); refine blk_put (cs := #[.slice Ao50 x136000_5.length co50, .slice Ao51 x136001_5.length co51]) ?_ 0 _ rfl; (with_reducible repeat (first | refine blk_drewN ?_ _ | refine blk_drew ?_ | refine blk_alloc ?_ _)); refine blk_far ?_ NB135_146.out _; (with_reducible repeat (first | refine blk_drewN ?_ _ | refine blk_drew ?_ | refine blk_alloc ?_ _)); refine blk_far ?_ NB135_146.out _; (with_reducible repeat (first | refine blk_drewN ?_ _ | refine blk_drew ?_ | refine blk_alloc ?_ _)); exact BK135.out⟩, ⟨by repeat (first | (with_reducible first | exact HB.out | apply below_alloc | apply pw_below_drewN | apply below_drew1 | refine below_set ?_ GE126.out | refine below_set ?_ GE135.out | refine below_set ?_ GE146.out) | exact HB.out)⟩⟩
                                      · replace c49 := Bool.eq_false_iff.mpr c49
                                        subst c49
                                        have H1 : (fencepostlaw10_ScEnds.l2 kj39 l1 t127 x7_2 x9_3 x10_30 x11_5 (wrap64 (x12_5 + 1)) l0_0 l0_1 x136000_5 x136001_5) = some r := by rw [if_neg (show ¬ (false = true) by decide)] at H; exact H
                                        clear H
                                        have H := H1
                                        clear H1
                                        have H' := Aside0.mk H
                                        clear H
                                        obtain ⟨Ao65, co65, eo65⟩ := Kd.V_slice HO_136000.out
                                        subst eo65
                                        obtain ⟨Ao66, co66, eo66⟩ := Kd.V_slice HO_136001.out
                                        subst eo66
                                        try go_wp2
                                        have n0_ := Aside0.mk (Kd.V_drew HO_136000.out)
                                        have n1_ := Aside0.mk (Kd.V_drew HO_136001.out)
                                        have n2_ := Aside0.mk (blk_drew BK126.out)
                                        have n3_ := Aside0.mk (blk_drew BK135.out)
                                        have n4_ := Aside0.mk (below_drew1 HB.out)
                                        clear HO_136000
                                        clear HO_136001
                                        clear BK126
                                        clear BK135
                                        clear HB
                                        have HO_136000 := n0_
                                        have HO_136001 := n1_
                                        have BK126 := n2_
                                        have BK135 := n3_
                                        have HB := n4_
                                        clear n0_ n1_ n2_ n3_ n4_
                                        refine start_ (n := 16) (S := fun w' => w'.cell? ⟨gb126, 0, none⟩ = some (.slice A0_0 l0_0.length c0_0) ∧ w'.cell? ⟨gb126, 1, none⟩ = some (.slice A0_1 l0_1.length c0_1) ∧ w'.cell? ⟨gb135, 0, none⟩ = some (.slice Ao65 x136000_5.length co65) ∧ w'.cell? ⟨gb135, 1, none⟩ = some (.slice Ao66 x136001_5.length co66)) (ds := []) #[false, false, false, false, false, false, false, false, false, false, false, false, false, false, false, false] (by kernel_rfl) rfl rfl ⟨(blk_cell BK126.out 0).trans rfl, (blk_cell BK126.out 1).trans rfl, (blk_cell BK135.out 0).trans rfl, (blk_cell BK135.out 1).trans rfl⟩ (fun hHeld => ?_); refine with_tabW fencepostlaw10_ScEnds.tab22 fencepostlaw10_ScEnds.bits22 (fun HT_ HW_ => ?_)
                                        generalize wc.drew = w67 at HO_136000 HO_136001 BK126 BK135 HB hHeld ⊢
                                        refine pure_ (i := 2) (N := some 73) (v := ?_) (a' := ?_) #[false, false, true, false, false, false, false, false, false, false, false, false, false, false, false, false] rfl rfl (any_of HT_.out (by kernel_rfl)) (fun _ _ _ h => h) (Or.inl ⟨by rfl, ?_⟩) ?_ ?_
                                        rotate_left
                                        · intro w'
                                          go_simp
                                          with_reducible rfl
                                        rotate_left
                                        · simp only [Act.put, List.setIfInBounds_toArray, List.set_cons_zero, List.set_cons_succ, i64_w, i32_w]
                                          rfl
                                        refine pure_ (i := 3) (N := some 74) (v := ?_) (a' := ?_) #[false, false, true, true, false, false, false, false, false, false, false, false, false, false, false, false] rfl rfl (any_of HT_.out (by kernel_rfl)) (fun _ _ _ h => h) (Or.inl ⟨by rfl, ?_⟩) ?_ ?_
                                        rotate_left
                                        · intro w'
                                          go_simp
                                          with_reducible rfl
                                        rotate_left
                                        · simp only [Act.put, List.setIfInBounds_toArray, List.set_cons_zero, List.set_cons_succ, i64_w, i32_w]
                                          rfl
                                        refine pure_ (i := 4) (N := some 75) (v := ?_) (a' := ?_) #[false, false, true, true, true, false, false, false, false, false, false, false, false, false, false, false] rfl rfl (any_of HT_.out (by kernel_rfl)) (fun _ _ _ h => h) (Or.inl ⟨by rfl, ?_⟩) ?_ ?_
                                        rotate_left
                                        · intro w'
                                          go_simp
                                          with_reducible rfl
                                        rotate_left
                                        · simp only [Act.put, List.setIfInBounds_toArray, List.set_cons_zero, List.set_cons_succ, i64_w, i32_w]
                                          rfl
                                        refine pure_ (i := 5) (N := some 76) (v := ?_) (a' := ?_) #[false, false, true, true, true, true, false, false, false, false, false, false, false, false, false, false] rfl rfl (any_of HT_.out (by kernel_rfl)) (fun _ _ _ h => h) (Or.inl ⟨by rfl, ?_⟩) ?_ ?_
                                        rotate_left
                                        · intro w'
                                          go_simp
                                          with_reducible rfl
                                        rotate_left
                                        · simp only [Act.put, List.setIfInBounds_toArray, List.set_cons_zero, List.set_cons_succ, i64_w, i32_w]
                                          rfl
                                        refine take_ (i := 0) (N := some 71) (v := ?_) (a' := ?_) #[true, false, true, true, true, true, false, false, false, false, false, false, false, false, false, false] rfl rfl (take_ofW HT_.out HW_.out (by kernel_rfl)) (fun _ _ _ h => h) (Or.inl ⟨by rfl, ?_⟩) hHeld ?_ ?_
                                        rotate_left
                                        · rintro w' ⟨s0, s1, s2, s3⟩
                                          go_simp
                                          with_reducible rfl
                                        rotate_left
                                        · simp only [Act.put, List.setIfInBounds_toArray, List.set_cons_zero, List.set_cons_succ, i64_w, i32_w]
                                          rfl
                                        refine take_ (i := 1) (N := some 72) (v := ?_) (a' := ?_) #[true, true, true, true, true, true, false, false, false, false, false, false, false, false, false, false] rfl rfl (take_ofW HT_.out HW_.out (by kernel_rfl)) (fun _ _ _ h => h) (Or.inl ⟨by rfl, ?_⟩) hHeld ?_ ?_
                                        rotate_left
                                        · rintro w' ⟨s0, s1, s2, s3⟩
                                          go_simp
                                          with_reducible rfl
                                        rotate_left
                                        · simp only [Act.put, List.setIfInBounds_toArray, List.set_cons_zero, List.set_cons_succ, i64_w, i32_w]
                                          rfl
                                        refine take_ (i := 6) (N := some 77) (v := ?_) (a' := ?_) #[true, true, true, true, true, true, true, false, false, false, false, false, false, false, false, false] rfl rfl (take_ofW HT_.out HW_.out (by kernel_rfl)) (fun _ _ _ h => h) (Or.inl ⟨by rfl, ?_⟩) hHeld ?_ ?_
                                        rotate_left
                                        · rintro w' ⟨s0, s1, s2, s3⟩
                                          go_simp
                                          with_reducible rfl
                                        rotate_left
                                        · simp only [Act.put, List.setIfInBounds_toArray, List.set_cons_zero, List.set_cons_succ, i64_w, i32_w]
                                          rfl
                                        refine pure_ (i := 7) (N := some 78) (v := ?_) (a' := ?_) #[true, true, true, true, true, true, true, true, false, false, false, false, false, false, false, false] rfl rfl (any_of HT_.out (by kernel_rfl)) (fun _ _ _ h => h) (Or.inl ⟨by rfl, ?_⟩) ?_ ?_
                                        rotate_left
                                        · intro w'
                                          go_simp
                                          with_reducible rfl
                                        rotate_left
                                        · simp only [Act.put, List.setIfInBounds_toArray, List.set_cons_zero, List.set_cons_succ, i64_w, i32_w]
                                          rfl
                                        refine pure_ (i := 8) (N := some 79) (v := ?_) (a' := ?_) #[true, true, true, true, true, true, true, true, true, false, false, false, false, false, false, false] rfl rfl (any_of HT_.out (by kernel_rfl)) (fun _ _ _ h => h) (Or.inl ⟨by rfl, ?_⟩) ?_ ?_
                                        rotate_left
                                        · intro w'
                                          go_simp
                                          with_reducible rfl
                                        rotate_left
                                        · simp only [Act.put, List.setIfInBounds_toArray, List.set_cons_zero, List.set_cons_succ, i64_w, i32_w]
                                          rfl
                                        refine join_ (σ := Value × Value × Nat) 2 #[true, true, true, true, true, true, true, true, true, true, true, true, true, true, false, false] (fun s_ => [(80, .tuple #[.agg #[s_.1, s_.2.1], .bool false]), (13, .pointer (some ⟨s_.2.2, 0, none⟩)), (70, .tuple #[.agg #[s_.1, s_.2.1], .bool false]), (81, .agg #[s_.1, s_.2.1]), (82, .bool false)]) (fun s_ w' => (w'.cell? ⟨gb126, 0, none⟩ = some (.slice A0_0 l0_0.length c0_0) ∧ w'.cell? ⟨gb126, 1, none⟩ = some (.slice A0_1 l0_1.length c0_1) ∧ w'.cell? ⟨gb135, 0, none⟩ = some (.slice Ao65 x136000_5.length co65) ∧ w'.cell? ⟨gb135, 1, none⟩ = some (.slice Ao66 x136001_5.length co66)) ∧ (Kd.V (Kd.int .i64) 3 w' w.heap.size (fun k_ => k_ ≠ gb126 ∧ k_ ≠ gb135 ∧ k_ ≠ s_.2.2) s_.1 t139) ∧ (Kd.V k45 45 w' w.heap.size (fun k_ => k_ ≠ gb126 ∧ k_ ≠ gb135 ∧ k_ ≠ s_.2.2) s_.2.1 t142) ∧ (Kd.V (Kd.int .i64) 3 w' w.heap.size (fun k_ => k_ ≠ gb126 ∧ k_ ≠ gb135 ∧ k_ ≠ s_.2.2) (.slice Ao65 x136000_5.length co65) x136000_5) ∧ (Kd.V k45 45 w' w.heap.size (fun k_ => k_ ≠ gb126 ∧ k_ ≠ gb135 ∧ k_ ≠ s_.2.2) (.slice Ao66 x136001_5.length co66) x136001_5) ∧ (w'.heap[gb126]? = some (.cells #[.slice A0_0 l0_0.length c0_0, .slice A0_1 l0_1.length c0_1] 25 (0, 0))) ∧ (w'.heap[gb135]? = some (.cells #[.slice Ao65 x136000_5.length co65, .slice Ao66 x136001_5.length co66] 28 (0, 0))) ∧ (w'.heap[s_.2.2]? = some (.cells #[.slice none 0 0, .slice none 0 0] 28 (0, 0))) ∧ (w.heap.size ≤ s_.2.2) ∧ (w.heap.size ≤ s_.2.2) ∧ (gb126 ≠ s_.2.2) ∧ (s_.2.2 ≠ gb126) ∧ (gb135 ≠ s_.2.2) ∧ (s_.2.2 ≠ gb135) ∧ (Below w.heap.size w w')) ?_ ?_
                                        rotate_left
                                        · intro hCont
                                          refine two_ (i := 9) (j := 13) (Ni := some 80) (Nj := some 13) #[true, true, true, true, true, true, true, true, true, true, false, false, false, false, false, false] #[true, true, true, true, true, true, true, true, true, false, false, false, false, true, false, false] rfl rfl rfl rfl (two_of HT_.out (by kernel_rfl)) (by decide) (by decide) (fun K hK => ?_) (fun K hK => ?_)
                                          · skip
                                            refine goes_ Try.func17 (by kernel_rfl) rfl #[.agg #[.slice A0_0 l0_0.length c0_0, .slice A0_1 l0_1.length c0_1], .agg #[.slice Ao65 x136000_5.length co65, .slice Ao66 x136001_5.length co66], .int .i64 (Int.tmod (wrap64 (x10_30 + x12_5)) (l0_1.length : Int))] (by rfl) rfl rfl (by (try simp only [List.map_toArray, List.map_cons, List.map_nil]); first | done | rfl | (simp only [List.length_drop, List.length_take]; rfl)) ?_
                                            with_reducible refine (sc_Step.calls _ _ l0_0 _ _ l0_1 _ _ x136000_5 _ _ x136001_5 (Int.tmod (wrap64 (x10_30 + x12_5)) (l0_1.length : Int)) t139 t142 false _ ?side1 ?side2 ?side3 ?side4 ?side5 ?side6 ?side7 ?side8 A48.out).mono ?_
                                            (case side1 => repeat (first | exact (Kd.C_below HR0_0.out HB.out) | (with_reducible refine Kd.C_alloc ?_ _) | (with_reducible refine Kd.C_drewN ?_ _) | (with_reducible refine Kd.C_drew ?_)))
                                            (case side2 => exact HC0_0.out)
                                            (case side3 => repeat (first | exact (Kd.C_below HR0_1.out HB.out) | (with_reducible refine Kd.C_alloc ?_ _) | (with_reducible refine Kd.C_drewN ?_ _) | (with_reducible refine Kd.C_drew ?_)))
                                            (case side4 => exact HC0_1.out)
                                            (case side5 => repeat (first | exact (Kd.V_reads' HO_136000.out).2.2 | (with_reducible refine Kd.C_alloc ?_ _) | (with_reducible refine Kd.C_drewN ?_ _) | (with_reducible refine Kd.C_drew ?_)))
                                            (case side6 => exact (Kd.V_reads' HO_136000.out).2.1)
                                            (case side7 => repeat (first | exact (Kd.V_reads' HO_136001.out).2.2 | (with_reducible refine Kd.C_alloc ?_ _) | (with_reducible refine Kd.C_drewN ?_ _) | (with_reducible refine Kd.C_drew ?_)))
                                            (case side8 => exact (Kd.V_reads' HO_136001.out).2.1)
                                            rintro e w68 ⟨v140, v143, rfl, ho0, ho1, hb⟩
                                            refine ⟨_, rfl, ?_⟩
                                            have n0_ := Aside0.mk (Kd.V_below (by (with_reducible repeat (first | apply Kd.V_alloc | apply Kd.V_drewN | apply Kd.V_drew)); exact HO_136000.out) hb)
                                            have n1_ := Aside0.mk (Kd.V_below (by (with_reducible repeat (first | apply Kd.V_alloc | apply Kd.V_drewN | apply Kd.V_drew)); exact HO_136001.out) hb)
                                            have n2_ := Aside0.mk (Kd.V_lower (Kd.V_mono (ok' := fun k_ => k_ ≠ gb126 ∧ k_ ≠ gb135) ho0 (fun k_ hk_ => ⟨(Kd.freshB (g := gb126) (o := .cells #[.slice A0_0 l0_0.length c0_0, .slice A0_1 l0_1.length c0_1] 25 (0, 0)) (by (with_reducible repeat (first | refine blk_drewN ?_ _ | refine blk_drew ?_ | refine blk_alloc ?_ _)); exact BK126.out) k_ hk_), (Kd.freshB (g := gb135) (o := .cells #[.slice Ao65 x136000_5.length co65, .slice Ao66 x136001_5.length co66] 28 (0, 0)) (by (with_reducible repeat (first | refine blk_drewN ?_ _ | refine blk_drew ?_ | refine blk_alloc ?_ _)); exact BK135.out) k_ hk_)⟩)) (below_size (by repeat (first | (with_reducible first | exact HB.out | apply below_alloc | apply pw_below_drewN | apply below_drew1 | refine below_set ?_ GE126.out | refine below_set ?_ GE135.out) | exact HB.out))))
                                            have n3_ := Aside0.mk (Kd.V_lower (Kd.V_mono (ok' := fun k_ => k_ ≠ gb126 ∧ k_ ≠ gb135) ho1 (fun k_ hk_ => ⟨(Kd.freshB (g := gb126) (o := .cells #[.slice A0_0 l0_0.length c0_0, .slice A0_1 l0_1.length c0_1] 25 (0, 0)) (by (with_reducible repeat (first | refine blk_drewN ?_ _ | refine blk_drew ?_ | refine blk_alloc ?_ _)); exact BK126.out) k_ hk_), (Kd.freshB (g := gb135) (o := .cells #[.slice Ao65 x136000_5.length co65, .slice Ao66 x136001_5.length co66] 28 (0, 0)) (by (with_reducible repeat (first | refine blk_drewN ?_ _ | refine blk_drew ?_ | refine blk_alloc ?_ _)); exact BK135.out) k_ hk_)⟩)) (below_size (by repeat (first | (with_reducible first | exact HB.out | apply below_alloc | apply pw_below_drewN | apply below_drew1 | refine below_set ?_ GE126.out | refine below_set ?_ GE135.out) | exact HB.out))))
                                            have n4_ := Aside0.mk (blk_below (g := gb126) (o := .cells #[.slice A0_0 l0_0.length c0_0, .slice A0_1 l0_1.length c0_1] 25 (0, 0)) (by (with_reducible repeat (first | refine blk_drewN ?_ _ | refine blk_drew ?_ | refine blk_alloc ?_ _)); exact BK126.out) hb)
                                            have n5_ := Aside0.mk (blk_below (g := gb135) (o := .cells #[.slice Ao65 x136000_5.length co65, .slice Ao66 x136001_5.length co66] 28 (0, 0)) (by (with_reducible repeat (first | refine blk_drewN ?_ _ | refine blk_drew ?_ | refine blk_alloc ?_ _)); exact BK135.out) hb)
                                            have n6_ := Aside0.mk (below_step (by repeat (first | (with_reducible first | exact HB.out | apply below_alloc | apply pw_below_drewN | apply below_drew1 | refine below_set ?_ GE126.out | refine below_set ?_ GE135.out) | exact HB.out)) hb)
                                            clear HO_136000
                                            clear HO_136001
                                            clear BK126
                                            clear BK135
                                            clear HB
                                            have HO_136000 := n0_
                                            have HO_136001 := n1_
                                            have HO141 := n2_
                                            have HO144 := n3_
                                            have BK126 := n4_
                                            have BK135 := n5_
                                            have HB := n6_
                                            clear n0_ n1_ n2_ n3_ n4_ n5_ n6_
                                            (try clear hb)
                                            (try clear hb2)
                                            (try clear hk)
                                            (try clear hi)
                                            (try clear ho0)
                                            (try clear ho1)
                                            refine hK.out _ _ ⟨(blk_cell BK126.out 0).trans rfl, (blk_cell BK126.out 1).trans rfl, (blk_cell BK135.out 0).trans rfl, (blk_cell BK135.out 1).trans rfl⟩ (fun hHeld => ?_)
                                            clear hK K
                                            refine norm_ (a' := ?_) ?_ ?_
                                            rotate_left
                                            · show Act.put _ (some 80) _ = _
                                              simp only [Act.put, List.setIfInBounds_toArray, List.set_cons_zero, List.set_cons_succ, i64_w, i32_w]
                                              rfl
                                            refine pure_ (i := 10) (N := some 70) (v := ?_) (a' := ?_) #[true, true, true, true, true, true, true, true, true, true, true, false, false, false, false, false] rfl rfl (any_of HT_.out (by kernel_rfl)) (fun _ _ _ h => h) (Or.inl ⟨by rfl, ?_⟩) ?_ ?_
                                            rotate_left
                                            · intro w'
                                              go_simp
                                              with_reducible rfl
                                            rotate_left
                                            · simp only [Act.put, List.setIfInBounds_toArray, List.set_cons_zero, List.set_cons_succ, i64_w, i32_w]
                                              rfl
                                            refine pure_ (i := 11) (N := some 81) (v := ?_) (a' := ?_) #[true, true, true, true, true, true, true, true, true, true, true, true, false, false, false, false] rfl rfl (any_of HT_.out (by kernel_rfl)) (fun _ _ _ h => h) (Or.inl ⟨by rfl, ?_⟩) ?_ ?_
                                            rotate_left
                                            · intro w'
                                              go_simp
                                              with_reducible rfl
                                            rotate_left
                                            · simp only [Act.put, List.setIfInBounds_toArray, List.set_cons_zero, List.set_cons_succ, i64_w, i32_w]
                                              rfl
                                            refine pure_ (i := 12) (N := some 82) (v := ?_) (a' := ?_) #[true, true, true, true, true, true, true, true, true, true, true, true, true, false, false, false] rfl rfl (any_of HT_.out (by kernel_rfl)) (fun _ _ _ h => h) (Or.inl ⟨by rfl, ?_⟩) ?_ ?_
                                            rotate_left
                                            · intro w'
                                              go_simp
                                              with_reducible rfl
                                            rotate_left
                                            · simp only [Act.put, List.setIfInBounds_toArray, List.set_cons_zero, List.set_cons_succ, i64_w, i32_w]
                                              rfl
                                            refine one_ (i := 13) (N := some 13) #[true, true, true, true, true, true, true, true, true, true, true, true, true, true, false, false] rfl rfl (one_of HT_.out (by kernel_rfl)) (by decide) (fun K hK => ?_)
                                            refine box_step ?hg (N := 13) ?hd (cs := #[.slice none 0 0, .slice none 0 0]) (t := 28) ?hr ?_; (case hd => rfl); (case hg => rfl); (case hr => first | (go_simp; done) | (go_simp; rfl))
                                            intro gb146 hg w69 hbox hb
                                            have n0_ := Aside0.mk (Kd.V_below (Kd.V_elderB (by (with_reducible repeat (first | apply Kd.V_alloc | apply Kd.V_drewN | apply Kd.V_drew)); exact HO_136000.out) gb146 (Nat.le_of_eq hg.symm)) hb)
                                            have n1_ := Aside0.mk (Kd.V_below (Kd.V_elderB (by (with_reducible repeat (first | apply Kd.V_alloc | apply Kd.V_drewN | apply Kd.V_drew)); exact HO_136001.out) gb146 (Nat.le_of_eq hg.symm)) hb)
                                            have n2_ := Aside0.mk (Kd.V_below (Kd.V_elderB (by (with_reducible repeat (first | apply Kd.V_alloc | apply Kd.V_drewN | apply Kd.V_drew)); exact HO141.out) gb146 (Nat.le_of_eq hg.symm)) hb)
                                            have n3_ := Aside0.mk (Kd.V_below (Kd.V_elderB (by (with_reducible repeat (first | apply Kd.V_alloc | apply Kd.V_drewN | apply Kd.V_drew)); exact HO144.out) gb146 (Nat.le_of_eq hg.symm)) hb)
                                            have n4_ := Aside0.mk (blk_below (g := gb126) (o := .cells #[.slice A0_0 l0_0.length c0_0, .slice A0_1 l0_1.length c0_1] 25 (0, 0)) (by (with_reducible repeat (first | refine blk_drewN ?_ _ | refine blk_drew ?_ | refine blk_alloc ?_ _)); exact BK126.out) hb)
                                            have n5_ := Aside0.mk (blk_below (g := gb135) (o := .cells #[.slice Ao65 x136000_5.length co65, .slice Ao66 x136001_5.length co66] 28 (0, 0)) (by (with_reducible repeat (first | refine blk_drewN ?_ _ | refine blk_drew ?_ | refine blk_alloc ?_ _)); exact BK135.out) hb)
                                            have n6_ := Aside0.mk (below_step (by repeat (first | (with_reducible first | exact HB.out | apply below_alloc | apply pw_below_drewN | apply below_drew1 | refine below_set ?_ GE126.out | refine below_set ?_ GE135.out) | exact HB.out)) hb)
                                            have n7_ := Aside0.mk (hbox)
                                            have n8_ := Aside0.mk ((by rw [hg]; exact (below_size (by repeat (first | (with_reducible first | exact HB.out | apply below_alloc | apply pw_below_drewN | apply below_drew1 | refine below_set ?_ GE126.out | refine below_set ?_ GE135.out) | exact HB.out))) : w.heap.size ≤ gb146))
                                            have n9_ := Aside0.mk ((by rw [hg]; exact (below_size (by repeat (first | (with_reducible first | exact HB.out | apply below_alloc | apply pw_below_drewN | apply below_drew1 | refine below_set ?_ GE126.out | refine below_set ?_ GE135.out) | exact HB.out))) : w.heap.size ≤ gb146))
                                            have n10_ := Aside0.mk ((by rw [hg]; exact Nat.ne_of_lt (blk_lt (g := gb126) (o := .cells #[.slice A0_0 l0_0.length c0_0, .slice A0_1 l0_1.length c0_1] 25 (0, 0)) (by (with_reducible repeat (first | refine blk_drewN ?_ _ | refine blk_drew ?_ | refine blk_alloc ?_ _)); exact BK126.out)) : gb126 ≠ gb146))
                                            have n11_ := Aside0.mk ((by rw [hg]; exact Nat.ne_of_gt (blk_lt (g := gb126) (o := .cells #[.slice A0_0 l0_0.length c0_0, .slice A0_1 l0_1.length c0_1] 25 (0, 0)) (by (with_reducible repeat (first | refine blk_drewN ?_ _ | refine blk_drew ?_ | refine blk_alloc ?_ _)); exact BK126.out)) : gb146 ≠ gb126))
                                            have n12_ := Aside0.mk ((by rw [hg]; exact Nat.ne_of_lt (blk_lt (g := gb135) (o := .cells #[.slice Ao65 x136000_5.length co65, .slice Ao66 x136001_5.length co66] 28 (0, 0)) (by (with_reducible repeat (first | refine blk_drewN ?_ _ | refine blk_drew ?_ | refine blk_alloc ?_ _)); exact BK135.out)) : gb135 ≠ gb146))
                                            have n13_ := Aside0.mk ((by rw [hg]; exact Nat.ne_of_gt (blk_lt (g := gb135) (o := .cells #[.slice Ao65 x136000_5.length co65, .slice Ao66 x136001_5.length co66] 28 (0, 0)) (by (with_reducible repeat (first | refine blk_drewN ?_ _ | refine blk_drew ?_ | refine blk_alloc ?_ _)); exact BK135.out)) : gb146 ≠ gb135))
                                            clear HO_136000
                                            clear HO_136001
                                            clear HO141
                                            clear HO144
                                            clear BK126
                                            clear BK135
                                            clear HB
                                            have HO_136000 := n0_
                                            have HO_136001 := n1_
                                            have HO141 := n2_
                                            have HO144 := n3_
                                            have BK126 := n4_
                                            have BK135 := n5_
                                            have HB := n6_
                                            have BK146 := n7_
                                            have GW146 := n8_
                                            have GE146 := n9_
                                            have NB126_146 := n10_
                                            have NB146_126 := n11_
                                            have NB135_146 := n12_
                                            have NB146_135 := n13_
                                            clear n0_ n1_ n2_ n3_ n4_ n5_ n6_ n7_ n8_ n9_ n10_ n11_ n12_ n13_
                                            clear hb hbox hg
                                            refine hK.out _ _ ⟨(blk_cell BK126.out 0).trans rfl, (blk_cell BK126.out 1).trans rfl, (blk_cell BK135.out 0).trans rfl, (blk_cell BK135.out 1).trans rfl⟩ (fun hHeld => ?_)
                                            clear hK K
                                            refine norm_ (a' := ?_) ?_ ?_
                                            rotate_left
                                            · show Act.put _ (some 13) _ = _
                                              simp only [Act.put, List.setIfInBounds_toArray, List.set_cons_zero, List.set_cons_succ, i64_w, i32_w]
                                              rfl
                                            exact norm_ (by simp only [putAll, Act.put, List.setIfInBounds_toArray, List.set_cons_zero, List.set_cons_succ]) (hCont (v140, v143, gb146) _ ⟨hHeld, (by (with_reducible repeat (first | apply Kd.V_alloc | apply Kd.V_drewN | apply Kd.V_drew)); exact Kd.V_mono HO141.out (fun _ hk => ⟨hk.1.1, ⟨hk.1.2, hk.2⟩⟩)), (by (with_reducible repeat (first | apply Kd.V_alloc | apply Kd.V_drewN | apply Kd.V_drew)); exact Kd.V_mono HO144.out (fun _ hk => ⟨hk.1.1, ⟨hk.1.2, hk.2⟩⟩)), (by (with_reducible repeat (first | apply Kd.V_alloc | apply Kd.V_drewN | apply Kd.V_drew)); exact Kd.V_mono HO_136000.out (fun _ hk => ⟨hk.1.1, ⟨hk.1.2, hk.2⟩⟩)), (by (with_reducible repeat (first | apply Kd.V_alloc | apply Kd.V_drewN | apply Kd.V_drew)); exact Kd.V_mono HO_136001.out (fun _ hk => ⟨hk.1.1, ⟨hk.1.2, hk.2⟩⟩)), (by (with_reducible repeat (first | refine blk_drewN ?_ _ | refine blk_drew ?_ | refine blk_alloc ?_ _)); exact BK126.out), (by (with_reducible repeat (first | refine blk_drewN ?_ _ | refine blk_drew ?_ | refine blk_alloc ?_ _)); exact BK135.out), (by (with_reducible repeat (first | refine blk_drewN ?_ _ | refine blk_drew ?_ | refine blk_alloc ?_ _)); exact BK146.out), GW146.out, GE146.out, NB126_146.out, NB146_126.out, NB135_146.out, NB146_135.out, (by repeat (first | (with_reducible first | exact HB.out | apply below_alloc | apply pw_below_drewN | apply below_drew1 | refine below_set ?_ GE126.out | refine below_set ?_ GE135.out | refine below_set ?_ GE146.out) | exact HB.out))⟩)
                                          · skip
                                            refine box_step ?hg (N := 13) ?hd (cs := #[.slice none 0 0, .slice none 0 0]) (t := 28) ?hr ?_; (case hd => rfl); (case hg => rfl); (case hr => first | (go_simp; done) | (go_simp; rfl))
                                            intro gb146 hg w68 hbox hb
                                            have n0_ := Aside0.mk (Kd.V_below (Kd.V_elderB (by (with_reducible repeat (first | apply Kd.V_alloc | apply Kd.V_drewN | apply Kd.V_drew)); exact HO_136000.out) gb146 (Nat.le_of_eq hg.symm)) hb)
                                            have n1_ := Aside0.mk (Kd.V_below (Kd.V_elderB (by (with_reducible repeat (first | apply Kd.V_alloc | apply Kd.V_drewN | apply Kd.V_drew)); exact HO_136001.out) gb146 (Nat.le_of_eq hg.symm)) hb)
                                            have n2_ := Aside0.mk (blk_below (g := gb126) (o := .cells #[.slice A0_0 l0_0.length c0_0, .slice A0_1 l0_1.length c0_1] 25 (0, 0)) (by (with_reducible repeat (first | refine blk_drewN ?_ _ | refine blk_drew ?_ | refine blk_alloc ?_ _)); exact BK126.out) hb)
                                            have n3_ := Aside0.mk (blk_below (g := gb135) (o := .cells #[.slice Ao65 x136000_5.length co65, .slice Ao66 x136001_5.length co66] 28 (0, 0)) (by (with_reducible repeat (first | refine blk_drewN ?_ _ | refine blk_drew ?_ | refine blk_alloc ?_ _)); exact BK135.out) hb)
                                            have n4_ := Aside0.mk (below_step (by repeat (first | (with_reducible first | exact HB.out | apply below_alloc | apply pw_below_drewN | apply below_drew1 | refine below_set ?_ GE126.out | refine below_set ?_ GE135.out) | exact HB.out)) hb)
                                            have n5_ := Aside0.mk (hbox)
                                            have n6_ := Aside0.mk ((by rw [hg]; exact (below_size (by repeat (first | (with_reducible first | exact HB.out | apply below_alloc | apply pw_below_drewN | apply below_drew1 | refine below_set ?_ GE126.out | refine below_set ?_ GE135.out) | exact HB.out))) : w.heap.size ≤ gb146))
                                            have n7_ := Aside0.mk ((by rw [hg]; exact (below_size (by repeat (first | (with_reducible first | exact HB.out | apply below_alloc | apply pw_below_drewN | apply below_drew1 | refine below_set ?_ GE126.out | refine below_set ?_ GE135.out) | exact HB.out))) : w.heap.size ≤ gb146))
                                            have n8_ := Aside0.mk ((by rw [hg]; exact Nat.ne_of_lt (blk_lt (g := gb126) (o := .cells #[.slice A0_0 l0_0.length c0_0, .slice A0_1 l0_1.length c0_1] 25 (0, 0)) (by (with_reducible repeat (first | refine blk_drewN ?_ _ | refine blk_drew ?_ | refine blk_alloc ?_ _)); exact BK126.out)) : gb126 ≠ gb146))
                                            have n9_ := Aside0.mk ((by rw [hg]; exact Nat.ne_of_gt (blk_lt (g := gb126) (o := .cells #[.slice A0_0 l0_0.length c0_0, .slice A0_1 l0_1.length c0_1] 25 (0, 0)) (by (with_reducible repeat (first | refine blk_drewN ?_ _ | refine blk_drew ?_ | refine blk_alloc ?_ _)); exact BK126.out)) : gb146 ≠ gb126))
                                            have n10_ := Aside0.mk ((by rw [hg]; exact Nat.ne_of_lt (blk_lt (g := gb135) (o := .cells #[.slice Ao65 x136000_5.length co65, .slice Ao66 x136001_5.length co66] 28 (0, 0)) (by (with_reducible repeat (first | refine blk_drewN ?_ _ | refine blk_drew ?_ | refine blk_alloc ?_ _)); exact BK135.out)) : gb135 ≠ gb146))
                                            have n11_ := Aside0.mk ((by rw [hg]; exact Nat.ne_of_gt (blk_lt (g := gb135) (o := .cells #[.slice Ao65 x136000_5.length co65, .slice Ao66 x136001_5.length co66] 28 (0, 0)) (by (with_reducible repeat (first | refine blk_drewN ?_ _ | refine blk_drew ?_ | refine blk_alloc ?_ _)); exact BK135.out)) : gb146 ≠ gb135))
                                            clear HO_136000
                                            clear HO_136001
                                            clear BK126
                                            clear BK135
                                            clear HB
                                            have HO_136000 := n0_
                                            have HO_136001 := n1_
                                            have BK126 := n2_
                                            have BK135 := n3_
                                            have HB := n4_
                                            have BK146 := n5_
                                            have GW146 := n6_
                                            have GE146 := n7_
                                            have NB126_146 := n8_
                                            have NB146_126 := n9_
                                            have NB135_146 := n10_
                                            have NB146_135 := n11_
                                            clear n0_ n1_ n2_ n3_ n4_ n5_ n6_ n7_ n8_ n9_ n10_ n11_
                                            clear hb hbox hg
                                            refine hK.out _ _ ⟨(blk_cell BK126.out 0).trans rfl, (blk_cell BK126.out 1).trans rfl, (blk_cell BK135.out 0).trans rfl, (blk_cell BK135.out 1).trans rfl⟩ (fun hHeld => ?_)
                                            clear hK K
                                            refine norm_ (a' := ?_) ?_ ?_
                                            rotate_left
                                            · show Act.put _ (some 13) _ = _
                                              simp only [Act.put, List.setIfInBounds_toArray, List.set_cons_zero, List.set_cons_succ, i64_w, i32_w]
                                              rfl
                                            refine one_ (i := 9) (N := some 80) #[true, true, true, true, true, true, true, true, true, true, false, false, false, true, false, false] rfl rfl (one_of HT_.out (by kernel_rfl)) (by decide) (fun K hK => ?_)
                                            refine goes_ Try.func17 (by kernel_rfl) rfl #[.agg #[.slice A0_0 l0_0.length c0_0, .slice A0_1 l0_1.length c0_1], .agg #[.slice Ao65 x136000_5.length co65, .slice Ao66 x136001_5.length co66], .int .i64 (Int.tmod (wrap64 (x10_30 + x12_5)) (l0_1.length : Int))] (by rfl) rfl rfl (by (try simp only [List.map_toArray, List.map_cons, List.map_nil]); first | done | rfl | (simp only [List.length_drop, List.length_take]; rfl)) ?_
                                            with_reducible refine (sc_Step.calls _ _ l0_0 _ _ l0_1 _ _ x136000_5 _ _ x136001_5 (Int.tmod (wrap64 (x10_30 + x12_5)) (l0_1.length : Int)) t139 t142 false _ ?side1 ?side2 ?side3 ?side4 ?side5 ?side6 ?side7 ?side8 A48.out).mono ?_
                                            (case side1 => repeat (first | exact (Kd.C_below HR0_0.out HB.out) | (with_reducible refine Kd.C_alloc ?_ _) | (with_reducible refine Kd.C_drewN ?_ _) | (with_reducible refine Kd.C_drew ?_)))
                                            (case side2 => exact HC0_0.out)
                                            (case side3 => repeat (first | exact (Kd.C_below HR0_1.out HB.out) | (with_reducible refine Kd.C_alloc ?_ _) | (with_reducible refine Kd.C_drewN ?_ _) | (with_reducible refine Kd.C_drew ?_)))
                                            (case side4 => exact HC0_1.out)
                                            (case side5 => repeat (first | exact (Kd.V_reads' HO_136000.out).2.2 | (with_reducible refine Kd.C_alloc ?_ _) | (with_reducible refine Kd.C_drewN ?_ _) | (with_reducible refine Kd.C_drew ?_)))
                                            (case side6 => exact (Kd.V_reads' HO_136000.out).2.1)
                                            (case side7 => repeat (first | exact (Kd.V_reads' HO_136001.out).2.2 | (with_reducible refine Kd.C_alloc ?_ _) | (with_reducible refine Kd.C_drewN ?_ _) | (with_reducible refine Kd.C_drew ?_)))
                                            (case side8 => exact (Kd.V_reads' HO_136001.out).2.1)
                                            rintro e w69 ⟨v140, v143, rfl, ho0, ho1, hb⟩
                                            refine ⟨_, rfl, ?_⟩
                                            have n0_ := Aside0.mk (Kd.V_below (by (with_reducible repeat (first | apply Kd.V_alloc | apply Kd.V_drewN | apply Kd.V_drew)); exact HO_136000.out) hb)
                                            have n1_ := Aside0.mk (Kd.V_below (by (with_reducible repeat (first | apply Kd.V_alloc | apply Kd.V_drewN | apply Kd.V_drew)); exact HO_136001.out) hb)
                                            have n2_ := Aside0.mk (Kd.V_lower (Kd.V_mono (ok' := fun k_ => k_ ≠ gb126 ∧ k_ ≠ gb135 ∧ k_ ≠ gb146) ho0 (fun k_ hk_ => ⟨(Kd.freshB (g := gb126) (o := .cells #[.slice A0_0 l0_0.length c0_0, .slice A0_1 l0_1.length c0_1] 25 (0, 0)) (by (with_reducible repeat (first | refine blk_drewN ?_ _ | refine blk_drew ?_ | refine blk_alloc ?_ _)); exact BK126.out) k_ hk_), (Kd.freshB (g := gb135) (o := .cells #[.slice Ao65 x136000_5.length co65, .slice Ao66 x136001_5.length co66] 28 (0, 0)) (by (with_reducible repeat (first | refine blk_drewN ?_ _ | refine blk_drew ?_ | refine blk_alloc ?_ _)); exact BK135.out) k_ hk_), (Kd.freshB (g := gb146) (o := .cells #[.slice none 0 0, .slice none 0 0] 28 (0, 0)) (by (with_reducible repeat (first | refine blk_drewN ?_ _ | refine blk_drew ?_ | refine blk_alloc ?_ _)); exact BK146.out) k_ hk_)⟩)) (below_size (by repeat (first | (with_reducible first | exact HB.out | apply below_alloc | apply pw_below_drewN | apply below_drew1 | refine below_set ?_ GE126.out | refine below_set ?_ GE135.out | refine below_set ?_ GE146.out) | exact HB.out))))
                                            have n3_ := Aside0.mk (Kd.V_lower (Kd.V_mono (ok' := fun k_ => k_ ≠ gb126 ∧ k_ ≠ gb135 ∧ k_ ≠ gb146) ho1 (fun k_ hk_ => ⟨(Kd.freshB (g := gb126) (o := .cells #[.slice A0_0 l0_0.length c0_0, .slice A0_1 l0_1.length c0_1] 25 (0, 0)) (by (with_reducible repeat (first | refine blk_drewN ?_ _ | refine blk_drew ?_ | refine blk_alloc ?_ _)); exact BK126.out) k_ hk_), (Kd.freshB (g := gb135) (o := .cells #[.slice Ao65 x136000_5.length co65, .slice Ao66 x136001_5.length co66] 28 (0, 0)) (by (with_reducible repeat (first | refine blk_drewN ?_ _ | refine blk_drew ?_ | refine blk_alloc ?_ _)); exact BK135.out) k_ hk_), (Kd.freshB (g := gb146) (o := .cells #[.slice none 0 0, .slice none 0 0] 28 (0, 0)) (by (with_reducible repeat (first | refine blk_drewN ?_ _ | refine blk_drew ?_ | refine blk_alloc ?_ _)); exact BK146.out) k_ hk_)⟩)) (below_size (by repeat (first | (with_reducible first | exact HB.out | apply below_alloc | apply pw_below_drewN | apply below_drew1 | refine below_set ?_ GE126.out | refine below_set ?_ GE135.out | refine below_set ?_ GE146.out) | exact HB.out))))
                                            have n4_ := Aside0.mk (blk_below (g := gb126) (o := .cells #[.slice A0_0 l0_0.length c0_0, .slice A0_1 l0_1.length c0_1] 25 (0, 0)) (by (with_reducible repeat (first | refine blk_drewN ?_ _ | refine blk_drew ?_ | refine blk_alloc ?_ _)); exact BK126.out) hb)
                                            have n5_ := Aside0.mk (blk_below (g := gb135) (o := .cells #[.slice Ao65 x136000_5.length co65, .slice Ao66 x136001_5.length co66] 28 (0, 0)) (by (with_reducible repeat (first | refine blk_drewN ?_ _ | refine blk_drew ?_ | refine blk_alloc ?_ _)); exact BK135.out) hb)
                                            have n6_ := Aside0.mk (blk_below (g := gb146) (o := .cells #[.slice none 0 0, .slice none 0 0] 28 (0, 0)) (by (with_reducible repeat (first | refine blk_drewN ?_ _ | refine blk_drew ?_ | refine blk_alloc ?_ _)); exact BK146.out) hb)
                                            have n7_ := Aside0.mk (below_step (by repeat (first | (with_reducible first | exact HB.out | apply below_alloc | apply pw_below_drewN | apply below_drew1 | refine below_set ?_ GE126.out | refine below_set ?_ GE135.out | refine below_set ?_ GE146.out) | exact HB.out)) hb)
                                            clear HO_136000
                                            clear HO_136001
                                            clear BK126
                                            clear BK135
                                            clear BK146
                                            clear HB
                                            have HO_136000 := n0_
                                            have HO_136001 := n1_
                                            have HO141 := n2_
                                            have HO144 := n3_
                                            have BK126 := n4_
                                            have BK135 := n5_
                                            have BK146 := n6_
                                            have HB := n7_
                                            clear n0_ n1_ n2_ n3_ n4_ n5_ n6_ n7_
                                            (try clear hb)
                                            (try clear hb2)
                                            (try clear hk)
                                            (try clear hi)
                                            (try clear ho0)
                                            (try clear ho1)
                                            refine hK.out _ _ ⟨(blk_cell BK126.out 0).trans rfl, (blk_cell BK126.out 1).trans rfl, (blk_cell BK135.out 0).trans rfl, (blk_cell BK135.out 1).trans rfl⟩ (fun hHeld => ?_)
                                            clear hK K
                                            refine norm_ (a' := ?_) ?_ ?_
                                            rotate_left
                                            · show Act.put _ (some 80) _ = _
                                              simp only [Act.put, List.setIfInBounds_toArray, List.set_cons_zero, List.set_cons_succ, i64_w, i32_w]
                                              rfl
                                            refine pure_ (i := 10) (N := some 70) (v := ?_) (a' := ?_) #[true, true, true, true, true, true, true, true, true, true, true, false, false, true, false, false] rfl rfl (any_of HT_.out (by kernel_rfl)) (fun _ _ _ h => h) (Or.inl ⟨by rfl, ?_⟩) ?_ ?_
                                            rotate_left
                                            · intro w'
                                              go_simp
                                              with_reducible rfl
                                            rotate_left
                                            · simp only [Act.put, List.setIfInBounds_toArray, List.set_cons_zero, List.set_cons_succ, i64_w, i32_w]
                                              rfl
                                            refine pure_ (i := 11) (N := some 81) (v := ?_) (a' := ?_) #[true, true, true, true, true, true, true, true, true, true, true, true, false, true, false, false] rfl rfl (any_of HT_.out (by kernel_rfl)) (fun _ _ _ h => h) (Or.inl ⟨by rfl, ?_⟩) ?_ ?_
                                            rotate_left
                                            · intro w'
                                              go_simp
                                              with_reducible rfl
                                            rotate_left
                                            · simp only [Act.put, List.setIfInBounds_toArray, List.set_cons_zero, List.set_cons_succ, i64_w, i32_w]
                                              rfl
                                            refine pure_ (i := 12) (N := some 82) (v := ?_) (a' := ?_) #[true, true, true, true, true, true, true, true, true, true, true, true, true, true, false, false] rfl rfl (any_of HT_.out (by kernel_rfl)) (fun _ _ _ h => h) (Or.inl ⟨by rfl, ?_⟩) ?_ ?_
                                            rotate_left
                                            · intro w'
                                              go_simp
                                              with_reducible rfl
                                            rotate_left
                                            · simp only [Act.put, List.setIfInBounds_toArray, List.set_cons_zero, List.set_cons_succ, i64_w, i32_w]
                                              rfl
                                            exact norm_ (by simp only [putAll, Act.put, List.setIfInBounds_toArray, List.set_cons_zero, List.set_cons_succ]) (hCont (v140, v143, gb146) _ ⟨hHeld, (by (with_reducible repeat (first | apply Kd.V_alloc | apply Kd.V_drewN | apply Kd.V_drew)); exact HO141.out), (by (with_reducible repeat (first | apply Kd.V_alloc | apply Kd.V_drewN | apply Kd.V_drew)); exact HO144.out), (by (with_reducible repeat (first | apply Kd.V_alloc | apply Kd.V_drewN | apply Kd.V_drew)); exact Kd.V_mono HO_136000.out (fun _ hk => ⟨hk.1.1, ⟨hk.1.2, hk.2⟩⟩)), (by (with_reducible repeat (first | apply Kd.V_alloc | apply Kd.V_drewN | apply Kd.V_drew)); exact Kd.V_mono HO_136001.out (fun _ hk => ⟨hk.1.1, ⟨hk.1.2, hk.2⟩⟩)), (by (with_reducible repeat (first | refine blk_drewN ?_ _ | refine blk_drew ?_ | refine blk_alloc ?_ _)); exact BK126.out), (by (with_reducible repeat (first | refine blk_drewN ?_ _ | refine blk_drew ?_ | refine blk_alloc ?_ _)); exact BK135.out), (by (with_reducible repeat (first | refine blk_drewN ?_ _ | refine blk_drew ?_ | refine blk_alloc ?_ _)); exact BK146.out), GW146.out, GE146.out, NB126_146.out, NB146_126.out, NB135_146.out, NB146_135.out, (by repeat (first | (with_reducible first | exact HB.out | apply below_alloc | apply pw_below_drewN | apply below_drew1 | refine below_set ?_ GE126.out | refine below_set ?_ GE135.out | refine below_set ?_ GE146.out) | exact HB.out))⟩)
                                        rintro ⟨v140, v143, gb146⟩ w70 ⟨hS_, h0_, h1_, h2_, h3_, h4_, h5_, h6_, h7_, h8_, h9_, h10_, h11_, h12_, h13_⟩
                                        have n0_ : Aside0 (Kd.V (Kd.int .i64) 3 w70 w.heap.size (fun k_ => k_ ≠ gb126 ∧ k_ ≠ gb135 ∧ k_ ≠ gb146) v140 t139) := ⟨h0_⟩
                                        have n1_ : Aside0 (Kd.V k45 45 w70 w.heap.size (fun k_ => k_ ≠ gb126 ∧ k_ ≠ gb135 ∧ k_ ≠ gb146) v143 t142) := ⟨h1_⟩
                                        have n2_ : Aside0 (Kd.V (Kd.int .i64) 3 w70 w.heap.size (fun k_ => k_ ≠ gb126 ∧ k_ ≠ gb135 ∧ k_ ≠ gb146) (.slice Ao65 x136000_5.length co65) x136000_5) := ⟨h2_⟩
                                        have n3_ : Aside0 (Kd.V k45 45 w70 w.heap.size (fun k_ => k_ ≠ gb126 ∧ k_ ≠ gb135 ∧ k_ ≠ gb146) (.slice Ao66 x136001_5.length co66) x136001_5) := ⟨h3_⟩
                                        have n4_ : Aside0 (w70.heap[gb126]? = some (.cells #[.slice A0_0 l0_0.length c0_0, .slice A0_1 l0_1.length c0_1] 25 (0, 0))) := ⟨h4_⟩
                                        have n5_ : Aside0 (w70.heap[gb135]? = some (.cells #[.slice Ao65 x136000_5.length co65, .slice Ao66 x136001_5.length co66] 28 (0, 0))) := ⟨h5_⟩
                                        have n6_ : Aside0 (w70.heap[gb146]? = some (.cells #[.slice none 0 0, .slice none 0 0] 28 (0, 0))) := ⟨h6_⟩
                                        have n7_ : Aside0 (w.heap.size ≤ gb146) := ⟨h7_⟩
                                        have n8_ : Aside0 (w.heap.size ≤ gb146) := ⟨h8_⟩
                                        have n9_ : Aside0 (gb126 ≠ gb146) := ⟨h9_⟩
                                        have n10_ : Aside0 (gb146 ≠ gb126) := ⟨h10_⟩
                                        have n11_ : Aside0 (gb135 ≠ gb146) := ⟨h11_⟩
                                        have n12_ : Aside0 (gb146 ≠ gb135) := ⟨h12_⟩
                                        have n13_ : Aside0 (Below w.heap.size w w70) := ⟨h13_⟩
                                        clear HO_136000
                                        clear HO_136001
                                        clear BK126
                                        clear BK135
                                        clear HB
                                        clear h0_ h1_ h2_ h3_ h4_ h5_ h6_ h7_ h8_ h9_ h10_ h11_ h12_ h13_
                                        have HO141 := n0_
                                        have HO144 := n1_
                                        have HO_136000 := n2_
                                        have HO_136001 := n3_
                                        have BK126 := n4_
                                        have BK135 := n5_
                                        have BK146 := n6_
                                        have GW146 := n7_
                                        have GE146 := n8_
                                        have NB126_146 := n9_
                                        have NB146_126 := n10_
                                        have NB135_146 := n11_
                                        have NB146_135 := n12_
                                        have HB := n13_
                                        clear n0_ n1_ n2_ n3_ n4_ n5_ n6_ n7_ n8_ n9_ n10_ n11_ n12_ n13_
                                        have hHeld : w70.cell? ⟨gb126, 0, none⟩ = some (.slice A0_0 l0_0.length c0_0) ∧ w70.cell? ⟨gb126, 1, none⟩ = some (.slice A0_1 l0_1.length c0_1) ∧ w70.cell? ⟨gb135, 0, none⟩ = some (.slice Ao65 x136000_5.length co65) ∧ w70.cell? ⟨gb135, 1, none⟩ = some (.slice Ao66 x136001_5.length co66) := hS_
                                        obtain ⟨Ao71, co71, eo71⟩ := Kd.V_slice HO141.out
                                        (first | subst eo71 | (injection eo71 with f1_ f2_ f3_; have f4_ := f1_.symm; have f5_ := f3_.symm; clear f1_ f2_ f3_; subst f4_; subst f5_))
                                        obtain ⟨Ao73, co73, eo73⟩ := Kd.V_slice HO144.out
                                        (first | subst eo73 | (injection eo73 with f1_ f2_ f3_; have f4_ := f1_.symm; have f5_ := f3_.symm; clear f1_ f2_ f3_; subst f4_; subst f5_))
                                        refine norm_ (a' := ?_) ?_ ?_
                                        rotate_left
                                        · simp only [putAll, Act.put, List.setIfInBounds_toArray, List.set_cons_zero, List.set_cons_succ]
                                          rfl
                                        refine one_ (i := 14) (N := none) #[true, true, true, true, true, true, true, true, true, true, true, true, true, true, true, false] rfl rfl (one_of HT_.out (by kernel_rfl)) (by decide) (fun K hK => ?_)
                                        have hs72 : w70.cell? ⟨gb146, 0, none⟩ = some (.slice none 0 0) := (blk_cell BK146.out 0).trans rfl
                                        have hfs72 := blk_frozen BK146.out 0
                                        have hns72_0 := NB126_146.out
                                        have hns72_1 := NB135_146.out
                                        have hms72_0 := NB146_126.out
                                        have hms72_1 := NB146_135.out
                                        have hs74 : w70.cell? ⟨gb146, 1, none⟩ = some (.slice none 0 0) := (blk_cell BK146.out 1).trans rfl
                                        have hfs74 := blk_frozen BK146.out 1
                                        have hns74_0 := NB126_146.out
                                        have hns74_1 := NB135_146.out
                                        have hms74_0 := NB146_126.out
                                        have hms74_1 := NB146_135.out
                                        refine skip_ (w1 := ?_) (by rfl) rfl ?_ ?_
                                        rotate_left
                                        · go_simp
                                          rfl
                                        refine hK.out _ _ ⟨((cell_far (p := ⟨gb146, _, none⟩) NB126_146.out _).trans (((cell_far (p := ⟨gb146, _, none⟩) NB126_146.out _).trans (hHeld.1)))), ((cell_far (p := ⟨gb146, _, none⟩) NB126_146.out _).trans (((cell_far (p := ⟨gb146, _, none⟩) NB126_146.out _).trans (hHeld.2.1)))), ((cell_far (p := ⟨gb146, _, none⟩) NB135_146.out _).trans (((cell_far (p := ⟨gb146, _, none⟩) NB135_146.out _).trans (hHeld.2.2.1)))), ((cell_far (p := ⟨gb146, _, none⟩) NB135_146.out _).trans (((cell_far (p := ⟨gb146, _, none⟩) NB135_146.out _).trans (hHeld.2.2.2))))⟩ (fun hHeld => ?_)
                                        clear hK K
                                        refine pure_ (i := 15) (N := some 14) (v := ?_) (a' := ?_) #[true, true, true, true, true, true, true, true, true, true, true, true, true, true, true, true] rfl rfl (any_of HT_.out (by kernel_rfl)) (fun _ _ _ h => h) (Or.inl ⟨by rfl, ?_⟩) ?_ ?_
                                        rotate_left
                                        · intro w'
                                          go_simp
                                          with_reducible rfl
                                        rotate_left
                                        · simp only [Act.put, List.setIfInBounds_toArray, List.set_cons_zero, List.set_cons_succ, i64_w, i32_w]
                                          rfl
                                        refine done_ (done_of HT_.out (by kernel_rfl)) ?_
                                        try go_wp2
                                        go_roundg kj39
                                        case measure => have := HJ3.out; have := HK2.out; have := HK3.out; have := HJ30.out; have := HK5.out; have := HJ39.out; omega
                                        case rel => exact ⟨(x11_5), (wrap64 (x12_5 + 1)), (x136000_5), (x136001_5), (.slice Ao65 x136000_5.length co65), (.slice Ao66 x136001_5.length co66), (by first | rfl | (simp; done) | (simp [*]; done)), (by first | rfl | (simp; done) | (simp [*]; done)), H', ⟨by have := HJ3.out; have := HK2.out; have := HK3.out; have := HJ30.out; have := HK5.out; have := HJ39.out; omega⟩, ⟨by (with_reducible repeat (first | apply Kd.V_alloc | apply Kd.V_drewN | apply Kd.V_drew)); exact Kd.V_mono (Kd.V_far (p := ⟨gb146, 1, none⟩) (Kd.V_far (p := ⟨gb146, 0, none⟩) (Kd.V_mono HO_136000.out (fun k_ hk => (⟨hk, hk.2.2⟩ : _ ∧ k_ ≠ gb146))) (fun _ hk => hk.2) (.slice Ao71 t139.length co71)) (fun _ hk => hk.2) (.slice Ao73 t142.length co73)) (fun _ hk => ⟨hk.1.1, hk.1.2.1⟩)⟩, ⟨by (with_reducible repeat (first | apply Kd.V_alloc | apply Kd.V_drewN | apply Kd.V_drew)); exact Kd.V_mono (Kd.V_far (p := ⟨gb146, 1, none⟩) (Kd.V_far (p := ⟨gb146, 0, none⟩) (Kd.V_mono HO_136001.out (fun k_ hk => (⟨hk, hk.2.2⟩ : _ ∧ k_ ≠ gb146))) (fun _ hk => hk.2) (.slice Ao71 t139.length co71)) (fun _ hk => hk.2) (.slice Ao73 t142.length co73)) (fun _ hk => ⟨hk.1.1, hk.1.2.1⟩)⟩, ⟨by (with_reducible repeat (first | refine blk_drewN ?_ _ | refine blk_drew ?_ | refine blk_alloc ?_ _)); refine blk_far ?_ NB126_146.out _; (with_reducible repeat (first | refine blk_drewN ?_ _ | refine blk_drew ?_ | refine blk_alloc ?_ _)); refine blk_far ?_ NB126_146.out _; (with_reducible repeat (first | refine blk_drewN ?_ _ | refine blk_drew ?_ | refine blk_alloc ?_ _)); exact BK126.out⟩, ⟨by (with_reducible repeat (first | refine blk_drewN ?_ _ | refine blk_drew ?_ | refine blk_alloc ?_ _)); refine blk_far ?_ NB135_146.out _; (with_reducible repeat (first | refine blk_drewN ?_ _ | refine blk_drew ?_ | refine blk_alloc ?_ _)); refine blk_far ?_ NB135_146.out _; (with_reducible repeat (first | refine blk_drewN ?_ _ | refine blk_drew ?_ | refine blk_alloc ?_ _)); exact BK135.out⟩, ⟨by repeat (first | (with_reducible first | exact HB.out | apply below_alloc | apply pw_below_drewN | apply below_drew1 | refine below_set ?_ GE126.out | refine below_set ?_ GE135.out | refine below_set ?_ GE146.out) | exact HB.out)⟩⟩
                                  · replace c46 := Bool.eq_false_iff.mpr c46
                                    subst c46
                                    have H1 : (if x11_5 = true then (fencepostlaw10_ScEnds.l1 kj39 l1 t127 x7_2 (wrap64 (x9_3 + 1)) l0_0 l0_1 x136000_5 x136001_5) else (some t127)) = some r := by rw [if_neg (show ¬ (false = true) by decide)] at H; exact H
                                    clear H
                                    have H := H1
                                    clear H1
                                    by_cases c75 : x11_5 = true
                                    · subst c75
                                      have H1 : (fencepostlaw10_ScEnds.l1 kj39 l1 t127 x7_2 (wrap64 (x9_3 + 1)) l0_0 l0_1 x136000_5 x136001_5) = some r := by rw [if_pos rfl] at H; exact H
                                      clear H
                                      have H := H1
                                      clear H1
                                      have H' := Aside0.mk H
                                      clear H
                                      go_wp2
                                      go_roundg kj39
                                      case measure => have := HJ3.out; have := HK2.out; have := HK3.out; have := HJ30.out; have := HK5.out; have := HJ39.out; omega
                                      case rel => exact ⟨(wrap64 (x9_3 + 1)), (x136000_5), (x136001_5), (u136000), (u136001), (by first | rfl | (simp; done) | (simp [*]; done)), H', ⟨by have := HJ3.out; have := HK2.out; have := HK3.out; have := HJ30.out; have := HK5.out; have := HJ39.out; omega⟩, ⟨by (with_reducible repeat (first | apply Kd.V_alloc | apply Kd.V_drewN | apply Kd.V_drew)); exact HO_136000.out⟩, ⟨by (with_reducible repeat (first | apply Kd.V_alloc | apply Kd.V_drewN | apply Kd.V_drew)); exact HO_136001.out⟩, ⟨by (with_reducible repeat (first | refine blk_drewN ?_ _ | refine blk_drew ?_ | refine blk_alloc ?_ _)); exact BK126.out⟩, ⟨by (with_reducible repeat (first | refine blk_drewN ?_ _ | refine blk_drew ?_ | refine blk_alloc ?_ _)); exact BK135.out⟩, ⟨by repeat (first | (with_reducible first | exact HB.out | apply below_alloc | apply pw_below_drewN | apply below_drew1 | refine below_set ?_ GE126.out | refine below_set ?_ GE135.out) | exact HB.out)⟩⟩
                                    · replace c75 := Bool.eq_false_iff.mpr c75
                                      subst c75
                                      have H1 : (some t127) = some r := by rw [if_neg (show ¬ (false = true) by decide)] at H; exact H
                                      clear H
                                      have H := H1
                                      clear H1
                                      obtain rfl := Option.some.inj H
                                      go_wp2
                                      go_ret
                                      exact ⟨by first | rfl | (simp [errW_none, errW_some] <;> rfl) | (simp [*, errW_none, errW_some] <;> rfl), by repeat (first | (with_reducible first | exact HB.out | apply below_alloc | apply pw_below_drewN | apply below_drew1 | refine below_set ?_ GE126.out | refine below_set ?_ GE135.out) | exact HB.out)⟩
                    · replace c30 := Bool.eq_false_iff.mpr c30
                      subst c30
                      have H1 : (some false) = some r := by rw [if_neg (show ¬ (false = true) by decide)] at H; exact H
                      clear H
                      have H := H1
                      clear H1
                      exact absurd ((Option.some.inj H).trans HT.out) (by simp)
                  · rw [if_neg c28] at H
                    have c28b0 : decide (x9_3 ≤ x7_2) = false := decide_eq_false c28
                    clear c28
                    exact absurd ((Option.some.inj H).trans HT.out) (by simp)

end Go.Proofs.Ytdliojcpnkggnaa.Print
