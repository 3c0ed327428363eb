-- Written by ownprint.py (this session's) with the kit's print.py: functions, contracts, rows; Lean checks it.
import Derived.Test.YtdliojcpnkggnaaPrint0
import Derived.Test.YtdliojcpnkggnaaPrint5
import Derived.Test.YtdliojcpnkggnaaPrint6
import Derived.Test.YtdliojcpnkggnaaHSq
import Derived.Test.YtdliojcpnkggnaaHHead10
import Derived.Test.YtdliojcpnkggnaaHScStep
namespace Go.Proofs.Ytdliojcpnkggnaa.Print
open Go.RowKit Go.Proofs.YtdliojcpnkggnaaW.PrintWords Go.Proofs.YtdliojcpnkggnaaW.PrintLast Go.Proofs.YtdliojcpnkggnaaW.PrintMore
attribute [local go_sem] max2_int min2_int max_two min_two max_three min_three max_four min_four   -- for this text's walks alone
set_option linter.unusedVariables false
set_option linter.unusedSimpArgs false
mutual
def fencepostlaw10_ScReads.j0 : Nat → Int → Int → Bool → Bool → List Int → List (List (S39)) → List Int → List (S45) → Option (Bool)
 | 0, _, _, _, _, _, _, _, _ => none
 | k + 1, x2, x3, x9, x27, x238000, x238001, x239000, x239001 => if x27 = true then (some x9) else ((sc_Step.f x238000 x238001 x239000 x239001 x2).bind fun bt243 => (if bt243.2.2 = true then (if 0 ≤ x2 then (if x2 < (x238001.length : Int) then (if x2 < (x239001.length : Int) then (if 0 ≤ ((rd_T45 x239001 x2).f0) then (if ((rd_T45 x239001 x2).f0) < ((rd_L3 x238001 x2).length : Int) then ((fencepostref10_Right.f k x238000 x238001 bt243.1 bt243.2.1).bind fun t255 => (if t255 = true then (if 0 ≤ (Int.tmod (wrap64 (x3)) 4) then (if (Int.tmod (wrap64 (x3)) 4) < (((rd_T45 x239001 x2).f1).length : Int) then (if (Int.tmod (wrap64 (x3)) 4) = ((rd_T39 (rd_L3 x238001 x2) ((rd_T45 x239001 x2).f0)).f1) then (fencepostlaw10_ScReads.j1 k x2 x9 (Int.tmod (wrap64 (x3)) 4) (rd ((rd_T45 x239001 x2).f1) (Int.tmod (wrap64 (x3)) 4)) (((rd_T39 (rd_L3 x238001 x2) ((rd_T45 x239001 x2).f0)).f0) == 1) x239000 x239001 bt243.1 bt243.2.1 ((rd_T39 (rd_L3 x238001 x2) ((rd_T45 x239001 x2).f0)).f0) ((rd_T39 (rd_L3 x238001 x2) ((rd_T45 x239001 x2).f0)).f1) ((rd_T39 (rd_L3 x238001 x2) ((rd_T45 x239001 x2).f0)).f2) ((rd_T39 (rd_L3 x238001 x2) ((rd_T45 x239001 x2).f0)).f3) ((rd_T39 (rd_L3 x238001 x2) ((rd_T45 x239001 x2).f0)).f4)) else (fencepostlaw10_ScReads.j1 k x2 x9 (Int.tmod (wrap64 (x3)) 4) (rd ((rd_T45 x239001 x2).f1) (Int.tmod (wrap64 (x3)) 4)) false x239000 x239001 bt243.1 bt243.2.1 ((rd_T39 (rd_L3 x238001 x2) ((rd_T45 x239001 x2).f0)).f0) ((rd_T39 (rd_L3 x238001 x2) ((rd_T45 x239001 x2).f0)).f1) ((rd_T39 (rd_L3 x238001 x2) ((rd_T45 x239001 x2).f0)).f2) ((rd_T39 (rd_L3 x238001 x2) ((rd_T45 x239001 x2).f0)).f3) ((rd_T39 (rd_L3 x238001 x2) ((rd_T45 x239001 x2).f0)).f4))) else (none)) else (none)) else (some false))) else (none)) else (none)) else (none)) else (none)) else (none)) else (some x9)))
def fencepostlaw10_ScReads.j1 : Nat → Int → Bool → Int → Int → Bool → List Int → List (S45) → List Int → List (S45) → Int → Int → Int → Int → Int → Option (Bool)
 | 0, _, _, _, _, _, _, _, _, _, _, _, _, _, _ => none
 | k + 1, x2, x9, x13, x14, x76, x239000, x239001, x251000, x251001, x255000, x255001, x255002, x255003, x255004 => if x76 = true then (fencepostlaw10_ScReads.j2 k x2 x9 x13 x255003 x239000 x239001 x251000 x251001 x255000 x255001 x255002 x255003 x255004) else (fencepostlaw10_ScReads.j2 k x2 x9 x13 x14 x239000 x239001 x251000 x251001 x255000 x255001 x255002 x255003 x255004)
def fencepostlaw10_ScReads.j2 : Nat → Int → Bool → Int → Int → List Int → List (S45) → List Int → List (S45) → Int → Int → Int → Int → Int → Option (Bool)
 | 0, _, _, _, _, _, _, _, _, _, _, _, _, _ => none
 | k + 1, x2, x9, x13, x14, x239000, x239001, x251000, x251001, x255000, x255001, x255002, x255003, x255004 => if x13 = x255001 then (if x255000 = 2 then (fencepostlaw10_ScReads.j3 k x2 x9 x13 x14 true x239000 x239001 x251000 x251001 x255000 x255001 x255002 x255003 x255004) else (fencepostlaw10_ScReads.j3 k x2 x9 x13 x14 (x255000 == 5) x239000 x239001 x251000 x251001 x255000 x255001 x255002 x255003 x255004)) else (fencepostlaw10_ScReads.j3 k x2 x9 x13 x14 false x239000 x239001 x251000 x251001 x255000 x255001 x255002 x255003 x255004)
def fencepostlaw10_ScReads.j3 : Nat → Int → Bool → Int → Int → Bool → List Int → List (S45) → List Int → List (S45) → Int → Int → Int → Int → Int → Option (Bool)
 | 0, _, _, _, _, _, _, _, _, _, _, _, _, _, _ => none
 | k + 1, x2, x9, x13, x14, x92, x239000, x239001, x251000, x251001, x255000, x255001, x255002, x255003, x255004 => if x92 = true then (if 0 ≤ x255002 then (if x255002 < (x239000.length : Int) then (fencepostlaw10_ScReads.j4 k x2 x9 x13 (rd x239000 x255002) x239000 x239001 x251000 x251001 x255000 x255001 x255002 x255003 x255004) else (none)) else (none)) else (fencepostlaw10_ScReads.j4 k x2 x9 x13 x14 x239000 x239001 x251000 x251001 x255000 x255001 x255002 x255003 x255004)
def fencepostlaw10_ScReads.j4 : Nat → Int → Bool → Int → Int → List Int → List (S45) → List Int → List (S45) → Int → Int → Int → Int → Int → Option (Bool)
 | 0, _, _, _, _, _, _, _, _, _, _, _, _, _ => none
 | k + 1, x2, x9, x13, x14, x239000, x239001, x251000, x251001, x255000, x255001, x255002, x255003, x255004 => if 0 ≤ x2 then (if x2 < (x251001.length : Int) then (if 0 ≤ x13 then (if x13 < (((rd_T45 x251001 x2).f1).length : Int) then (if (rd ((rd_T45 x251001 x2).f1) x13) = x14 then (if x255000 = 4 then (if x9 = true then (if 0 ≤ x255002 then (if x255002 < (x251000.length : Int) then (some ((rd x251000 x255002) == x255003)) else (none)) else (none)) else (some false)) else (if x255000 = 3 then (if x9 = true then (if 0 ≤ x255002 then (if x255002 < (x251000.length : Int) then (if x2 < (x239001.length : Int) then (if 0 ≤ x255001 then (if x255001 < (((rd_T45 x239001 x2).f1).length : Int) then (some ((rd x251000 x255002) == (rd ((rd_T45 x239001 x2).f1) x255001))) else (none)) else (none)) else (none)) else (none)) else (none)) else (some false)) else (if x255000 = 5 then (if x9 = true then (if 0 ≤ x255002 then (if x255002 < (x251000.length : Int) then (if x2 < (x239001.length : Int) then (if 0 ≤ x255001 then (if x255001 < (((rd_T45 x239001 x2).f1).length : Int) then (some ((rd x251000 x255002) == (rd ((rd_T45 x239001 x2).f1) x255001))) else (none)) else (none)) else (none)) else (none)) else (none)) else (some false)) else (if x9 = true then (if x255000 = 7 then (if x2 < (x239001.length : Int) then (if 0 ≤ x255001 then (if x255001 < (((rd_T45 x239001 x2).f1).length : Int) then (if (((rd_T45 x251001 x2).f2) == ((rd ((rd_T45 x239001 x2).f1) x255001) == x255003)) = true then (some true) else (some false)) else (none)) else (none)) else (none)) else (if x2 < (x239001.length : Int) then (some (((rd_T45 x251001 x2).f2) == ((rd_T45 x239001 x2).f2))) else (none))) else (some false))))) else (some false)) else (none)) else (none)) else (none)) else (none)
end
def fencepostlaw10_ScReads.f (k : Nat) (l0_0 : List Int) (l0_1 : List (List (S39))) (l1_0 : List Int) (l1_1 : List (S45)) (a2 : Int) (a3 : Int) : Option (Bool) := (fencepostlaw10_head.f).bind fun t239 => ((fencepostlaw10_Great.f k l0_0 l0_1).bind fun t240 => (if t240 = true then (fencepostlaw10_ScReads.j0 k a2 a3 t239 true l0_0 l0_1 l1_0 l1_1) else ((fencepostlaw10_Wide.f k l1_0 l1_1).bind fun t241 => (if t241 = true then (fencepostlaw10_ScReads.j0 k a2 a3 t239 true l0_0 l0_1 l1_0 l1_1) else ((fencepostref10_Right.f k l0_0 l0_1 l1_0 l1_1).bind fun t242 => (fencepostlaw10_ScReads.j0 k a2 a3 t239 (!t242) l0_0 l0_1 l1_0 l1_1))))))
theorem fencepostlaw10_ScReads.mono_l : ∀ k, (∀ y0 y1 y2 y3 y4 y5 y6 y7, LeO (fencepostlaw10_ScReads.j0 k y0 y1 y2 y3 y4 y5 y6 y7) (fencepostlaw10_ScReads.j0 (k + 1) y0 y1 y2 y3 y4 y5 y6 y7)) ∧ (∀ y0 y1 y2 y3 y4 y5 y6 y7 y8 y9 y10 y11 y12 y13, LeO (fencepostlaw10_ScReads.j1 k y0 y1 y2 y3 y4 y5 y6 y7 y8 y9 y10 y11 y12 y13) (fencepostlaw10_ScReads.j1 (k + 1) y0 y1 y2 y3 y4 y5 y6 y7 y8 y9 y10 y11 y12 y13)) ∧ (∀ y0 y1 y2 y3 y4 y5 y6 y7 y8 y9 y10 y11 y12, LeO (fencepostlaw10_ScReads.j2 k y0 y1 y2 y3 y4 y5 y6 y7 y8 y9 y10 y11 y12) (fencepostlaw10_ScReads.j2 (k + 1) y0 y1 y2 y3 y4 y5 y6 y7 y8 y9 y10 y11 y12)) ∧ (∀ y0 y1 y2 y3 y4 y5 y6 y7 y8 y9 y10 y11 y12 y13, LeO (fencepostlaw10_ScReads.j3 k y0 y1 y2 y3 y4 y5 y6 y7 y8 y9 y10 y11 y12 y13) (fencepostlaw10_ScReads.j3 (k + 1) y0 y1 y2 y3 y4 y5 y6 y7 y8 y9 y10 y11 y12 y13)) ∧ (∀ y0 y1 y2 y3 y4 y5 y6 y7 y8 y9 y10 y11 y12, LeO (fencepostlaw10_ScReads.j4 k y0 y1 y2 y3 y4 y5 y6 y7 y8 y9 y10 y11 y12) (fencepostlaw10_ScReads.j4 (k + 1) y0 y1 y2 y3 y4 y5 y6 y7 y8 y9 y10 y11 y12))
 | 0 => ⟨fun _ _ _ _ _ _ _ _ r h => by simp [fencepostlaw10_ScReads.j0] at h, fun _ _ _ _ _ _ _ _ _ _ _ _ _ _ r h => by simp [fencepostlaw10_ScReads.j1] at h, fun _ _ _ _ _ _ _ _ _ _ _ _ _ r h => by simp [fencepostlaw10_ScReads.j2] at h, fun _ _ _ _ _ _ _ _ _ _ _ _ _ _ r h => by simp [fencepostlaw10_ScReads.j3] at h, fun _ _ _ _ _ _ _ _ _ _ _ _ _ r h => by simp [fencepostlaw10_ScReads.j4] at h⟩
 | k + 1 => by
  obtain ⟨ih0, ih1, ih2, ih3, ih4⟩ := fencepostlaw10_ScReads.mono_l k
  refine ⟨?_, ?_, ?_, ?_, ?_⟩
  ·intro y0 y1 y2 y3 y4 y5 y6 y7
   unfold fencepostlaw10_ScReads.j0
   repeat' first
   | (with_reducible exact ih0 _ _ _ _ _ _ _ _)
   | (with_reducible exact ih1 _ _ _ _ _ _ _ _ _ _ _ _ _ _)
   | (with_reducible exact ih2 _ _ _ _ _ _ _ _ _ _ _ _ _)
   | (with_reducible exact ih3 _ _ _ _ _ _ _ _ _ _ _ _ _ _)
   | (with_reducible exact ih4 _ _ _ _ _ _ _ _ _ _ _ _ _)
   | (with_reducible exact fencepostlaw10_Great.mono _ _ _)
   | (with_reducible exact fencepostlaw10_Wide.mono _ _ _)
   | (with_reducible exact fencepostref10_Right.mono _ _ _ _ _)
   | (with_reducible exact LeO.refl _)
   | (with_reducible exact LeO.none _)
   | (with_reducible refine LeO.ite ?_ ?_)
   | (with_reducible refine LeO.bind ?_ (fun _ => ?_))
   | exact ih0 _ _ _ _ _ _ _ _
   | exact ih1 _ _ _ _ _ _ _ _ _ _ _ _ _ _
   | exact ih2 _ _ _ _ _ _ _ _ _ _ _ _ _
   | exact ih3 _ _ _ _ _ _ _ _ _ _ _ _ _ _
   | exact ih4 _ _ _ _ _ _ _ _ _ _ _ _ _
   | exact fencepostlaw10_Great.mono _ _ _
   | exact fencepostlaw10_Wide.mono _ _ _
   | exact fencepostref10_Right.mono _ _ _ _ _
   | exact LeO.none _
   | refine LeO.ite ?_ ?_
   | refine LeO.bind ?_ (fun _ => ?_)
  ·intro y0 y1 y2 y3 y4 y5 y6 y7 y8 y9 y10 y11 y12 y13
   unfold fencepostlaw10_ScReads.j1
   repeat' first
   | (with_reducible exact ih0 _ _ _ _ _ _ _ _)
   | (with_reducible exact ih1 _ _ _ _ _ _ _ _ _ _ _ _ _ _)
   | (with_reducible exact ih2 _ _ _ _ _ _ _ _ _ _ _ _ _)
   | (with_reducible exact ih3 _ _ _ _ _ _ _ _ _ _ _ _ _ _)
   | (with_reducible exact ih4 _ _ _ _ _ _ _ _ _ _ _ _ _)
   | (with_reducible exact fencepostlaw10_Great.mono _ _ _)
   | (with_reducible exact fencepostlaw10_Wide.mono _ _ _)
   | (with_reducible exact fencepostref10_Right.mono _ _ _ _ _)
   | (with_reducible exact LeO.refl _)
   | (with_reducible exact LeO.none _)
   | (with_reducible refine LeO.ite ?_ ?_)
   | (with_reducible refine LeO.bind ?_ (fun _ => ?_))
   | exact ih0 _ _ _ _ _ _ _ _
   | exact ih1 _ _ _ _ _ _ _ _ _ _ _ _ _ _
   | exact ih2 _ _ _ _ _ _ _ _ _ _ _ _ _
   | exact ih3 _ _ _ _ _ _ _ _ _ _ _ _ _ _
   | exact ih4 _ _ _ _ _ _ _ _ _ _ _ _ _
   | exact fencepostlaw10_Great.mono _ _ _
   | exact fencepostlaw10_Wide.mono _ _ _
   | exact fencepostref10_Right.mono _ _ _ _ _
   | exact LeO.none _
   | refine LeO.ite ?_ ?_
   | refine LeO.bind ?_ (fun _ => ?_)
  ·intro y0 y1 y2 y3 y4 y5 y6 y7 y8 y9 y10 y11 y12
   unfold fencepostlaw10_ScReads.j2
   repeat' first
   | (with_reducible exact ih0 _ _ _ _ _ _ _ _)
   | (with_reducible exact ih1 _ _ _ _ _ _ _ _ _ _ _ _ _ _)
   | (with_reducible exact ih2 _ _ _ _ _ _ _ _ _ _ _ _ _)
   | (with_reducible exact ih3 _ _ _ _ _ _ _ _ _ _ _ _ _ _)
   | (with_reducible exact ih4 _ _ _ _ _ _ _ _ _ _ _ _ _)
   | (with_reducible exact fencepostlaw10_Great.mono _ _ _)
   | (with_reducible exact fencepostlaw10_Wide.mono _ _ _)
   | (with_reducible exact fencepostref10_Right.mono _ _ _ _ _)
   | (with_reducible exact LeO.refl _)
   | (with_reducible exact LeO.none _)
   | (with_reducible refine LeO.ite ?_ ?_)
   | (with_reducible refine LeO.bind ?_ (fun _ => ?_))
   | exact ih0 _ _ _ _ _ _ _ _
   | exact ih1 _ _ _ _ _ _ _ _ _ _ _ _ _ _
   | exact ih2 _ _ _ _ _ _ _ _ _ _ _ _ _
   | exact ih3 _ _ _ _ _ _ _ _ _ _ _ _ _ _
   | exact ih4 _ _ _ _ _ _ _ _ _ _ _ _ _
   | exact fencepostlaw10_Great.mono _ _ _
   | exact fencepostlaw10_Wide.mono _ _ _
   | exact fencepostref10_Right.mono _ _ _ _ _
   | exact LeO.none _
   | refine LeO.ite ?_ ?_
   | refine LeO.bind ?_ (fun _ => ?_)
  ·intro y0 y1 y2 y3 y4 y5 y6 y7 y8 y9 y10 y11 y12 y13
   unfold fencepostlaw10_ScReads.j3
   repeat' first
   | (with_reducible exact ih0 _ _ _ _ _ _ _ _)
   | (with_reducible exact ih1 _ _ _ _ _ _ _ _ _ _ _ _ _ _)
   | (with_reducible exact ih2 _ _ _ _ _ _ _ _ _ _ _ _ _)
   | (with_reducible exact ih3 _ _ _ _ _ _ _ _ _ _ _ _ _ _)
   | (with_reducible exact ih4 _ _ _ _ _ _ _ _ _ _ _ _ _)
   | (with_reducible exact fencepostlaw10_Great.mono _ _ _)
   | (with_reducible exact fencepostlaw10_Wide.mono _ _ _)
   | (with_reducible exact fencepostref10_Right.mono _ _ _ _ _)
   | (with_reducible exact LeO.refl _)
   | (with_reducible exact LeO.none _)
   | (with_reducible refine LeO.ite ?_ ?_)
   | (with_reducible refine LeO.bind ?_ (fun _ => ?_))
   | exact ih0 _ _ _ _ _ _ _ _
   | exact ih1 _ _ _ _ _ _ _ _ _ _ _ _ _ _
   | exact ih2 _ _ _ _ _ _ _ _ _ _ _ _ _
   | exact ih3 _ _ _ _ _ _ _ _ _ _ _ _ _ _
   | exact ih4 _ _ _ _ _ _ _ _ _ _ _ _ _
   | exact fencepostlaw10_Great.mono _ _ _
   | exact fencepostlaw10_Wide.mono _ _ _
   | exact fencepostref10_Right.mono _ _ _ _ _
   | exact LeO.none _
   | refine LeO.ite ?_ ?_
   | refine LeO.bind ?_ (fun _ => ?_)
  ·intro y0 y1 y2 y3 y4 y5 y6 y7 y8 y9 y10 y11 y12
   unfold fencepostlaw10_ScReads.j4
   repeat' first
   | (with_reducible exact ih0 _ _ _ _ _ _ _ _)
   | (with_reducible exact ih1 _ _ _ _ _ _ _ _ _ _ _ _ _ _)
   | (with_reducible exact ih2 _ _ _ _ _ _ _ _ _ _ _ _ _)
   | (with_reducible exact ih3 _ _ _ _ _ _ _ _ _ _ _ _ _ _)
   | (with_reducible exact ih4 _ _ _ _ _ _ _ _ _ _ _ _ _)
   | (with_reducible exact fencepostlaw10_Great.mono _ _ _)
   | (with_reducible exact fencepostlaw10_Wide.mono _ _ _)
   | (with_reducible exact fencepostref10_Right.mono _ _ _ _ _)
   | (with_reducible exact LeO.refl _)
   | (with_reducible exact LeO.none _)
   | (with_reducible refine LeO.ite ?_ ?_)
   | (with_reducible refine LeO.bind ?_ (fun _ => ?_))
   | exact ih0 _ _ _ _ _ _ _ _
   | exact ih1 _ _ _ _ _ _ _ _ _ _ _ _ _ _
   | exact ih2 _ _ _ _ _ _ _ _ _ _ _ _ _
   | exact ih3 _ _ _ _ _ _ _ _ _ _ _ _ _ _
   | exact ih4 _ _ _ _ _ _ _ _ _ _ _ _ _
   | exact fencepostlaw10_Great.mono _ _ _
   | exact fencepostlaw10_Wide.mono _ _ _
   | exact fencepostref10_Right.mono _ _ _ _ _
   | exact LeO.none _
   | refine LeO.ite ?_ ?_
   | refine LeO.bind ?_ (fun _ => ?_)
theorem fencepostlaw10_ScReads.mono : ∀ a0 a1 a2 a3 a4 a5 k, LeO (fencepostlaw10_ScReads.f k a0 a1 a2 a3 a4 a5) (fencepostlaw10_ScReads.f (k + 1) a0 a1 a2 a3 a4 a5) := by
 intro a0 a1 a2 a3 a4 a5 k
 obtain ⟨ih0, ih1, ih2, ih3, ih4⟩ := fencepostlaw10_ScReads.mono_l k
 unfold fencepostlaw10_ScReads.f
 repeat' first
  | (with_reducible exact ih0 _ _ _ _ _ _ _ _)
  | (with_reducible exact ih1 _ _ _ _ _ _ _ _ _ _ _ _ _ _)
  | (with_reducible exact ih2 _ _ _ _ _ _ _ _ _ _ _ _ _)
  | (with_reducible exact ih3 _ _ _ _ _ _ _ _ _ _ _ _ _ _)
  | (with_reducible exact ih4 _ _ _ _ _ _ _ _ _ _ _ _ _)
  | (with_reducible exact fencepostlaw10_Great.mono _ _ _)
  | (with_reducible exact fencepostlaw10_Wide.mono _ _ _)
  | (with_reducible exact fencepostref10_Right.mono _ _ _ _ _)
  | (with_reducible exact LeO.refl _)
  | (with_reducible exact LeO.none _)
  | (with_reducible refine LeO.ite ?_ ?_)
  | (with_reducible refine LeO.bind ?_ (fun _ => ?_))
  | exact ih0 _ _ _ _ _ _ _ _
  | exact ih1 _ _ _ _ _ _ _ _ _ _ _ _ _ _
  | exact ih2 _ _ _ _ _ _ _ _ _ _ _ _ _
  | exact ih3 _ _ _ _ _ _ _ _ _ _ _ _ _ _
  | exact ih4 _ _ _ _ _ _ _ _ _ _ _ _ _
  | exact fencepostlaw10_Great.mono _ _ _
  | exact fencepostlaw10_Wide.mono _ _ _
  | exact fencepostref10_Right.mono _ _ _ _ _
  | exact LeO.none _
  | refine LeO.ite ?_ ?_
  | refine LeO.bind ?_ (fun _ => ?_)
def fencepostlaw10_ScReads.T7 : Bool × List (List Nat × List Nat) := (true, [([], []), ([0], [0]), ([], []), ([1, 2], [1, 2]), ([3], [3]), ([], []), ([5], [5]), ([], []), ([6, 7], [6, 7]), ([8], [8]), ([9], [9]), ([4, 10], [4, 10]), ([11], [11]), ([], []), ([13, 12, 0, 1, 2, 3, 4, 5, 6, 7, 8, 9, 10, 11, 12, 13], [12, 13])])
def fencepostlaw10_ScReads.B7 : List Nat := [0, 1, 0, 7, 15, 0, 32, 0, 224, 480, 992, 2047, 4095, 0, 16383]
theorem fencepostlaw10_ScReads.tab7 : rtab .any (opsOf Try.f6 7) = fencepostlaw10_ScReads.T7 := by kernel_rfl
theorem fencepostlaw10_ScReads.bits7 : waitsOk fencepostlaw10_ScReads.T7.2 fencepostlaw10_ScReads.B7 = true := by kernel_rfl
def fencepostlaw10_ScReads.T19 : Bool × List (List Nat × List Nat) := (true, [([], []), ([0], [0]), ([1], [1]), ([2, 1], [1, 2]), ([1], [1]), ([4, 1], [1, 4]), ([3, 5, 1], [1, 3, 5]), ([6, 1], [1, 6]), ([1], [1]), ([8, 1], [1, 8]), ([7, 9, 1], [1, 7, 9]), ([1, 10], [1, 10]), ([11, 1, 0, 1, 2, 3, 4, 5, 6, 7, 8, 9, 10, 11], [11])])
def fencepostlaw10_ScReads.B19 : List Nat := [0, 1, 3, 7, 3, 19, 63, 127, 3, 259, 1023, 2047, 4095]
theorem fencepostlaw10_ScReads.tab19 : rtab .any (opsOf Try.f6 19) = fencepostlaw10_ScReads.T19 := by kernel_rfl
theorem fencepostlaw10_ScReads.bits19 : waitsOk fencepostlaw10_ScReads.T19.2 fencepostlaw10_ScReads.B19 = true := by kernel_rfl
def fencepostlaw10_ScReads.T21 : Bool × List (List Nat × List Nat) := (true, [([], []), ([0], [0]), ([1], [1]), ([2, 1], [1, 2]), ([1], [1]), ([4, 1], [1, 4]), ([3, 5, 1], [1, 3, 5]), ([6, 1], [1, 6]), ([1], [1]), ([8, 1], [1, 8]), ([1], [1]), ([9, 10, 1], [1, 9, 10]), ([11, 1], [1, 11]), ([12, 1], [1, 12]), ([1], [1]), ([14, 1], [1, 14]), ([13, 15, 1], [1, 13, 15]), ([16, 1], [1, 16]), ([7, 17, 1], [1, 7, 17]), ([1, 18], [1, 18]), ([19, 1, 0, 1, 2, 3, 4, 5, 6, 7, 8, 9, 10, 11, 12, 13, 14, 15, 16, 17, 18, 19], [19])])
def fencepostlaw10_ScReads.B21 : List Nat := [0, 1, 3, 7, 3, 19, 63, 127, 3, 259, 3, 1795, 3843, 7939, 3, 16387, 65283, 130819, 262143, 524287, 1048575]
theorem fencepostlaw10_ScReads.tab21 : rtab .any (opsOf Try.f6 21) = fencepostlaw10_ScReads.T21 := by kernel_rfl
theorem fencepostlaw10_ScReads.bits21 : waitsOk fencepostlaw10_ScReads.T21.2 fencepostlaw10_ScReads.B21 = true := by kernel_rfl
def fencepostlaw10_ScReads.T22 : Bool × List (List Nat × List Nat) := (true, [([], []), ([0], [0]), ([1], [1]), ([2, 1], [1, 2]), ([3, 1], [1, 3]), ([4, 1, 1], [1, 4]), ([5], [5]), ([6, 5], [5, 6]), ([5], [5]), ([7, 8, 5], [5, 7, 8]), ([9, 5], [5, 9]), ([10, 5], [5, 10]), ([5], [5]), ([12, 5], [5, 12]), ([5], [5]), ([13, 14, 5], [5, 13, 14]), ([15, 5], [5, 15]), ([16, 5], [5, 16]), ([5], [5]), ([18, 5], [5, 18]), ([17, 19, 5], [5, 17, 19]), ([20, 5], [5, 20]), ([5], [5]), ([22, 5], [5, 22]), ([21, 23, 5], [5, 21, 23]), ([11, 24, 5], [5, 11, 24]), ([5, 25, 1], [1, 5, 25]), ([1, 26], [1, 26]), ([27, 5], [27]), ([28], [28]), ([29, 28], [28, 29]), ([30, 28], [28, 30]), ([31, 28, 28], [28, 31]), ([32], [32]), ([33, 32], [32, 33]), ([32], [32]), ([34, 35, 32], [32, 34, 35]), ([36, 32], [32, 36]), ([37, 32], [32, 37]), ([32], [32]), ([39, 32], [32, 39]), ([32], [32]), ([40, 41, 32], [32, 40, 41]), ([42, 32], [32, 42]), ([43, 32], [32, 43]), ([38, 44, 32], [32, 38, 44]), ([32, 45, 28], [28, 32, 45]), ([28, 46], [28, 46]), ([47, 32, 0, 1, 2, 3, 4, 5, 6, 7, 8, 9, 10, 11, 12, 13, 14, 15, 16, 17, 18, 19, 20, 21, 22, 23, 24, 25, 26, 27, 28, 29, 30, 31, 32, 33, 34, 35, 36, 37, 38, 39, 40, 41, 42, 43, 44, 45, 46, 47], [47])])
def fencepostlaw10_ScReads.B22 : List Nat := [0, 1, 3, 7, 15, 31, 63, 127, 63, 511, 1023, 2047, 63, 4159, 63, 28735, 61503, 127039, 63, 262207, 1044543, 2093119, 63, 4194367, 16773183, 33554431, 67108863, 134217727, 268435455, 536870911, 1073741823, 2147483647, 4294967295, 8589934591, 17179869183, 8589934591, 68719476735, 137438953471, 274877906943, 8589934591, 558345748479, 8589934591, 3856880631807, 8254927142911, 17051020165119, 35184372088831, 70368744177663, 140737488355327, 281474976710655]
theorem fencepostlaw10_ScReads.tab22 : rtab .any (opsOf Try.f6 22) = fencepostlaw10_ScReads.T22 := by kernel_rfl
theorem fencepostlaw10_ScReads.bits22 : waitsOk fencepostlaw10_ScReads.T22.2 fencepostlaw10_ScReads.B22 = true := by kernel_rfl
set_option maxHeartbeats 8000000 in
set_option maxRecDepth 100000 in
theorem fencepostlaw10_ScReads.calls (k : Nat) (A0_0 : Option Addr) (c0_0 : Nat) (l0_0 : List Int) (A0_1 : Option Addr) (c0_1 : Nat) (l0_1 : List (List (S39))) (A1_0 : Option Addr) (c1_0 : Nat) (l1_0 : List Int) (A1_1 : Option Addr) (c1_1 : Nat) (l1_1 : List (S45)) (a2 : Int) (a3 : Int) (r : Bool) (w : World) (hr0_0 : Kd.C (Kd.int .i64) w A0_0 l0_0.length l0_0) (hc0_0 : l0_0.length ≤ c0_0) (hr0_1 : Kd.C (Kd.slice 39 k39) w A0_1 l0_1.length l0_1) (hc0_1 : l0_1.length ≤ c0_1) (hr1_0 : Kd.C (Kd.int .i64) w A1_0 l1_0.length l1_0) (hc1_0 : l1_0.length ≤ c1_0) (hr1_1 : Kd.C k45 w A1_1 l1_1.length l1_1) (hc1_1 : l1_1.length ≤ c1_1) (ht_ : r = true) (h : fencepostlaw10_ScReads.f k l0_0 l0_1 l1_0 l1_1 a2 a3 = some r) :
 Calls Try.prog 6 #[.agg #[.slice A0_0 l0_0.length c0_0, .slice A0_1 l0_1.length c0_1], .agg #[.slice A1_0 l1_0.length c1_0, .slice A1_1 l1_1.length c1_1], .int .i64 a2, .int .u8 a3] w fun e w' => e = .returned (.bool r) ∧ Below w.heap.size w w' := by
 have hu25 := Try.underlying25
 have hu28 := Try.underlying28
 have hu39 := Try.underlying39
 have HR0_0 := Aside0.mk hr0_0
 have HC0_0 := Aside0.mk hc0_0
 clear hr0_0 hc0_0
 have HR0_1 := Aside0.mk hr0_1
 have HC0_1 := Aside0.mk hc0_1
 clear hr0_1 hc0_1
 have HR1_0 := Aside0.mk hr1_0
 have HC1_0 := Aside0.mk hc1_0
 clear hr1_0 hc1_0
 have HR1_1 := Aside0.mk hr1_1
 have HC1_1 := Aside0.mk hc1_1
 clear hr1_1 hc1_1
 have HB := Aside0.mk (Below.refl w.heap.size w)
 have HT := Aside0.mk ht_
 clear ht_
 have H : ((fencepostlaw10_head.f).bind fun t239 => ((fencepostlaw10_Great.f k l0_0 l0_1).bind fun t240 => (if t240 = true then (fencepostlaw10_ScReads.j0 k a2 a3 t239 true l0_0 l0_1 l1_0 l1_1) else ((fencepostlaw10_Wide.f k l1_0 l1_1).bind fun t241 => (if t241 = true then (fencepostlaw10_ScReads.j0 k a2 a3 t239 true l0_0 l0_1 l1_0 l1_1) else ((fencepostref10_Right.f k l0_0 l0_1 l1_0 l1_1).bind fun t242 => (fencepostlaw10_ScReads.j0 k a2 a3 t239 (!t242) l0_0 l0_1 l1_0 l1_1))))))) = some r := h
 clear h
 replace H := Option.bind_eq_some_iff.mp H
 obtain ⟨t239, A50, H⟩ := H
 replace H : ((fencepostlaw10_Great.f k l0_0 l0_1).bind fun t240 => (if t240 = true then (fencepostlaw10_ScReads.j0 k a2 a3 t239 true l0_0 l0_1 l1_0 l1_1) else ((fencepostlaw10_Wide.f k l1_0 l1_1).bind fun t241 => (if t241 = true then (fencepostlaw10_ScReads.j0 k a2 a3 t239 true l0_0 l0_1 l1_0 l1_1) else ((fencepostref10_Right.f k l0_0 l0_1 l1_0 l1_1).bind fun t242 => (fencepostlaw10_ScReads.j0 k a2 a3 t239 (!t242) l0_0 l0_1 l1_0 l1_1)))))) = some r := H
 have A5 := Aside0.mk A50
 clear A50
 have HC6 := Aside0.mk H
 clear H
 go_enter Try.func6, Try.ntmps6
 (try simp only [List.append_eq, List.cons_append, List.nil_append])
 go_upto_region 2 with (first | ((with_reducible refine gate_dst (N := 4) rfl ?_); refine box_event ?hg (N := 4) ?hd (cs := #[.slice A0_0 l0_0.length c0_0, .slice A0_1 l0_1.length c0_1]) (t := 25) ?hr ?_; (case hd => rfl); (case hg => rfl); (case hr => first | (go_simp; done) | (go_simp; rfl)); intro gb237 hg w7 hbox hb; have n0_ := Aside0.mk (below_step (by repeat (first | (with_reducible first | exact HB.out | apply below_alloc | apply pw_below_drewN | apply below_drew1) | exact HB.out)) hb); have n1_ := Aside0.mk (hbox); have n2_ := Aside0.mk ((by rw [hg]; exact (below_size (by repeat (first | (with_reducible first | exact HB.out | apply below_alloc | apply pw_below_drewN | apply below_drew1) | exact HB.out))) : w.heap.size ≤ gb237)); have n3_ := Aside0.mk ((by rw [hg]; exact (below_size (by repeat (first | (with_reducible first | exact HB.out | apply below_alloc | apply pw_below_drewN | apply below_drew1) | exact HB.out))) : w.heap.size ≤ gb237)); clear HB; have HB := n0_; have BK237 := n1_; have GW237 := n2_; have GE237 := n3_; clear n0_ n1_ n2_ n3_; clear hb hbox hg) | ((with_reducible refine gate_dst (N := 5) rfl ?_); refine box_event ?hg (N := 5) ?hd (cs := #[.slice A1_0 l1_0.length c1_0, .slice A1_1 l1_1.length c1_1]) (t := 28) ?hr ?_; (case hd => rfl); (case hg => rfl); (case hr => first | (go_simp; done) | (go_simp; rfl)); intro gb238 hg w8 hbox hb; have n0_ := Aside0.mk (blk_below (g := gb237) (o := .cells #[.slice A0_0 l0_0.length c0_0, .slice A0_1 l0_1.length c0_1] 25 (0, 0)) (by (with_reducible repeat (first | refine blk_drewN ?_ _ | refine blk_drew ?_ | refine blk_alloc ?_ _)); exact BK237.out) hb); have n1_ := Aside0.mk (below_step (by repeat (first | (with_reducible first | exact HB.out | apply below_alloc | apply pw_below_drewN | apply below_drew1 | refine below_set ?_ GE237.out) | exact HB.out)) hb); have n2_ := Aside0.mk (hbox); have n3_ := Aside0.mk ((by rw [hg]; exact (below_size (by repeat (first | (with_reducible first | exact HB.out | apply below_alloc | apply pw_below_drewN | apply below_drew1 | refine below_set ?_ GE237.out) | exact HB.out))) : w.heap.size ≤ gb238)); have n4_ := Aside0.mk ((by rw [hg]; exact (below_size (by repeat (first | (with_reducible first | exact HB.out | apply below_alloc | apply pw_below_drewN | apply below_drew1 | refine below_set ?_ GE237.out) | exact HB.out))) : w.heap.size ≤ gb238)); have n5_ := Aside0.mk ((by rw [hg]; exact Nat.ne_of_lt (blk_lt (g := gb237) (o := .cells #[.slice A0_0 l0_0.length c0_0, .slice A0_1 l0_1.length c0_1] 25 (0, 0)) (by (with_reducible repeat (first | refine blk_drewN ?_ _ | refine blk_drew ?_ | refine blk_alloc ?_ _)); exact BK237.out)) : gb237 ≠ gb238)); have n6_ := Aside0.mk ((by rw [hg]; exact Nat.ne_of_gt (blk_lt (g := gb237) (o := .cells #[.slice A0_0 l0_0.length c0_0, .slice A0_1 l0_1.length c0_1] 25 (0, 0)) (by (with_reducible repeat (first | refine blk_drewN ?_ _ | refine blk_drew ?_ | refine blk_alloc ?_ _)); exact BK237.out)) : gb238 ≠ gb237)); clear BK237; clear HB; have BK237 := n0_; have HB := n1_; have BK238 := n2_; have GW238 := n3_; have GE238 := n4_; have NB237_238 := n5_; have NB238_237 := n6_; clear n0_ n1_ n2_ n3_ n4_ n5_ n6_; clear hb hbox hg) | ((with_reducible refine gate_callee (f := 9) rfl ?_); refine goesL_ (some 15) rfl rfl Try.func9 (by kernel_rfl) rfl #[] rfl (by (try simp only [List.map_toArray, List.map_cons, List.map_nil]); first | done | rfl | (simp only [List.length_drop, List.length_take]; rfl)) ?_; (with_reducible refine (fencepostlaw10_head.calls  t239 _ A5.out).mono ?_); rintro e w9 ⟨rfl, hb⟩; refine ⟨_, rfl, ?_⟩; have n0_ := Aside0.mk (blk_below (g := gb237) (o := .cells #[.slice A0_0 l0_0.length c0_0, .slice A0_1 l0_1.length c0_1] 25 (0, 0)) (by (with_reducible repeat (first | refine blk_drewN ?_ _ | refine blk_drew ?_ | refine blk_alloc ?_ _)); exact BK237.out) hb); have n1_ := Aside0.mk (blk_below (g := gb238) (o := .cells #[.slice A1_0 l1_0.length c1_0, .slice A1_1 l1_1.length c1_1] 28 (0, 0)) (by (with_reducible repeat (first | refine blk_drewN ?_ _ | refine blk_drew ?_ | refine blk_alloc ?_ _)); exact BK238.out) hb); have n2_ := Aside0.mk (below_step (by repeat (first | (with_reducible first | exact HB.out | apply below_alloc | apply pw_below_drewN | apply below_drew1 | refine below_set ?_ GE237.out | refine below_set ?_ GE238.out) | exact HB.out)) hb); clear BK237; clear BK238; clear HB; have BK237 := n0_; have BK238 := n1_; have HB := n2_; clear n0_ n1_ n2_; (try clear hb); (try clear hb2); (try clear hk); (try clear hi)))
 (try simp only [Act.put, List.setIfInBounds_toArray, List.set_cons_zero, List.set_cons_succ])
 go_cut [27] (fun v27 wc => ∃ (kq : Nat) (x27_5 : Bool), v27 = .bool x27_5 ∧ Aside0 (fencepostlaw10_ScReads.j0 kq a2 a3 t239 x27_5 l0_0 l0_1 l1_0 l1_1 = some r) ∧ Aside0 (kq ≤ k) ∧ Aside0 (wc.heap[gb237]? = some (.cells #[(.slice A0_0 l0_0.length c0_0), (.slice A0_1 l0_1.length c0_1)] 25 (0, 0))) ∧ Aside0 (wc.heap[gb238]? = some (.cells #[(.slice A1_0 l1_0.length c1_0), (.slice A1_1 l1_1.length c1_1)] 28 (0, 0))) ∧ Aside0 (Below w.heap.size w wc))
 case first =>
  have H := HC6.out
  clear HC6
  replace H := Option.bind_eq_some_iff.mp H
  obtain ⟨t240, A100, H⟩ := H
  replace H : (if t240 = true then (fencepostlaw10_ScReads.j0 k a2 a3 t239 true l0_0 l0_1 l1_0 l1_1) else ((fencepostlaw10_Wide.f k l1_0 l1_1).bind fun t241 => (if t241 = true then (fencepostlaw10_ScReads.j0 k a2 a3 t239 true l0_0 l0_1 l1_0 l1_1) else ((fencepostref10_Right.f k l0_0 l0_1 l1_0 l1_1).bind fun t242 => (fencepostlaw10_ScReads.j0 k a2 a3 t239 (!t242) l0_0 l0_1 l1_0 l1_1))))) = some r := H
  have A10 := Aside0.mk A100
  clear A100
  by_cases c11 : t240 = true
  ·subst c11
   have H1 : (fencepostlaw10_ScReads.j0 k a2 a3 t239 true l0_0 l0_1 l1_0 l1_1) = some r := by rw [if_pos rfl] at H; exact H
   clear H
   have H := H1
   clear H1
   have H' := Aside0.mk H
   clear H
   have hnb12 := NB237_238.out
   have hnc12 := NB238_237.out
   have hcz13_0 : w9.cell? ⟨gb237, 0, none⟩ = some (.slice A0_0 l0_0.length c0_0) := (blk_cell BK237.out 0).trans rfl
   have hcz13_1 : w9.cell? ⟨gb237, 1, none⟩ = some (.slice A0_1 l0_1.length c0_1) := (blk_cell BK237.out 1).trans rfl
   have hfz13_0 := blk_frozen BK237.out 0
   have hfz13_1 := blk_frozen BK237.out 1
   go_wp2_with (first | ((with_reducible refine gate_callee (f := 10) rfl ?_); refine goesL_ (some 17) rfl rfl Try.func10 (by kernel_rfl) rfl #[.agg #[.slice A0_0 l0_0.length c0_0, .slice A0_1 l0_1.length c0_1]] rfl (by (try simp only [List.map_toArray, List.map_cons, List.map_nil]); first | done | rfl | (simp only [List.length_drop, List.length_take]; rfl)) ?_; (with_reducible refine (fencepostlaw10_Great.calls k _ _ l0_0 _ _ l0_1 true _ ?side1 ?side2 ?side3 ?side4 A10.out).mono ?_); (case side1 => repeat (first | exact (Kd.C_below HR0_0.out HB.out) | (with_reducible refine Kd.C_alloc ?_ _) | (with_reducible refine Kd.C_drewN ?_ _) | (with_reducible refine Kd.C_drew ?_))); (case side2 => exact HC0_0.out); (case side3 => repeat (first | exact (Kd.C_below HR0_1.out HB.out) | (with_reducible refine Kd.C_alloc ?_ _) | (with_reducible refine Kd.C_drewN ?_ _) | (with_reducible refine Kd.C_drew ?_))); (case side4 => exact HC0_1.out); rintro e w14 ⟨rfl, hb⟩; refine ⟨_, rfl, ?_⟩; have n0_ := Aside0.mk (blk_below (g := gb237) (o := .cells #[.slice A0_0 l0_0.length c0_0, .slice A0_1 l0_1.length c0_1] 25 (0, 0)) (by (with_reducible repeat (first | refine blk_drewN ?_ _ | refine blk_drew ?_ | refine blk_alloc ?_ _)); exact BK237.out) hb); have n1_ := Aside0.mk (blk_below (g := gb238) (o := .cells #[.slice A1_0 l1_0.length c1_0, .slice A1_1 l1_1.length c1_1] 28 (0, 0)) (by (with_reducible repeat (first | refine blk_drewN ?_ _ | refine blk_drew ?_ | refine blk_alloc ?_ _)); exact BK238.out) hb); have n2_ := Aside0.mk (below_step (by repeat (first | (with_reducible first | exact HB.out | apply below_alloc | apply pw_below_drewN | apply below_drew1 | refine below_set ?_ GE237.out | refine below_set ?_ GE238.out) | exact HB.out)) hb); clear BK237; clear BK238; clear HB; have BK237 := n0_; have BK238 := n1_; have HB := n2_; clear n0_ n1_ n2_; (try clear hb); (try clear hb2); (try clear hk); (try clear hi)))
   go_meet
   case rel => exact ⟨_, (true), (by first | rfl | (simp; done) | (simp [*]; done)), H', ⟨by first | omega | exact Nat.le_refl _⟩, ⟨by (with_reducible repeat (first | refine blk_drewN ?_ _ | refine blk_drew ?_ | refine blk_alloc ?_ _)); exact BK237.out⟩, ⟨by (with_reducible repeat (first | refine blk_drewN ?_ _ | refine blk_drew ?_ | refine blk_alloc ?_ _)); exact BK238.out⟩, ⟨by repeat (first | (with_reducible first | exact HB.out | apply below_alloc | apply pw_below_drewN | apply below_drew1 | refine below_set ?_ GE237.out | refine below_set ?_ GE238.out) | exact HB.out)⟩⟩
  replace c11 := Bool.eq_false_iff.mpr c11
  subst c11
  have H1 : ((fencepostlaw10_Wide.f k l1_0 l1_1).bind fun t241 => (if t241 = true then (fencepostlaw10_ScReads.j0 k a2 a3 t239 true l0_0 l0_1 l1_0 l1_1) else ((fencepostref10_Right.f k l0_0 l0_1 l1_0 l1_1).bind fun t242 => (fencepostlaw10_ScReads.j0 k a2 a3 t239 (!t242) l0_0 l0_1 l1_0 l1_1)))) = some r := by rw [if_neg (show ¬ (false = true) by decide)] at H; exact H
  clear H
  have H := H1
  clear H1
  replace H := Option.bind_eq_some_iff.mp H
  obtain ⟨t241, A150, H⟩ := H
  replace H : (if t241 = true then (fencepostlaw10_ScReads.j0 k a2 a3 t239 true l0_0 l0_1 l1_0 l1_1) else ((fencepostref10_Right.f k l0_0 l0_1 l1_0 l1_1).bind fun t242 => (fencepostlaw10_ScReads.j0 k a2 a3 t239 (!t242) l0_0 l0_1 l1_0 l1_1))) = some r := H
  have A15 := Aside0.mk A150
  clear A150
  by_cases c16 : t241 = true
  ·subst c16
   have H1 : (fencepostlaw10_ScReads.j0 k a2 a3 t239 true l0_0 l0_1 l1_0 l1_1) = some r := by rw [if_pos rfl] at H; exact H
   clear H
   have H := H1
   clear H1
   have H' := Aside0.mk H
   clear H
   have hnb17 := NB237_238.out
   have hnc17 := NB238_237.out
   have hcz18_0 : w9.cell? ⟨gb237, 0, none⟩ = some (.slice A0_0 l0_0.length c0_0) := (blk_cell BK237.out 0).trans rfl
   have hcz18_1 : w9.cell? ⟨gb237, 1, none⟩ = some (.slice A0_1 l0_1.length c0_1) := (blk_cell BK237.out 1).trans rfl
   have hfz18_0 := blk_frozen BK237.out 0
   have hfz18_1 := blk_frozen BK237.out 1
   go_wp2_with (first | ((with_reducible refine gate_callee (f := 10) rfl ?_); refine goesL_ (some 17) rfl rfl Try.func10 (by kernel_rfl) rfl #[.agg #[.slice A0_0 l0_0.length c0_0, .slice A0_1 l0_1.length c0_1]] rfl (by (try simp only [List.map_toArray, List.map_cons, List.map_nil]); first | done | rfl | (simp only [List.length_drop, List.length_take]; rfl)) ?_; (with_reducible refine (fencepostlaw10_Great.calls k _ _ l0_0 _ _ l0_1 false _ ?side1 ?side2 ?side3 ?side4 A10.out).mono ?_); (case side1 => repeat (first | exact (Kd.C_below HR0_0.out HB.out) | (with_reducible refine Kd.C_alloc ?_ _) | (with_reducible refine Kd.C_drewN ?_ _) | (with_reducible refine Kd.C_drew ?_))); (case side2 => exact HC0_0.out); (case side3 => repeat (first | exact (Kd.C_below HR0_1.out HB.out) | (with_reducible refine Kd.C_alloc ?_ _) | (with_reducible refine Kd.C_drewN ?_ _) | (with_reducible refine Kd.C_drew ?_))); (case side4 => exact HC0_1.out); rintro e w19 ⟨rfl, hb⟩; refine ⟨_, rfl, ?_⟩; have n0_ := Aside0.mk (blk_below (g := gb237) (o := .cells #[.slice A0_0 l0_0.length c0_0, .slice A0_1 l0_1.length c0_1] 25 (0, 0)) (by (with_reducible repeat (first | refine blk_drewN ?_ _ | refine blk_drew ?_ | refine blk_alloc ?_ _)); exact BK237.out) hb); have n1_ := Aside0.mk (blk_below (g := gb238) (o := .cells #[.slice A1_0 l1_0.length c1_0, .slice A1_1 l1_1.length c1_1] 28 (0, 0)) (by (with_reducible repeat (first | refine blk_drewN ?_ _ | refine blk_drew ?_ | refine blk_alloc ?_ _)); exact BK238.out) hb); have n2_ := Aside0.mk (below_step (by repeat (first | (with_reducible first | exact HB.out | apply below_alloc | apply pw_below_drewN | apply below_drew1 | refine below_set ?_ GE237.out | refine below_set ?_ GE238.out) | exact HB.out)) hb); clear BK237; clear BK238; clear HB; have BK237 := n0_; have BK238 := n1_; have HB := n2_; clear n0_ n1_ n2_; (try clear hb); (try clear hb2); (try clear hk); (try clear hi); have hcz20_0 : w19.cell? ⟨gb238, 0, none⟩ = some (.slice A1_0 l1_0.length c1_0) := (blk_cell BK238.out 0).trans rfl; have hcz20_1 : w19.cell? ⟨gb238, 1, none⟩ = some (.slice A1_1 l1_1.length c1_1) := (blk_cell BK238.out 1).trans rfl; have hfz20_0 := blk_frozen BK238.out 0; have hfz20_1 := blk_frozen BK238.out 1) | (go_at_call 11; (with_reducible refine (fencepostlaw10_Wide.calls k _ _ l1_0 _ _ l1_1 true _ ?side1 ?side2 ?side3 ?side4 A15.out).mono ?_); (case side1 => repeat (first | exact (Kd.C_below HR1_0.out HB.out) | (with_reducible refine Kd.C_alloc ?_ _) | (with_reducible refine Kd.C_drewN ?_ _) | (with_reducible refine Kd.C_drew ?_))); (case side2 => exact HC1_0.out); (case side3 => repeat (first | exact (Kd.C_below HR1_1.out HB.out) | (with_reducible refine Kd.C_alloc ?_ _) | (with_reducible refine Kd.C_drewN ?_ _) | (with_reducible refine Kd.C_drew ?_))); (case side4 => exact HC1_1.out); rintro e w21 ⟨rfl, hb⟩; have n0_ := Aside0.mk (blk_below (g := gb237) (o := .cells #[.slice A0_0 l0_0.length c0_0, .slice A0_1 l0_1.length c0_1] 25 (0, 0)) (by (with_reducible repeat (first | refine blk_drewN ?_ _ | refine blk_drew ?_ | refine blk_alloc ?_ _)); exact BK237.out) hb); have n1_ := Aside0.mk (blk_below (g := gb238) (o := .cells #[.slice A1_0 l1_0.length c1_0, .slice A1_1 l1_1.length c1_1] 28 (0, 0)) (by (with_reducible repeat (first | refine blk_drewN ?_ _ | refine blk_drew ?_ | refine blk_alloc ?_ _)); exact BK238.out) hb); have n2_ := Aside0.mk (below_step (by repeat (first | (with_reducible first | exact HB.out | apply below_alloc | apply pw_below_drewN | apply below_drew1 | refine below_set ?_ GE237.out | refine below_set ?_ GE238.out) | exact HB.out)) hb); clear BK237; clear BK238; clear HB; have BK237 := n0_; have BK238 := n1_; have HB := n2_; clear n0_ n1_ n2_; (try clear hb); (try clear hb2); (try clear hk); (try clear hi)))
   go_meet
   case rel => exact ⟨_, (true), (by first | rfl | (simp; done) | (simp [*]; done)), H', ⟨by first | omega | exact Nat.le_refl _⟩, ⟨by (with_reducible repeat (first | refine blk_drewN ?_ _ | refine blk_drew ?_ | refine blk_alloc ?_ _)); exact BK237.out⟩, ⟨by (with_reducible repeat (first | refine blk_drewN ?_ _ | refine blk_drew ?_ | refine blk_alloc ?_ _)); exact BK238.out⟩, ⟨by repeat (first | (with_reducible first | exact HB.out | apply below_alloc | apply pw_below_drewN | apply below_drew1 | refine below_set ?_ GE237.out | refine below_set ?_ GE238.out) | exact HB.out)⟩⟩
  replace c16 := Bool.eq_false_iff.mpr c16
  subst c16
  have H1 : ((fencepostref10_Right.f k l0_0 l0_1 l1_0 l1_1).bind fun t242 => (fencepostlaw10_ScReads.j0 k a2 a3 t239 (!t242) l0_0 l0_1 l1_0 l1_1)) = some r := by rw [if_neg (show ¬ (false = true) by decide)] at H; exact H
  clear H
  have H := H1
  clear H1
  replace H := Option.bind_eq_some_iff.mp H
  obtain ⟨t242, A220, H⟩ := H
  replace H : (fencepostlaw10_ScReads.j0 k a2 a3 t239 (!t242) l0_0 l0_1 l1_0 l1_1) = some r := H
  have A22 := Aside0.mk A220
  clear A220
  have H' := Aside0.mk H
  clear H
  have hnb23 := NB237_238.out
  have hnc23 := NB238_237.out
  have hcz24_0 : w9.cell? ⟨gb237, 0, none⟩ = some (.slice A0_0 l0_0.length c0_0) := (blk_cell BK237.out 0).trans rfl
  have hcz24_1 : w9.cell? ⟨gb237, 1, none⟩ = some (.slice A0_1 l0_1.length c0_1) := (blk_cell BK237.out 1).trans rfl
  have hfz24_0 := blk_frozen BK237.out 0
  have hfz24_1 := blk_frozen BK237.out 1
  go_wp2_with (first | ((with_reducible refine gate_callee (f := 10) rfl ?_); refine goesL_ (some 17) rfl rfl Try.func10 (by kernel_rfl) rfl #[.agg #[.slice A0_0 l0_0.length c0_0, .slice A0_1 l0_1.length c0_1]] rfl (by (try simp only [List.map_toArray, List.map_cons, List.map_nil]); first | done | rfl | (simp only [List.length_drop, List.length_take]; rfl)) ?_; (with_reducible refine (fencepostlaw10_Great.calls k _ _ l0_0 _ _ l0_1 false _ ?side1 ?side2 ?side3 ?side4 A10.out).mono ?_); (case side1 => repeat (first | exact (Kd.C_below HR0_0.out HB.out) | (with_reducible refine Kd.C_alloc ?_ _) | (with_reducible refine Kd.C_drewN ?_ _) | (with_reducible refine Kd.C_drew ?_))); (case side2 => exact HC0_0.out); (case side3 => repeat (first | exact (Kd.C_below HR0_1.out HB.out) | (with_reducible refine Kd.C_alloc ?_ _) | (with_reducible refine Kd.C_drewN ?_ _) | (with_reducible refine Kd.C_drew ?_))); (case side4 => exact HC0_1.out); rintro e w25 ⟨rfl, hb⟩; refine ⟨_, rfl, ?_⟩; have n0_ := Aside0.mk (blk_below (g := gb237) (o := .cells #[.slice A0_0 l0_0.length c0_0, .slice A0_1 l0_1.length c0_1] 25 (0, 0)) (by (with_reducible repeat (first | refine blk_drewN ?_ _ | refine blk_drew ?_ | refine blk_alloc ?_ _)); exact BK237.out) hb); have n1_ := Aside0.mk (blk_below (g := gb238) (o := .cells #[.slice A1_0 l1_0.length c1_0, .slice A1_1 l1_1.length c1_1] 28 (0, 0)) (by (with_reducible repeat (first | refine blk_drewN ?_ _ | refine blk_drew ?_ | refine blk_alloc ?_ _)); exact BK238.out) hb); have n2_ := Aside0.mk (below_step (by repeat (first | (with_reducible first | exact HB.out | apply below_alloc | apply pw_below_drewN | apply below_drew1 | refine below_set ?_ GE237.out | refine below_set ?_ GE238.out) | exact HB.out)) hb); clear BK237; clear BK238; clear HB; have BK237 := n0_; have BK238 := n1_; have HB := n2_; clear n0_ n1_ n2_; (try clear hb); (try clear hb2); (try clear hk); (try clear hi); have hcz26_0 : w25.cell? ⟨gb238, 0, none⟩ = some (.slice A1_0 l1_0.length c1_0) := (blk_cell BK238.out 0).trans rfl; have hcz26_1 : w25.cell? ⟨gb238, 1, none⟩ = some (.slice A1_1 l1_1.length c1_1) := (blk_cell BK238.out 1).trans rfl; have hfz26_0 := blk_frozen BK238.out 0; have hfz26_1 := blk_frozen BK238.out 1) | (go_at_call 11; (with_reducible refine (fencepostlaw10_Wide.calls k _ _ l1_0 _ _ l1_1 false _ ?side1 ?side2 ?side3 ?side4 A15.out).mono ?_); (case side1 => repeat (first | exact (Kd.C_below HR1_0.out HB.out) | (with_reducible refine Kd.C_alloc ?_ _) | (with_reducible refine Kd.C_drewN ?_ _) | (with_reducible refine Kd.C_drew ?_))); (case side2 => exact HC1_0.out); (case side3 => repeat (first | exact (Kd.C_below HR1_1.out HB.out) | (with_reducible refine Kd.C_alloc ?_ _) | (with_reducible refine Kd.C_drewN ?_ _) | (with_reducible refine Kd.C_drew ?_))); (case side4 => exact HC1_1.out); rintro e w27 ⟨rfl, hb⟩; have n0_ := Aside0.mk (blk_below (g := gb237) (o := .cells #[.slice A0_0 l0_0.length c0_0, .slice A0_1 l0_1.length c0_1] 25 (0, 0)) (by (with_reducible repeat (first | refine blk_drewN ?_ _ | refine blk_drew ?_ | refine blk_alloc ?_ _)); exact BK237.out) hb); have n1_ := Aside0.mk (blk_below (g := gb238) (o := .cells #[.slice A1_0 l1_0.length c1_0, .slice A1_1 l1_1.length c1_1] 28 (0, 0)) (by (with_reducible repeat (first | refine blk_drewN ?_ _ | refine blk_drew ?_ | refine blk_alloc ?_ _)); exact BK238.out) hb); have n2_ := Aside0.mk (below_step (by repeat (first | (with_reducible first | exact HB.out | apply below_alloc | apply pw_below_drewN | apply below_drew1 | refine below_set ?_ GE237.out | refine below_set ?_ GE238.out) | exact HB.out)) hb); clear BK237; clear BK238; clear HB; have BK237 := n0_; have BK238 := n1_; have HB := n2_; clear n0_ n1_ n2_; (try clear hb); (try clear hb2); (try clear hk); (try clear hi); have hcz28_0 : w27.cell? ⟨gb237, 0, none⟩ = some (.slice A0_0 l0_0.length c0_0) := (blk_cell BK237.out 0).trans rfl; have hcz28_1 : w27.cell? ⟨gb237, 1, none⟩ = some (.slice A0_1 l0_1.length c0_1) := (blk_cell BK237.out 1).trans rfl; have hfz28_0 := blk_frozen BK237.out 0; have hfz28_1 := blk_frozen BK237.out 1; have hcz29_0 : w27.cell? ⟨gb238, 0, none⟩ = some (.slice A1_0 l1_0.length c1_0) := (blk_cell BK238.out 0).trans rfl; have hcz29_1 : w27.cell? ⟨gb238, 1, none⟩ = some (.slice A1_1 l1_1.length c1_1) := (blk_cell BK238.out 1).trans rfl; have hfz29_0 := blk_frozen BK238.out 0; have hfz29_1 := blk_frozen BK238.out 1) | (go_at_call 13; (with_reducible refine (fencepostref10_Right.calls k _ _ l0_0 _ _ l0_1 _ _ l1_0 _ _ l1_1 t242 _ ?side1 ?side2 ?side3 ?side4 ?side5 ?side6 ?side7 ?side8 A22.out).mono ?_); (case side1 => repeat (first | exact (Kd.C_below HR0_0.out HB.out) | (with_reducible refine Kd.C_alloc ?_ _) | (with_reducible refine Kd.C_drewN ?_ _) | (with_reducible refine Kd.C_drew ?_))); (case side2 => exact HC0_0.out); (case side3 => repeat (first | exact (Kd.C_below HR0_1.out HB.out) | (with_reducible refine Kd.C_alloc ?_ _) | (with_reducible refine Kd.C_drewN ?_ _) | (with_reducible refine Kd.C_drew ?_))); (case side4 => exact HC0_1.out); (case side5 => repeat (first | exact (Kd.C_below HR1_0.out HB.out) | (with_reducible refine Kd.C_alloc ?_ _) | (with_reducible refine Kd.C_drewN ?_ _) | (with_reducible refine Kd.C_drew ?_))); (case side6 => exact HC1_0.out); (case side7 => repeat (first | exact (Kd.C_below HR1_1.out HB.out) | (with_reducible refine Kd.C_alloc ?_ _) | (with_reducible refine Kd.C_drewN ?_ _) | (with_reducible refine Kd.C_drew ?_))); (case side8 => exact HC1_1.out); rintro e w30 ⟨rfl, hb⟩; have n0_ := Aside0.mk (blk_below (g := gb237) (o := .cells #[.slice A0_0 l0_0.length c0_0, .slice A0_1 l0_1.length c0_1] 25 (0, 0)) (by (with_reducible repeat (first | refine blk_drewN ?_ _ | refine blk_drew ?_ | refine blk_alloc ?_ _)); exact BK237.out) hb); have n1_ := Aside0.mk (blk_below (g := gb238) (o := .cells #[.slice A1_0 l1_0.length c1_0, .slice A1_1 l1_1.length c1_1] 28 (0, 0)) (by (with_reducible repeat (first | refine blk_drewN ?_ _ | refine blk_drew ?_ | refine blk_alloc ?_ _)); exact BK238.out) hb); have n2_ := Aside0.mk (below_step (by repeat (first | (with_reducible first | exact HB.out | apply below_alloc | apply pw_below_drewN | apply below_drew1 | refine below_set ?_ GE237.out | refine below_set ?_ GE238.out) | exact HB.out)) hb); clear BK237; clear BK238; clear HB; have BK237 := n0_; have BK238 := n1_; have HB := n2_; clear n0_ n1_ n2_; (try clear hb); (try clear hb2); (try clear hk); (try clear hi)))
  go_meet
  case rel => exact ⟨_, (!t242), (by first | rfl | (simp; done) | (simp [*]; done)), H', ⟨by first | omega | exact Nat.le_refl _⟩, ⟨by (with_reducible repeat (first | refine blk_drewN ?_ _ | refine blk_drew ?_ | refine blk_alloc ?_ _)); exact BK237.out⟩, ⟨by (with_reducible repeat (first | refine blk_drewN ?_ _ | refine blk_drew ?_ | refine blk_alloc ?_ _)); exact BK238.out⟩, ⟨by repeat (first | (with_reducible first | exact HB.out | apply below_alloc | apply pw_below_drewN | apply below_drew1 | refine below_set ?_ GE237.out | refine below_set ?_ GE238.out) | exact HB.out)⟩⟩
 case rest => as_aux_lemma =>
  clear HC6
  obtain ⟨kq, x27_5, rfl, HA, HJ5, BK237, BK238, HB⟩ := hcut
  cases kq with
  | zero => exact absurd HA.out (by simp [fencepostlaw10_ScReads.j0])
  | succ kj5 => ?_
  have H := HA.out
  clear HA
  simp only [fencepostlaw10_ScReads.j0] at H
  by_cases c31 : x27_5 = true
  ·subst c31
   have H1 : (some t239) = some r := by rw [if_pos rfl] at H; exact H
   clear H
   have H := H1
   clear H1
   obtain rfl := Option.some.inj H
   go_wp2
   go_ret
   exact ⟨by first | rfl | (simp [errW_none, errW_some] <;> rfl) | (simp [*, errW_none, errW_some] <;> rfl), by repeat (first | (with_reducible first | exact HB.out | apply below_alloc | apply pw_below_drewN | apply below_drew1 | refine below_set ?_ GE237.out | refine below_set ?_ GE238.out) | exact HB.out)⟩
  replace c31 := Bool.eq_false_iff.mpr c31
  subst c31
  have H1 : ((sc_Step.f l0_0 l0_1 l1_0 l1_1 a2).bind fun bt243 => (if bt243.2.2 = true then (if 0 ≤ a2 then (if a2 < (l0_1.length : Int) then (if a2 < (l1_1.length : Int) then (if 0 ≤ ((rd_T45 l1_1 a2).f0) then (if ((rd_T45 l1_1 a2).f0) < ((rd_L3 l0_1 a2).length : Int) then ((fencepostref10_Right.f kj5 l0_0 l0_1 bt243.1 bt243.2.1).bind fun t255 => (if t255 = true then (if 0 ≤ (Int.tmod (wrap64 (a3)) 4) then (if (Int.tmod (wrap64 (a3)) 4) < (((rd_T45 l1_1 a2).f1).length : Int) then (if (Int.tmod (wrap64 (a3)) 4) = ((rd_T39 (rd_L3 l0_1 a2) ((rd_T45 l1_1 a2).f0)).f1) then (fencepostlaw10_ScReads.j1 kj5 a2 t239 (Int.tmod (wrap64 (a3)) 4) (rd ((rd_T45 l1_1 a2).f1) (Int.tmod (wrap64 (a3)) 4)) (((rd_T39 (rd_L3 l0_1 a2) ((rd_T45 l1_1 a2).f0)).f0) == 1) l1_0 l1_1 bt243.1 bt243.2.1 ((rd_T39 (rd_L3 l0_1 a2) ((rd_T45 l1_1 a2).f0)).f0) ((rd_T39 (rd_L3 l0_1 a2) ((rd_T45 l1_1 a2).f0)).f1) ((rd_T39 (rd_L3 l0_1 a2) ((rd_T45 l1_1 a2).f0)).f2) ((rd_T39 (rd_L3 l0_1 a2) ((rd_T45 l1_1 a2).f0)).f3) ((rd_T39 (rd_L3 l0_1 a2) ((rd_T45 l1_1 a2).f0)).f4)) else (fencepostlaw10_ScReads.j1 kj5 a2 t239 (Int.tmod (wrap64 (a3)) 4) (rd ((rd_T45 l1_1 a2).f1) (Int.tmod (wrap64 (a3)) 4)) false l1_0 l1_1 bt243.1 bt243.2.1 ((rd_T39 (rd_L3 l0_1 a2) ((rd_T45 l1_1 a2).f0)).f0) ((rd_T39 (rd_L3 l0_1 a2) ((rd_T45 l1_1 a2).f0)).f1) ((rd_T39 (rd_L3 l0_1 a2) ((rd_T45 l1_1 a2).f0)).f2) ((rd_T39 (rd_L3 l0_1 a2) ((rd_T45 l1_1 a2).f0)).f3) ((rd_T39 (rd_L3 l0_1 a2) ((rd_T45 l1_1 a2).f0)).f4))) else (none)) else (none)) else (some false))) else (none)) else (none)) else (none)) else (none)) else (none)) else (some t239))) = some r := by rw [if_neg (show ¬ (false = true) by decide)] at H; exact H
  clear H
  have H := H1
  clear H1
  replace H := Option.bind_eq_some_iff.mp H
  obtain ⟨⟨t243, t246, t249⟩, A320, H⟩ := H
  replace H : (if t249 = true then (if 0 ≤ a2 then (if a2 < (l0_1.length : Int) then (if a2 < (l1_1.length : Int) then (if 0 ≤ ((rd_T45 l1_1 a2).f0) then (if ((rd_T45 l1_1 a2).f0) < ((rd_L3 l0_1 a2).length : Int) then ((fencepostref10_Right.f kj5 l0_0 l0_1 t243 t246).bind fun t255 => (if t255 = true then (if 0 ≤ (Int.tmod (wrap64 (a3)) 4) then (if (Int.tmod (wrap64 (a3)) 4) < (((rd_T45 l1_1 a2).f1).length : Int) then (if (Int.tmod (wrap64 (a3)) 4) = ((rd_T39 (rd_L3 l0_1 a2) ((rd_T45 l1_1 a2).f0)).f1) then (fencepostlaw10_ScReads.j1 kj5 a2 t239 (Int.tmod (wrap64 (a3)) 4) (rd ((rd_T45 l1_1 a2).f1) (Int.tmod (wrap64 (a3)) 4)) (((rd_T39 (rd_L3 l0_1 a2) ((rd_T45 l1_1 a2).f0)).f0) == 1) l1_0 l1_1 t243 t246 ((rd_T39 (rd_L3 l0_1 a2) ((rd_T45 l1_1 a2).f0)).f0) ((rd_T39 (rd_L3 l0_1 a2) ((rd_T45 l1_1 a2).f0)).f1) ((rd_T39 (rd_L3 l0_1 a2) ((rd_T45 l1_1 a2).f0)).f2) ((rd_T39 (rd_L3 l0_1 a2) ((rd_T45 l1_1 a2).f0)).f3) ((rd_T39 (rd_L3 l0_1 a2) ((rd_T45 l1_1 a2).f0)).f4)) else (fencepostlaw10_ScReads.j1 kj5 a2 t239 (Int.tmod (wrap64 (a3)) 4) (rd ((rd_T45 l1_1 a2).f1) (Int.tmod (wrap64 (a3)) 4)) false l1_0 l1_1 t243 t246 ((rd_T39 (rd_L3 l0_1 a2) ((rd_T45 l1_1 a2).f0)).f0) ((rd_T39 (rd_L3 l0_1 a2) ((rd_T45 l1_1 a2).f0)).f1) ((rd_T39 (rd_L3 l0_1 a2) ((rd_T45 l1_1 a2).f0)).f2) ((rd_T39 (rd_L3 l0_1 a2) ((rd_T45 l1_1 a2).f0)).f3) ((rd_T39 (rd_L3 l0_1 a2) ((rd_T45 l1_1 a2).f0)).f4))) else (none)) else (none)) else (some false))) else (none)) else (none)) else (none)) else (none)) else (none)) else (some t239)) = some r := H
  have A32 := Aside0.mk A320
  clear A320
  by_cases c33 : t249 = true
  rotate_left
  ·replace c33 := Bool.eq_false_iff.mpr c33
   subst c33
   have H1 : (some t239) = some r := by rw [if_neg (show ¬ (false = true) by decide)] at H; exact H
   clear H
   have H := H1
   clear H1
   obtain rfl := Option.some.inj H
   have hnb181 := NB237_238.out
   have hnc181 := NB238_237.out
   have hcz182_0 : wc.cell? ⟨gb237, 0, none⟩ = some (.slice A0_0 l0_0.length c0_0) := (blk_cell BK237.out 0).trans rfl
   have hcz182_1 : wc.cell? ⟨gb237, 1, none⟩ = some (.slice A0_1 l0_1.length c0_1) := (blk_cell BK237.out 1).trans rfl
   have hfz182_0 := blk_frozen BK237.out 0
   have hfz182_1 := blk_frozen BK237.out 1
   have hcz183_0 : wc.cell? ⟨gb238, 0, none⟩ = some (.slice A1_0 l1_0.length c1_0) := (blk_cell BK238.out 0).trans rfl
   have hcz183_1 : wc.cell? ⟨gb238, 1, none⟩ = some (.slice A1_1 l1_1.length c1_1) := (blk_cell BK238.out 1).trans rfl
   have hfz183_0 := blk_frozen BK238.out 0
   have hfz183_1 := blk_frozen BK238.out 1
   go_wp2_with (first | ((with_reducible refine gate_callee (f := 17) rfl ?_); refine goesL_ (some 33) rfl rfl Try.func17 (by kernel_rfl) rfl #[.agg #[.slice A0_0 l0_0.length c0_0, .slice A0_1 l0_1.length c0_1], .agg #[.slice A1_0 l1_0.length c1_0, .slice A1_1 l1_1.length c1_1], .int .i64 a2] rfl (by (try simp only [List.map_toArray, List.map_cons, List.map_nil]); first | done | rfl | (simp only [List.length_drop, List.length_take]; rfl)) ?_; (with_reducible refine (sc_Step.calls _ _ l0_0 _ _ l0_1 _ _ l1_0 _ _ l1_1 a2 t243 t246 false _ ?side1 ?side2 ?side3 ?side4 ?side5 ?side6 ?side7 ?side8 A32.out).mono ?_); (case side1 => repeat (first | exact (Kd.C_below HR0_0.out HB.out) | (with_reducible refine Kd.C_alloc ?_ _) | (with_reducible refine Kd.C_drewN ?_ _) | (with_reducible refine Kd.C_drew ?_))); (case side2 => exact HC0_0.out); (case side3 => repeat (first | exact (Kd.C_below HR0_1.out HB.out) | (with_reducible refine Kd.C_alloc ?_ _) | (with_reducible refine Kd.C_drewN ?_ _) | (with_reducible refine Kd.C_drew ?_))); (case side4 => exact HC0_1.out); (case side5 => repeat (first | exact (Kd.C_below HR1_0.out HB.out) | (with_reducible refine Kd.C_alloc ?_ _) | (with_reducible refine Kd.C_drewN ?_ _) | (with_reducible refine Kd.C_drew ?_))); (case side6 => exact HC1_0.out); (case side7 => repeat (first | exact (Kd.C_below HR1_1.out HB.out) | (with_reducible refine Kd.C_alloc ?_ _) | (with_reducible refine Kd.C_drewN ?_ _) | (with_reducible refine Kd.C_drew ?_))); (case side8 => exact HC1_1.out); rintro e w184 ⟨v244, v247, rfl, ho0, ho1, hb⟩; refine ⟨_, rfl, ?_⟩; have n0_ := Aside0.mk (Kd.V_lower (Kd.V_mono (ok' := fun k_ => k_ ≠ gb237 ∧ k_ ≠ gb238) ho0 (fun k_ hk_ => ⟨(Kd.freshB (g := gb237) (o := .cells #[.slice A0_0 l0_0.length c0_0, .slice A0_1 l0_1.length c0_1] 25 (0, 0)) (by (with_reducible repeat (first | refine blk_drewN ?_ _ | refine blk_drew ?_ | refine blk_alloc ?_ _)); exact BK237.out) k_ hk_), (Kd.freshB (g := gb238) (o := .cells #[.slice A1_0 l1_0.length c1_0, .slice A1_1 l1_1.length c1_1] 28 (0, 0)) (by (with_reducible repeat (first | refine blk_drewN ?_ _ | refine blk_drew ?_ | refine blk_alloc ?_ _)); exact BK238.out) k_ hk_)⟩)) (below_size (by repeat (first | (with_reducible first | exact HB.out | apply below_alloc | apply pw_below_drewN | apply below_drew1 | refine below_set ?_ GE237.out | refine below_set ?_ GE238.out) | exact HB.out)))); have n1_ := Aside0.mk (Kd.V_lower (Kd.V_mono (ok' := fun k_ => k_ ≠ gb237 ∧ k_ ≠ gb238) ho1 (fun k_ hk_ => ⟨(Kd.freshB (g := gb237) (o := .cells #[.slice A0_0 l0_0.length c0_0, .slice A0_1 l0_1.length c0_1] 25 (0, 0)) (by (with_reducible repeat (first | refine blk_drewN ?_ _ | refine blk_drew ?_ | refine blk_alloc ?_ _)); exact BK237.out) k_ hk_), (Kd.freshB (g := gb238) (o := .cells #[.slice A1_0 l1_0.length c1_0, .slice A1_1 l1_1.length c1_1] 28 (0, 0)) (by (with_reducible repeat (first | refine blk_drewN ?_ _ | refine blk_drew ?_ | refine blk_alloc ?_ _)); exact BK238.out) k_ hk_)⟩)) (below_size (by repeat (first | (with_reducible first | exact HB.out | apply below_alloc | apply pw_below_drewN | apply below_drew1 | refine below_set ?_ GE237.out | refine below_set ?_ GE238.out) | exact HB.out)))); have n2_ := Aside0.mk (blk_below (g := gb237) (o := .cells #[.slice A0_0 l0_0.length c0_0, .slice A0_1 l0_1.length c0_1] 25 (0, 0)) (by (with_reducible repeat (first | refine blk_drewN ?_ _ | refine blk_drew ?_ | refine blk_alloc ?_ _)); exact BK237.out) hb); have n3_ := Aside0.mk (blk_below (g := gb238) (o := .cells #[.slice A1_0 l1_0.length c1_0, .slice A1_1 l1_1.length c1_1] 28 (0, 0)) (by (with_reducible repeat (first | refine blk_drewN ?_ _ | refine blk_drew ?_ | refine blk_alloc ?_ _)); exact BK238.out) hb); have n4_ := Aside0.mk (below_step (by repeat (first | (with_reducible first | exact HB.out | apply below_alloc | apply pw_below_drewN | apply below_drew1 | refine below_set ?_ GE237.out | refine below_set ?_ GE238.out) | exact HB.out)) hb); clear BK237; clear BK238; clear HB; have HO245 := n0_; have HO248 := n1_; have BK237 := n2_; have BK238 := n3_; have HB := n4_; clear n0_ n1_ n2_ n3_ n4_; (try clear hb); (try clear hb2); (try clear hk); (try clear hi); (try clear ho0); (try clear ho1)) | ((with_reducible refine gate_dst (N := 10) rfl ?_); refine box_event ?hg (N := 10) ?hd (cs := #[.slice none 0 0, .slice none 0 0]) (t := 28) ?hr ?_; (case hd => rfl); (case hg => rfl); (case hr => first | (go_simp; done) | (go_simp; rfl)); intro gb250 hg w185 hbox hb; have n0_ := Aside0.mk (Kd.V_below (Kd.V_elderB (by (with_reducible repeat (first | apply Kd.V_alloc | apply Kd.V_drewN | apply Kd.V_drew)); exact HO245.out) gb250 (Nat.le_of_eq hg.symm)) hb); have n1_ := Aside0.mk (Kd.V_below (Kd.V_elderB (by (with_reducible repeat (first | apply Kd.V_alloc | apply Kd.V_drewN | apply Kd.V_drew)); exact HO248.out) gb250 (Nat.le_of_eq hg.symm)) hb); have n2_ := Aside0.mk (blk_below (g := gb237) (o := .cells #[.slice A0_0 l0_0.length c0_0, .slice A0_1 l0_1.length c0_1] 25 (0, 0)) (by (with_reducible repeat (first | refine blk_drewN ?_ _ | refine blk_drew ?_ | refine blk_alloc ?_ _)); exact BK237.out) hb); have n3_ := Aside0.mk (blk_below (g := gb238) (o := .cells #[.slice A1_0 l1_0.length c1_0, .slice A1_1 l1_1.length c1_1] 28 (0, 0)) (by (with_reducible repeat (first | refine blk_drewN ?_ _ | refine blk_drew ?_ | refine blk_alloc ?_ _)); exact BK238.out) hb); have n4_ := Aside0.mk (below_step (by repeat (first | (with_reducible first | exact HB.out | apply below_alloc | apply pw_below_drewN | apply below_drew1 | refine below_set ?_ GE237.out | refine below_set ?_ GE238.out) | exact HB.out)) hb); have n5_ := Aside0.mk (hbox); have n6_ := Aside0.mk ((by rw [hg]; exact (below_size (by repeat (first | (with_reducible first | exact HB.out | apply below_alloc | apply pw_below_drewN | apply below_drew1 | refine below_set ?_ GE237.out | refine below_set ?_ GE238.out) | exact HB.out))) : w.heap.size ≤ gb250)); have n7_ := Aside0.mk ((by rw [hg]; exact (below_size (by repeat (first | (with_reducible first | exact HB.out | apply below_alloc | apply pw_below_drewN | apply below_drew1 | refine below_set ?_ GE237.out | refine below_set ?_ GE238.out) | exact HB.out))) : w.heap.size ≤ gb250)); have n8_ := Aside0.mk ((by rw [hg]; exact Nat.ne_of_lt (blk_lt (g := gb237) (o := .cells #[.slice A0_0 l0_0.length c0_0, .slice A0_1 l0_1.length c0_1] 25 (0, 0)) (by (with_reducible repeat (first | refine blk_drewN ?_ _ | refine blk_drew ?_ | refine blk_alloc ?_ _)); exact BK237.out)) : gb237 ≠ gb250)); have n9_ := Aside0.mk ((by rw [hg]; exact Nat.ne_of_gt (blk_lt (g := gb237) (o := .cells #[.slice A0_0 l0_0.length c0_0, .slice A0_1 l0_1.length c0_1] 25 (0, 0)) (by (with_reducible repeat (first | refine blk_drewN ?_ _ | refine blk_drew ?_ | refine blk_alloc ?_ _)); exact BK237.out)) : gb250 ≠ gb237)); have n10_ := Aside0.mk ((by rw [hg]; exact Nat.ne_of_lt (blk_lt (g := gb238) (o := .cells #[.slice A1_0 l1_0.length c1_0, .slice A1_1 l1_1.length c1_1] 28 (0, 0)) (by (with_reducible repeat (first | refine blk_drewN ?_ _ | refine blk_drew ?_ | refine blk_alloc ?_ _)); exact BK238.out)) : gb238 ≠ gb250)); have n11_ := Aside0.mk ((by rw [hg]; exact Nat.ne_of_gt (blk_lt (g := gb238) (o := .cells #[.slice A1_0 l1_0.length c1_0, .slice A1_1 l1_1.length c1_1] 28 (0, 0)) (by (with_reducible repeat (first | refine blk_drewN ?_ _ | refine blk_drew ?_ | refine blk_alloc ?_ _)); exact BK238.out)) : gb250 ≠ gb238)); clear HO245; clear HO248; clear BK237; clear BK238; clear HB; have HO245 := n0_; have HO248 := n1_; have BK237 := n2_; have BK238 := n3_; have HB := n4_; have BK250 := n5_; have GW250 := n6_; have GE250 := n7_; have NB237_250 := n8_; have NB250_237 := n9_; have NB238_250 := n10_; have NB250_238 := n11_; clear n0_ n1_ n2_ n3_ n4_ n5_ n6_ n7_ n8_ n9_ n10_ n11_; clear hb hbox hg; obtain ⟨Ao186, co186, eo186⟩ := Kd.V_slice HO245.out; subst eo186; have hnb187 := NB250_237.out; have hnc187 := NB237_250.out; have hnb188 := NB250_238.out; have hnc188 := NB238_250.out; have hcz189_0 : w185.cell? ⟨gb250, 0, none⟩ = some (.slice none 0 0) := (blk_cell BK250.out 0).trans rfl; have hcz189_1 : w185.cell? ⟨gb250, 1, none⟩ = some (.slice none 0 0) := (blk_cell BK250.out 1).trans rfl; have hfz189_0 := blk_frozen BK250.out 0; have hfz189_1 := blk_frozen BK250.out 1; obtain ⟨Ao190, co190, eo190⟩ := Kd.V_slice HO248.out; subst eo190))
   go_ret
   exact ⟨by first | rfl | (simp [errW_none, errW_some] <;> rfl) | (simp [*, errW_none, errW_some] <;> rfl), by repeat (first | (with_reducible first | exact HB.out | apply below_alloc | apply pw_below_drewN | apply below_drew1 | refine below_set ?_ GE237.out | refine below_set ?_ GE238.out | refine below_set ?_ GE250.out) | exact HB.out)⟩
  subst c33
  have H1 : (if 0 ≤ a2 then (if a2 < (l0_1.length : Int) then (if a2 < (l1_1.length : Int) then (if 0 ≤ ((rd_T45 l1_1 a2).f0) then (if ((rd_T45 l1_1 a2).f0) < ((rd_L3 l0_1 a2).length : Int) then ((fencepostref10_Right.f kj5 l0_0 l0_1 t243 t246).bind fun t255 => (if t255 = true then (if 0 ≤ (Int.tmod (wrap64 (a3)) 4) then (if (Int.tmod (wrap64 (a3)) 4) < (((rd_T45 l1_1 a2).f1).length : Int) then (if (Int.tmod (wrap64 (a3)) 4) = ((rd_T39 (rd_L3 l0_1 a2) ((rd_T45 l1_1 a2).f0)).f1) then (fencepostlaw10_ScReads.j1 kj5 a2 t239 (Int.tmod (wrap64 (a3)) 4) (rd ((rd_T45 l1_1 a2).f1) (Int.tmod (wrap64 (a3)) 4)) (((rd_T39 (rd_L3 l0_1 a2) ((rd_T45 l1_1 a2).f0)).f0) == 1) l1_0 l1_1 t243 t246 ((rd_T39 (rd_L3 l0_1 a2) ((rd_T45 l1_1 a2).f0)).f0) ((rd_T39 (rd_L3 l0_1 a2) ((rd_T45 l1_1 a2).f0)).f1) ((rd_T39 (rd_L3 l0_1 a2) ((rd_T45 l1_1 a2).f0)).f2) ((rd_T39 (rd_L3 l0_1 a2) ((rd_T45 l1_1 a2).f0)).f3) ((rd_T39 (rd_L3 l0_1 a2) ((rd_T45 l1_1 a2).f0)).f4)) else (fencepostlaw10_ScReads.j1 kj5 a2 t239 (Int.tmod (wrap64 (a3)) 4) (rd ((rd_T45 l1_1 a2).f1) (Int.tmod (wrap64 (a3)) 4)) false l1_0 l1_1 t243 t246 ((rd_T39 (rd_L3 l0_1 a2) ((rd_T45 l1_1 a2).f0)).f0) ((rd_T39 (rd_L3 l0_1 a2) ((rd_T45 l1_1 a2).f0)).f1) ((rd_T39 (rd_L3 l0_1 a2) ((rd_T45 l1_1 a2).f0)).f2) ((rd_T39 (rd_L3 l0_1 a2) ((rd_T45 l1_1 a2).f0)).f3) ((rd_T39 (rd_L3 l0_1 a2) ((rd_T45 l1_1 a2).f0)).f4))) else (none)) else (none)) else (some false))) else (none)) else (none)) else (none)) else (none)) else (none)) = some r := by rw [if_pos rfl] at H; exact H
  clear H
  have H := H1
  clear H1
  by_cases c34 : 0 ≤ a2
  rotate_left
  ·rw [if_neg c34] at H
   exact absurd H (by simp)
  rw [if_pos c34] at H
  have c34b0 : decide (0 ≤ a2) = true := decide_eq_true c34
  clear c34
  by_cases c35 : a2 < (l0_1.length : Int)
  rotate_left
  ·rw [if_neg c35] at H
   exact absurd H (by simp)
  rw [if_pos c35] at H
  have c35b0 : decide (a2 < (l0_1.length : Int)) = true := decide_eq_true c35
  clear c35
  by_cases c36 : a2 < (l1_1.length : Int)
  rotate_left
  ·rw [if_neg c36] at H
   exact absurd H (by simp)
  rw [if_pos c36] at H
  have c36b0 : decide (a2 < (l1_1.length : Int)) = true := decide_eq_true c36
  clear c36
  by_cases c37 : 0 ≤ ((rd_T45 l1_1 a2).f0)
  rotate_left
  ·rw [if_neg c37] at H
   exact absurd H (by simp)
  rw [if_pos c37] at H
  have c37b0 : decide (0 ≤ ((rd_T45 l1_1 a2).f0)) = true := decide_eq_true c37
  clear c37
  by_cases c38 : ((rd_T45 l1_1 a2).f0) < ((rd_L3 l0_1 a2).length : Int)
  rotate_left
  ·rw [if_neg c38] at H
   exact absurd H (by simp)
  rw [if_pos c38] at H
  have c38b0 : decide (((rd_T45 l1_1 a2).f0) < ((rd_L3 l0_1 a2).length : Int)) = true := decide_eq_true c38
  clear c38
  replace H := Option.bind_eq_some_iff.mp H
  obtain ⟨t255, A390, H⟩ := H
  replace H : (if t255 = true then (if 0 ≤ (Int.tmod (wrap64 (a3)) 4) then (if (Int.tmod (wrap64 (a3)) 4) < (((rd_T45 l1_1 a2).f1).length : Int) then (if (Int.tmod (wrap64 (a3)) 4) = ((rd_T39 (rd_L3 l0_1 a2) ((rd_T45 l1_1 a2).f0)).f1) then (fencepostlaw10_ScReads.j1 kj5 a2 t239 (Int.tmod (wrap64 (a3)) 4) (rd ((rd_T45 l1_1 a2).f1) (Int.tmod (wrap64 (a3)) 4)) (((rd_T39 (rd_L3 l0_1 a2) ((rd_T45 l1_1 a2).f0)).f0) == 1) l1_0 l1_1 t243 t246 ((rd_T39 (rd_L3 l0_1 a2) ((rd_T45 l1_1 a2).f0)).f0) ((rd_T39 (rd_L3 l0_1 a2) ((rd_T45 l1_1 a2).f0)).f1) ((rd_T39 (rd_L3 l0_1 a2) ((rd_T45 l1_1 a2).f0)).f2) ((rd_T39 (rd_L3 l0_1 a2) ((rd_T45 l1_1 a2).f0)).f3) ((rd_T39 (rd_L3 l0_1 a2) ((rd_T45 l1_1 a2).f0)).f4)) else (fencepostlaw10_ScReads.j1 kj5 a2 t239 (Int.tmod (wrap64 (a3)) 4) (rd ((rd_T45 l1_1 a2).f1) (Int.tmod (wrap64 (a3)) 4)) false l1_0 l1_1 t243 t246 ((rd_T39 (rd_L3 l0_1 a2) ((rd_T45 l1_1 a2).f0)).f0) ((rd_T39 (rd_L3 l0_1 a2) ((rd_T45 l1_1 a2).f0)).f1) ((rd_T39 (rd_L3 l0_1 a2) ((rd_T45 l1_1 a2).f0)).f2) ((rd_T39 (rd_L3 l0_1 a2) ((rd_T45 l1_1 a2).f0)).f3) ((rd_T39 (rd_L3 l0_1 a2) ((rd_T45 l1_1 a2).f0)).f4))) else (none)) else (none)) else (some false)) = some r := H
  have A39 := Aside0.mk A390
  clear A390
  by_cases c40 : t255 = true
  rotate_left
  ·replace c40 := Bool.eq_false_iff.mpr c40
   subst c40
   have H1 : (some false) = some r := by rw [if_neg (show ¬ (false = true) by decide)] at H; exact H
   clear H
   have H := H1
   clear H1
   exact absurd ((Option.some.inj H).trans HT.out) (by simp)
  subst c40
  have H1 : (if 0 ≤ (Int.tmod (wrap64 (a3)) 4) then (if (Int.tmod (wrap64 (a3)) 4) < (((rd_T45 l1_1 a2).f1).length : Int) then (if (Int.tmod (wrap64 (a3)) 4) = ((rd_T39 (rd_L3 l0_1 a2) ((rd_T45 l1_1 a2).f0)).f1) then (fencepostlaw10_ScReads.j1 kj5 a2 t239 (Int.tmod (wrap64 (a3)) 4) (rd ((rd_T45 l1_1 a2).f1) (Int.tmod (wrap64 (a3)) 4)) (((rd_T39 (rd_L3 l0_1 a2) ((rd_T45 l1_1 a2).f0)).f0) == 1) l1_0 l1_1 t243 t246 ((rd_T39 (rd_L3 l0_1 a2) ((rd_T45 l1_1 a2).f0)).f0) ((rd_T39 (rd_L3 l0_1 a2) ((rd_T45 l1_1 a2).f0)).f1) ((rd_T39 (rd_L3 l0_1 a2) ((rd_T45 l1_1 a2).f0)).f2) ((rd_T39 (rd_L3 l0_1 a2) ((rd_T45 l1_1 a2).f0)).f3) ((rd_T39 (rd_L3 l0_1 a2) ((rd_T45 l1_1 a2).f0)).f4)) else (fencepostlaw10_ScReads.j1 kj5 a2 t239 (Int.tmod (wrap64 (a3)) 4) (rd ((rd_T45 l1_1 a2).f1) (Int.tmod (wrap64 (a3)) 4)) false l1_0 l1_1 t243 t246 ((rd_T39 (rd_L3 l0_1 a2) ((rd_T45 l1_1 a2).f0)).f0) ((rd_T39 (rd_L3 l0_1 a2) ((rd_T45 l1_1 a2).f0)).f1) ((rd_T39 (rd_L3 l0_1 a2) ((rd_T45 l1_1 a2).f0)).f2) ((rd_T39 (rd_L3 l0_1 a2) ((rd_T45 l1_1 a2).f0)).f3) ((rd_T39 (rd_L3 l0_1 a2) ((rd_T45 l1_1 a2).f0)).f4))) else (none)) else (none)) = some r := by rw [if_pos rfl] at H; exact H
  clear H
  have H := H1
  clear H1
  obtain ⟨ji41, hji41⟩ : ∃ j_ : Int, (Int.tmod (wrap64 (a3)) 4) = j_ := ⟨_, rfl⟩
  replace H : (if 0 ≤ (ji41) then (if (ji41) < (((rd_T45 l1_1 a2).f1).length : Int) then (if (ji41) = ((rd_T39 (rd_L3 l0_1 a2) ((rd_T45 l1_1 a2).f0)).f1) then (fencepostlaw10_ScReads.j1 kj5 a2 t239 ji41 (rd ((rd_T45 l1_1 a2).f1) (ji41)) (((rd_T39 (rd_L3 l0_1 a2) ((rd_T45 l1_1 a2).f0)).f0) == 1) l1_0 l1_1 t243 t246 ((rd_T39 (rd_L3 l0_1 a2) ((rd_T45 l1_1 a2).f0)).f0) ((rd_T39 (rd_L3 l0_1 a2) ((rd_T45 l1_1 a2).f0)).f1) ((rd_T39 (rd_L3 l0_1 a2) ((rd_T45 l1_1 a2).f0)).f2) ((rd_T39 (rd_L3 l0_1 a2) ((rd_T45 l1_1 a2).f0)).f3) ((rd_T39 (rd_L3 l0_1 a2) ((rd_T45 l1_1 a2).f0)).f4)) else (fencepostlaw10_ScReads.j1 kj5 a2 t239 ji41 (rd ((rd_T45 l1_1 a2).f1) (ji41)) false l1_0 l1_1 t243 t246 ((rd_T39 (rd_L3 l0_1 a2) ((rd_T45 l1_1 a2).f0)).f0) ((rd_T39 (rd_L3 l0_1 a2) ((rd_T45 l1_1 a2).f0)).f1) ((rd_T39 (rd_L3 l0_1 a2) ((rd_T45 l1_1 a2).f0)).f2) ((rd_T39 (rd_L3 l0_1 a2) ((rd_T45 l1_1 a2).f0)).f3) ((rd_T39 (rd_L3 l0_1 a2) ((rd_T45 l1_1 a2).f0)).f4))) else (none)) else (none)) = some r := by first | (rw [hji41] at H; exact H) | (simp only [hji41] at H ⊢; exact H)
  (try rw [hji41] at A32)
  (try rw [hji41] at A39)
  by_cases c42 : 0 ≤ (ji41)
  rotate_left
  ·rw [if_neg c42] at H
   exact absurd H (by simp)
  rw [if_pos c42] at H
  have c42b0 : decide (0 ≤ (ji41)) = true := decide_eq_true c42
  clear c42
  by_cases c43 : (ji41) < (((rd_T45 l1_1 a2).f1).length : Int)
  rotate_left
  ·rw [if_neg c43] at H
   exact absurd H (by simp)
  rw [if_pos c43] at H
  have c43b0 : decide ((ji41) < (((rd_T45 l1_1 a2).f1).length : Int)) = true := decide_eq_true c43
  clear c43
  have HC44 := Aside0.mk H
  clear H
  have hnb45 := NB237_238.out
  have hnc45 := NB238_237.out
  have hcz46_0 : wc.cell? ⟨gb237, 0, none⟩ = some (.slice A0_0 l0_0.length c0_0) := (blk_cell BK237.out 0).trans rfl
  have hcz46_1 : wc.cell? ⟨gb237, 1, none⟩ = some (.slice A0_1 l0_1.length c0_1) := (blk_cell BK237.out 1).trans rfl
  have hfz46_0 := blk_frozen BK237.out 0
  have hfz46_1 := blk_frozen BK237.out 1
  have hcz47_0 : wc.cell? ⟨gb238, 0, none⟩ = some (.slice A1_0 l1_0.length c1_0) := (blk_cell BK238.out 0).trans rfl
  have hcz47_1 : wc.cell? ⟨gb238, 1, none⟩ = some (.slice A1_1 l1_1.length c1_1) := (blk_cell BK238.out 1).trans rfl
  have hfz47_0 := blk_frozen BK238.out 0
  have hfz47_1 := blk_frozen BK238.out 1
  try go_wp2_with (first | ((with_reducible refine gate_callee (f := 17) rfl ?_); refine goesL_ (some 33) rfl rfl Try.func17 (by kernel_rfl) rfl #[.agg #[.slice A0_0 l0_0.length c0_0, .slice A0_1 l0_1.length c0_1], .agg #[.slice A1_0 l1_0.length c1_0, .slice A1_1 l1_1.length c1_1], .int .i64 a2] rfl (by (try simp only [List.map_toArray, List.map_cons, List.map_nil]); first | done | rfl | (simp only [List.length_drop, List.length_take]; rfl)) ?_; (with_reducible refine (sc_Step.calls _ _ l0_0 _ _ l0_1 _ _ l1_0 _ _ l1_1 a2 t243 t246 true _ ?side1 ?side2 ?side3 ?side4 ?side5 ?side6 ?side7 ?side8 A32.out).mono ?_); (case side1 => repeat (first | exact (Kd.C_below HR0_0.out HB.out) | (with_reducible refine Kd.C_alloc ?_ _) | (with_reducible refine Kd.C_drewN ?_ _) | (with_reducible refine Kd.C_drew ?_))); (case side2 => exact HC0_0.out); (case side3 => repeat (first | exact (Kd.C_below HR0_1.out HB.out) | (with_reducible refine Kd.C_alloc ?_ _) | (with_reducible refine Kd.C_drewN ?_ _) | (with_reducible refine Kd.C_drew ?_))); (case side4 => exact HC0_1.out); (case side5 => repeat (first | exact (Kd.C_below HR1_0.out HB.out) | (with_reducible refine Kd.C_alloc ?_ _) | (with_reducible refine Kd.C_drewN ?_ _) | (with_reducible refine Kd.C_drew ?_))); (case side6 => exact HC1_0.out); (case side7 => repeat (first | exact (Kd.C_below HR1_1.out HB.out) | (with_reducible refine Kd.C_alloc ?_ _) | (with_reducible refine Kd.C_drewN ?_ _) | (with_reducible refine Kd.C_drew ?_))); (case side8 => exact HC1_1.out); rintro e w48 ⟨v244, v247, rfl, ho0, ho1, hb⟩; refine ⟨_, rfl, ?_⟩; have n0_ := Aside0.mk (Kd.V_lower (Kd.V_mono (ok' := fun k_ => k_ ≠ gb237 ∧ k_ ≠ gb238) ho0 (fun k_ hk_ => ⟨(Kd.freshB (g := gb237) (o := .cells #[.slice A0_0 l0_0.length c0_0, .slice A0_1 l0_1.length c0_1] 25 (0, 0)) (by (with_reducible repeat (first | refine blk_drewN ?_ _ | refine blk_drew ?_ | refine blk_alloc ?_ _)); exact BK237.out) k_ hk_), (Kd.freshB (g := gb238) (o := .cells #[.slice A1_0 l1_0.length c1_0, .slice A1_1 l1_1.length c1_1] 28 (0, 0)) (by (with_reducible repeat (first | refine blk_drewN ?_ _ | refine blk_drew ?_ | refine blk_alloc ?_ _)); exact BK238.out) k_ hk_)⟩)) (below_size (by repeat (first | (with_reducible first | exact HB.out | apply below_alloc | apply pw_below_drewN | apply below_drew1 | refine below_set ?_ GE237.out | refine below_set ?_ GE238.out) | exact HB.out)))); have n1_ := Aside0.mk (Kd.V_lower (Kd.V_mono (ok' := fun k_ => k_ ≠ gb237 ∧ k_ ≠ gb238) ho1 (fun k_ hk_ => ⟨(Kd.freshB (g := gb237) (o := .cells #[.slice A0_0 l0_0.length c0_0, .slice A0_1 l0_1.length c0_1] 25 (0, 0)) (by (with_reducible repeat (first | refine blk_drewN ?_ _ | refine blk_drew ?_ | refine blk_alloc ?_ _)); exact BK237.out) k_ hk_), (Kd.freshB (g := gb238) (o := .cells #[.slice A1_0 l1_0.length c1_0, .slice A1_1 l1_1.length c1_1] 28 (0, 0)) (by (with_reducible repeat (first | refine blk_drewN ?_ _ | refine blk_drew ?_ | refine blk_alloc ?_ _)); exact BK238.out) k_ hk_)⟩)) (below_size (by repeat (first | (with_reducible first | exact HB.out | apply below_alloc | apply pw_below_drewN | apply below_drew1 | refine below_set ?_ GE237.out | refine below_set ?_ GE238.out) | exact HB.out)))); have n2_ := Aside0.mk (blk_below (g := gb237) (o := .cells #[.slice A0_0 l0_0.length c0_0, .slice A0_1 l0_1.length c0_1] 25 (0, 0)) (by (with_reducible repeat (first | refine blk_drewN ?_ _ | refine blk_drew ?_ | refine blk_alloc ?_ _)); exact BK237.out) hb); have n3_ := Aside0.mk (blk_below (g := gb238) (o := .cells #[.slice A1_0 l1_0.length c1_0, .slice A1_1 l1_1.length c1_1] 28 (0, 0)) (by (with_reducible repeat (first | refine blk_drewN ?_ _ | refine blk_drew ?_ | refine blk_alloc ?_ _)); exact BK238.out) hb); have n4_ := Aside0.mk (below_step (by repeat (first | (with_reducible first | exact HB.out | apply below_alloc | apply pw_below_drewN | apply below_drew1 | refine below_set ?_ GE237.out | refine below_set ?_ GE238.out) | exact HB.out)) hb); clear BK237; clear BK238; clear HB; have HO245 := n0_; have HO248 := n1_; have BK237 := n2_; have BK238 := n3_; have HB := n4_; clear n0_ n1_ n2_ n3_ n4_; (try clear hb); (try clear hb2); (try clear hk); (try clear hi); (try clear ho0); (try clear ho1)) | ((with_reducible refine gate_dst (N := 10) rfl ?_); refine box_event ?hg (N := 10) ?hd (cs := #[.slice none 0 0, .slice none 0 0]) (t := 28) ?hr ?_; (case hd => rfl); (case hg => rfl); (case hr => first | (go_simp; done) | (go_simp; rfl)); intro gb250 hg w49 hbox hb; have n0_ := Aside0.mk (Kd.V_below (Kd.V_elderB (by (with_reducible repeat (first | apply Kd.V_alloc | apply Kd.V_drewN | apply Kd.V_drew)); exact HO245.out) gb250 (Nat.le_of_eq hg.symm)) hb); have n1_ := Aside0.mk (Kd.V_below (Kd.V_elderB (by (with_reducible repeat (first | apply Kd.V_alloc | apply Kd.V_drewN | apply Kd.V_drew)); exact HO248.out) gb250 (Nat.le_of_eq hg.symm)) hb); have n2_ := Aside0.mk (blk_below (g := gb237) (o := .cells #[.slice A0_0 l0_0.length c0_0, .slice A0_1 l0_1.length c0_1] 25 (0, 0)) (by (with_reducible repeat (first | refine blk_drewN ?_ _ | refine blk_drew ?_ | refine blk_alloc ?_ _)); exact BK237.out) hb); have n3_ := Aside0.mk (blk_below (g := gb238) (o := .cells #[.slice A1_0 l1_0.length c1_0, .slice A1_1 l1_1.length c1_1] 28 (0, 0)) (by (with_reducible repeat (first | refine blk_drewN ?_ _ | refine blk_drew ?_ | refine blk_alloc ?_ _)); exact BK238.out) hb); have n4_ := Aside0.mk (below_step (by repeat (first | (with_reducible first | exact HB.out | apply below_alloc | apply pw_below_drewN | apply below_drew1 | refine below_set ?_ GE237.out | refine below_set ?_ GE238.out) | exact HB.out)) hb); have n5_ := Aside0.mk (hbox); have n6_ := Aside0.mk ((by rw [hg]; exact (below_size (by repeat (first | (with_reducible first | exact HB.out | apply below_alloc | apply pw_below_drewN | apply below_drew1 | refine below_set ?_ GE237.out | refine below_set ?_ GE238.out) | exact HB.out))) : w.heap.size ≤ gb250)); have n7_ := Aside0.mk ((by rw [hg]; exact (below_size (by repeat (first | (with_reducible first | exact HB.out | apply below_alloc | apply pw_below_drewN | apply below_drew1 | refine below_set ?_ GE237.out | refine below_set ?_ GE238.out) | exact HB.out))) : w.heap.size ≤ gb250)); have n8_ := Aside0.mk ((by rw [hg]; exact Nat.ne_of_lt (blk_lt (g := gb237) (o := .cells #[.slice A0_0 l0_0.length c0_0, .slice A0_1 l0_1.length c0_1] 25 (0, 0)) (by (with_reducible repeat (first | refine blk_drewN ?_ _ | refine blk_drew ?_ | refine blk_alloc ?_ _)); exact BK237.out)) : gb237 ≠ gb250)); have n9_ := Aside0.mk ((by rw [hg]; exact Nat.ne_of_gt (blk_lt (g := gb237) (o := .cells #[.slice A0_0 l0_0.length c0_0, .slice A0_1 l0_1.length c0_1] 25 (0, 0)) (by (with_reducible repeat (first | refine blk_drewN ?_ _ | refine blk_drew ?_ | refine blk_alloc ?_ _)); exact BK237.out)) : gb250 ≠ gb237)); have n10_ := Aside0.mk ((by rw [hg]; exact Nat.ne_of_lt (blk_lt (g := gb238) (o := .cells #[.slice A1_0 l1_0.length c1_0, .slice A1_1 l1_1.length c1_1] 28 (0, 0)) (by (with_reducible repeat (first | refine blk_drewN ?_ _ | refine blk_drew ?_ | refine blk_alloc ?_ _)); exact BK238.out)) : gb238 ≠ gb250)); have n11_ := Aside0.mk ((by rw [hg]; exact Nat.ne_of_gt (blk_lt (g := gb238) (o := .cells #[.slice A1_0 l1_0.length c1_0, .slice A1_1 l1_1.length c1_1] 28 (0, 0)) (by (with_reducible repeat (first | refine blk_drewN ?_ _ | refine blk_drew ?_ | refine blk_alloc ?_ _)); exact BK238.out)) : gb250 ≠ gb238)); clear HO245; clear HO248; clear BK237; clear BK238; clear HB; have HO245 := n0_; have HO248 := n1_; have BK237 := n2_; have BK238 := n3_; have HB := n4_; have BK250 := n5_; have GW250 := n6_; have GE250 := n7_; have NB237_250 := n8_; have NB250_237 := n9_; have NB238_250 := n10_; have NB250_238 := n11_; clear n0_ n1_ n2_ n3_ n4_ n5_ n6_ n7_ n8_ n9_ n10_ n11_; clear hb hbox hg; obtain ⟨Ao50, co50, eo50⟩ := Kd.V_slice HO245.out; subst eo50; have hnb51 := NB250_237.out; have hnc51 := NB237_250.out; have hnb52 := NB250_238.out; have hnc52 := NB238_250.out; have hcz53_0 : w49.cell? ⟨gb250, 0, none⟩ = some (.slice none 0 0) := (blk_cell BK250.out 0).trans rfl; have hcz53_1 : w49.cell? ⟨gb250, 1, none⟩ = some (.slice none 0 0) := (blk_cell BK250.out 1).trans rfl; have hfz53_0 := blk_frozen BK250.out 0; have hfz53_1 := blk_frozen BK250.out 1; obtain ⟨Ao54, co54, eo54⟩ := Kd.V_slice HO248.out; subst eo54))
  have n0_ : Aside0 (Kd.V (Kd.int .i64) 3 ((w49.setCell ⟨gb250, 0, none⟩ (.slice Ao50 t243.length co50)).setCell ⟨gb250, 1, none⟩ (.slice Ao54 t246.length co54)) w.heap.size (fun k_ => k_ ≠ gb237 ∧ k_ ≠ gb238 ∧ k_ ≠ gb250) (.slice Ao50 t243.length co50) t243) := ⟨by (with_reducible repeat (first | apply Kd.V_alloc | apply Kd.V_drewN | apply Kd.V_drew)); exact Kd.V_mono (Kd.V_far (p := ⟨gb250, 1, none⟩) (Kd.V_far (p := ⟨gb250, 0, none⟩) (Kd.V_mono HO245.out (fun k_ hk => (⟨hk, hk.2⟩ : _ ∧ k_ ≠ gb250))) (fun _ hk => hk.2) (.slice Ao50 t243.length co50)) (fun _ hk => hk.2) (.slice Ao54 t246.length co54)) (fun _ hk => ⟨hk.1.1.1, ⟨hk.1.1.2, hk.1.2⟩⟩)⟩
  have n1_ : Aside0 (Kd.V k45 45 ((w49.setCell ⟨gb250, 0, none⟩ (.slice Ao50 t243.length co50)).setCell ⟨gb250, 1, none⟩ (.slice Ao54 t246.length co54)) w.heap.size (fun k_ => k_ ≠ gb237 ∧ k_ ≠ gb238 ∧ k_ ≠ gb250) (.slice Ao54 t246.length co54) t246) := ⟨by (with_reducible repeat (first | apply Kd.V_alloc | apply Kd.V_drewN | apply Kd.V_drew)); exact Kd.V_mono (Kd.V_far (p := ⟨gb250, 1, none⟩) (Kd.V_far (p := ⟨gb250, 0, none⟩) (Kd.V_mono HO248.out (fun k_ hk => (⟨hk, hk.2⟩ : _ ∧ k_ ≠ gb250))) (fun _ hk => hk.2) (.slice Ao50 t243.length co50)) (fun _ hk => hk.2) (.slice Ao54 t246.length co54)) (fun _ hk => ⟨hk.1.1.1, ⟨hk.1.1.2, hk.1.2⟩⟩)⟩
  have n2_ : Aside0 (((w49.setCell ⟨gb250, 0, none⟩ (.slice Ao50 t243.length co50)).setCell ⟨gb250, 1, none⟩ (.slice Ao54 t246.length co54)).heap[gb237]? = some (.cells #[.slice A0_0 l0_0.length c0_0, .slice A0_1 l0_1.length c0_1] 25 (0, 0))) := ⟨by (with_reducible repeat (first | refine blk_drewN ?_ _ | refine blk_drew ?_ | refine blk_alloc ?_ _)); refine blk_far ?_ NB237_250.out _; (with_reducible repeat (first | refine blk_drewN ?_ _ | refine blk_drew ?_ | refine blk_alloc ?_ _)); refine blk_far ?_ NB237_250.out _; (with_reducible repeat (first | refine blk_drewN ?_ _ | refine blk_drew ?_ | refine blk_alloc ?_ _)); exact BK237.out⟩
  have n3_ : Aside0 (((w49.setCell ⟨gb250, 0, none⟩ (.slice Ao50 t243.length co50)).setCell ⟨gb250, 1, none⟩ (.slice Ao54 t246.length co54)).heap[gb238]? = some (.cells #[.slice A1_0 l1_0.length c1_0, .slice A1_1 l1_1.length c1_1] 28 (0, 0))) := ⟨by (with_reducible repeat (first | refine blk_drewN ?_ _ | refine blk_drew ?_ | refine blk_alloc ?_ _)); refine blk_far ?_ NB238_250.out _; (with_reducible repeat (first | refine blk_drewN ?_ _ | refine blk_drew ?_ | refine blk_alloc ?_ _)); refine blk_far ?_ NB238_250.out _; (with_reducible repeat (first | refine blk_drewN ?_ _ | refine blk_drew ?_ | refine blk_alloc ?_ _)); exact BK238.out⟩
  have n4_ : Aside0 (((w49.setCell ⟨gb250, 0, none⟩ (.slice Ao50 t243.length co50)).setCell ⟨gb250, 1, none⟩ (.slice Ao54 t246.length co54)).heap[gb250]? = some (.cells #[.slice Ao50 t243.length co50, .slice Ao54 t246.length co54] 28 (0, 0))) := ⟨by (with_reducible repeat (first | refine blk_drewN ?_ _ | refine blk_drew ?_ | refine blk_alloc ?_ _)); refine blk_put (cs := #[.slice Ao50 t243.length co50, .slice none 0 0]) ?_ 1 _ rfl; (with_reducible repeat (first | refine blk_drewN ?_ _ | refine blk_drew ?_ | refine blk_alloc ?_ _)); refine blk_put (cs := #[.slice none 0 0, .slice none 0 0]) ?_ 0 _ rfl; (with_reducible repeat (first | refine blk_drewN ?_ _ | refine blk_drew ?_ | refine blk_alloc ?_ _)); exact BK250.out⟩
  have n5_ : Aside0 (Below w.heap.size w ((w49.setCell ⟨gb250, 0, none⟩ (.slice Ao50 t243.length co50)).setCell ⟨gb250, 1, none⟩ (.slice Ao54 t246.length co54))) := ⟨by repeat (first | (with_reducible first | exact HB.out | apply below_alloc | apply pw_below_drewN | apply below_drew1 | refine below_set ?_ GE237.out | refine below_set ?_ GE238.out | refine below_set ?_ GE250.out) | exact HB.out)⟩
  (try clear HO245)
  (try clear HO248)
  (try clear BK237)
  (try clear BK238)
  (try clear BK250)
  (try clear HB)
  generalize ((w49.setCell ⟨gb250, 0, none⟩ (.slice Ao50 t243.length co50)).setCell ⟨gb250, 1, none⟩ (.slice Ao54 t246.length co54)) = w55 at n0_ n1_ n2_ n3_ n4_ n5_ ⊢
  have HO245 := n0_
  have HO248 := n1_
  have BK237 := n2_
  have BK238 := n3_
  have BK250 := n4_
  have HB := n5_
  clear n0_ n1_ n2_ n3_ n4_ n5_
  have n0_ := Aside0.mk (Kd.V_drew HO245.out)
  have n1_ := Aside0.mk (Kd.V_drew HO248.out)
  have n2_ := Aside0.mk (blk_drew BK237.out)
  have n3_ := Aside0.mk (blk_drew BK238.out)
  have n4_ := Aside0.mk (blk_drew BK250.out)
  have n5_ := Aside0.mk (below_drew1 HB.out)
  clear HO245
  clear HO248
  clear BK237
  clear BK238
  clear BK250
  clear HB
  have HO245 := n0_
  have HO248 := n1_
  have BK237 := n2_
  have BK238 := n3_
  have BK250 := n4_
  have HB := n5_
  clear n0_ n1_ n2_ n3_ n4_ n5_
  have p251 : 0 ≤ (a2 : Int) := of_decide_eq_true (by first | (with_reducible assumption) | assumption)
  have q251 : a2 < (l0_1.length : Int) := of_decide_eq_true (by first | (with_reducible assumption) | assumption)
  obtain ⟨ad251, A251_0, c251_0, e251, hx251_0, hl251_0, hi251_0⟩ := at_L3 HR0_1.out a2 p251 q251
  have hw251_0 := hx251_0
  cases e251
  replace hx251_0 := (HB.out.cell (World.block_lt_of_cell? w _ hx251_0)).trans hx251_0
  have HR251_0 := Aside0.mk hi251_0
  have HC251_0 := Aside0.mk hl251_0
  clear hi251_0 hl251_0
  replace p251 := eq_true p251
  replace q251 := eq_true q251
  have p252 : 0 ≤ (a2 : Int) := of_decide_eq_true (by first | (with_reducible assumption) | assumption)
  have q252 : a2 < (l1_1.length : Int) := of_decide_eq_true (by first | (with_reducible assumption) | assumption)
  obtain ⟨ad252, A252_1, c252_1, A252_3, c252_3, e252, hx252_0, hx252_1, hx252_2, hx252_3, hl252_1, hi252_1, hl252_3, hi252_3⟩ := at_T45 HR1_1.out a2 p252 q252
  have hw252_3 := hx252_3
  have hw252_2 := hx252_2
  have hw252_1 := hx252_1
  have hw252_0 := hx252_0
  cases e252
  replace hx252_0 := (HB.out.cell (World.block_lt_of_cell? w _ hx252_0)).trans hx252_0
  replace hx252_1 := (HB.out.cell (World.block_lt_of_cell? w _ hx252_1)).trans hx252_1
  replace hx252_2 := (HB.out.cell (World.block_lt_of_cell? w _ hx252_2)).trans hx252_2
  replace hx252_3 := (HB.out.cell (World.block_lt_of_cell? w _ hx252_3)).trans hx252_3
  have HR252_1 := Aside0.mk hi252_1
  have HC252_1 := Aside0.mk hl252_1
  clear hi252_1 hl252_1
  have HR252_3 := Aside0.mk hi252_3
  have HC252_3 := Aside0.mk hl252_3
  clear hi252_3 hl252_3
  replace p252 := eq_true p252
  replace q252 := eq_true q252
  have p253 : 0 ≤ (((rd_T45 l1_1 a2).f0) : Int) := of_decide_eq_true (by first | (with_reducible assumption) | assumption)
  have q253 : ((rd_T45 l1_1 a2).f0) < ((rd_L3 l0_1 a2).length : Int) := of_decide_eq_true (by first | (with_reducible assumption) | assumption)
  obtain ⟨ad253, e253, hx253_0, hx253_1, hx253_2, hx253_3, hx253_4⟩ := at_T39 HR251_0.out ((rd_T45 l1_1 a2).f0) p253 q253
  have hw253_4 := hx253_4
  have hw253_3 := hx253_3
  have hw253_2 := hx253_2
  have hw253_1 := hx253_1
  have hw253_0 := hx253_0
  cases e253
  replace hx253_0 := (HB.out.cell (World.block_lt_of_cell? w _ hx253_0)).trans hx253_0
  replace hx253_1 := (HB.out.cell (World.block_lt_of_cell? w _ hx253_1)).trans hx253_1
  replace hx253_2 := (HB.out.cell (World.block_lt_of_cell? w _ hx253_2)).trans hx253_2
  replace hx253_3 := (HB.out.cell (World.block_lt_of_cell? w _ hx253_3)).trans hx253_3
  replace hx253_4 := (HB.out.cell (World.block_lt_of_cell? w _ hx253_4)).trans hx253_4
  replace p253 := eq_true p253
  replace q253 := eq_true q253
  refine start_ (n := 15) (S := fun w' => w'.cell? ⟨gb237, 0, none⟩ = some (.slice A0_0 l0_0.length c0_0) ∧ w'.cell? ⟨gb237, 1, none⟩ = some (.slice (some ad251) l0_1.length c0_1) ∧ w'.cell? ⟨gb238, 0, none⟩ = some (.slice A1_0 l1_0.length c1_0) ∧ w'.cell? ⟨gb238, 1, none⟩ = some (.slice (some ad252) l1_1.length c1_1) ∧ w'.cell? (ad251.add (a2).toNat) = some (.slice (some ad253) (rd_L3 l0_1 a2).length c251_0) ∧ w'.cell? (ad252.add ((a2).toNat * 4)) = some (.int .i64 ((rd_T45 l1_1 a2).f0)) ∧ w'.cell? ⟨(ad252.add ((a2).toNat * 4)).block, (ad252.add ((a2).toNat * 4)).off + 1, none⟩ = some (.slice A252_1 ((rd_T45 l1_1 a2).f1).length c252_1) ∧ w'.cell? ⟨(ad252.add ((a2).toNat * 4)).block, (ad252.add ((a2).toNat * 4)).off + 2, none⟩ = some (.bool ((rd_T45 l1_1 a2).f2)) ∧ w'.cell? ⟨(ad252.add ((a2).toNat * 4)).block, (ad252.add ((a2).toNat * 4)).off + 3, none⟩ = some (.slice A252_3 ((rd_T45 l1_1 a2).f3).length c252_3) ∧ w'.cell? (ad253.add ((((rd_T45 l1_1 a2).f0)).toNat * 5)) = some (.int .i64 ((rd_T39 (rd_L3 l0_1 a2) ((rd_T45 l1_1 a2).f0)).f0)) ∧ w'.cell? ⟨(ad253.add ((((rd_T45 l1_1 a2).f0)).toNat * 5)).block, (ad253.add ((((rd_T45 l1_1 a2).f0)).toNat * 5)).off + 1, none⟩ = some (.int .i64 ((rd_T39 (rd_L3 l0_1 a2) ((rd_T45 l1_1 a2).f0)).f1)) ∧ w'.cell? ⟨(ad253.add ((((rd_T45 l1_1 a2).f0)).toNat * 5)).block, (ad253.add ((((rd_T45 l1_1 a2).f0)).toNat * 5)).off + 2, none⟩ = some (.int .i64 ((rd_T39 (rd_L3 l0_1 a2) ((rd_T45 l1_1 a2).f0)).f2)) ∧ w'.cell? ⟨(ad253.add ((((rd_T45 l1_1 a2).f0)).toNat * 5)).block, (ad253.add ((((rd_T45 l1_1 a2).f0)).toNat * 5)).off + 3, none⟩ = some (.int .i64 ((rd_T39 (rd_L3 l0_1 a2) ((rd_T45 l1_1 a2).f0)).f3)) ∧ w'.cell? ⟨(ad253.add ((((rd_T45 l1_1 a2).f0)).toNat * 5)).block, (ad253.add ((((rd_T45 l1_1 a2).f0)).toNat * 5)).off + 4, none⟩ = some (.int .i64 ((rd_T39 (rd_L3 l0_1 a2) ((rd_T45 l1_1 a2).f0)).f4))) (ds := []) (lb_ 15 0) (by kernel_rfl) rfl rfl ⟨(blk_cell BK237.out 0).trans rfl, (blk_cell BK237.out 1).trans rfl, (blk_cell BK238.out 0).trans rfl, (blk_cell BK238.out 1).trans rfl, ((HB.out.cell (World.block_lt_of_cell? w _ hw251_0)).trans hw251_0), ((HB.out.cell (World.block_lt_of_cell? w _ hw252_0)).trans hw252_0), ((HB.out.cell (World.block_lt_of_cell? w _ hw252_1)).trans hw252_1), ((HB.out.cell (World.block_lt_of_cell? w _ hw252_2)).trans hw252_2), ((HB.out.cell (World.block_lt_of_cell? w _ hw252_3)).trans hw252_3), ((HB.out.cell (World.block_lt_of_cell? w _ hw253_0)).trans hw253_0), ((HB.out.cell (World.block_lt_of_cell? w _ hw253_1)).trans hw253_1), ((HB.out.cell (World.block_lt_of_cell? w _ hw253_2)).trans hw253_2), ((HB.out.cell (World.block_lt_of_cell? w _ hw253_3)).trans hw253_3), ((HB.out.cell (World.block_lt_of_cell? w _ hw253_4)).trans hw253_4)⟩ (fun hHeld => ?_); refine with_tabW fencepostlaw10_ScReads.tab7 fencepostlaw10_ScReads.bits7 (fun HT_ HW_ => ?_)
  generalize w55.drew = w56 at HO245 HO248 BK237 BK238 BK250 HB HR251_0 HR252_1 HR252_3 hx251_0 hx252_0 hx252_1 hx252_2 hx252_3 hx253_0 hx253_1 hx253_2 hx253_3 hx253_4 hHeld ⊢
  refine pure_ (i := 0) (N := some 39) (v := ?_) (a' := ?_) (lb_ 15 1) rfl rfl (any_of HT_.out (by kernel_rfl)) (fun _ _ _ h => h) (Or.inl ⟨by rfl, ?_⟩) ?_ ?_; rotate_left; intro w'; go_simp; with_reducible rfl; rotate_left; simp only [Act.put, List.setIfInBounds_toArray, List.set_cons_zero, List.set_cons_succ, i64_w, i32_w]; rfl
  refine pure_ (i := 2) (N := some 41) (v := ?_) (a' := ?_) (lb_ 15 5) rfl rfl (any_of HT_.out (by kernel_rfl)) (fun _ _ _ h => h) (Or.inl ⟨by rfl, ?_⟩) ?_ ?_; rotate_left; intro w'; go_simp; with_reducible rfl; rotate_left; simp only [Act.put, List.setIfInBounds_toArray, List.set_cons_zero, List.set_cons_succ, i64_w, i32_w]; rfl
  refine pure_ (i := 5) (N := some 44) (v := ?_) (a' := ?_) (lb_ 15 37) rfl rfl (any_of HT_.out (by kernel_rfl)) (fun _ _ _ h => h) (Or.inl ⟨by rfl, ?_⟩) ?_ ?_; rotate_left; intro w'; go_simp; with_reducible rfl; rotate_left; simp only [Act.put, List.setIfInBounds_toArray, List.set_cons_zero, List.set_cons_succ, i64_w, i32_w]; rfl
  refine pure_ (i := 7) (N := some 46) (v := ?_) (a' := ?_) (lb_ 15 165) rfl rfl (any_of HT_.out (by kernel_rfl)) (fun _ _ _ h => h) (Or.inl ⟨by rfl, ?_⟩) ?_ ?_; rotate_left; intro w'; go_simp; with_reducible rfl; rotate_left; simp only [Act.put, List.setIfInBounds_toArray, List.set_cons_zero, List.set_cons_succ, i64_w, i32_w]; rfl
  refine take_ (i := 1) (N := some 40) (v := ?_) (a' := ?_) (lb_ 15 167) rfl rfl (take_ofW HT_.out HW_.out (by kernel_rfl)) (fun _ _ _ h => h) (Or.inl ⟨by rfl, ?_⟩) hHeld ?_ ?_; rotate_left; rintro w' ⟨s0, s1, s2, s3, s4, s5, s6, s7, s8, s9, s10, s11, s12, s13⟩; go_simp; with_reducible rfl; rotate_left; simp only [Act.put, List.setIfInBounds_toArray, List.set_cons_zero, List.set_cons_succ, i64_w, i32_w]; rfl
  refine pure_ (i := 3) (N := some 42) (v := ?_) (a' := ?_) (lb_ 15 175) rfl rfl (any_of HT_.out (by kernel_rfl)) (fun _ _ _ h => h) (Or.inl ⟨by rfl, ?_⟩) ?_ ?_; rotate_left; intro w'; go_simp; with_reducible rfl; rotate_left; simp only [Act.put, List.setIfInBounds_toArray, List.set_cons_zero, List.set_cons_succ, i64_w, i32_w]; rfl
  refine take_ (i := 4) (N := some 43) (v := ?_) (a' := ?_) (lb_ 15 191) rfl rfl (take_ofW HT_.out HW_.out (by kernel_rfl)) (fun _ _ _ h => h) (Or.inl ⟨by rfl, ?_⟩) hHeld ?_ ?_; rotate_left; rintro w' ⟨s0, s1, s2, s3, s4, s5, s6, s7, s8, s9, s10, s11, s12, s13⟩; go_simp; with_reducible rfl; rotate_left; simp only [Act.put, List.setIfInBounds_toArray, List.set_cons_zero, List.set_cons_succ, i64_w, i32_w]; rfl
  refine take_ (i := 6) (N := some 45) (v := ?_) (a' := ?_) (lb_ 15 255) rfl rfl (take_ofW HT_.out HW_.out (by kernel_rfl)) (fun _ _ _ h => h) (Or.inl ⟨by rfl, ?_⟩) hHeld ?_ ?_; rotate_left; rintro w' ⟨s0, s1, s2, s3, s4, s5, s6, s7, s8, s9, s10, s11, s12, s13⟩; go_simp; with_reducible rfl; rotate_left; simp only [Act.put, List.setIfInBounds_toArray, List.set_cons_zero, List.set_cons_succ, i64_w, i32_w]; rfl
  refine pure_ (i := 8) (N := some 47) (v := ?_) (a' := ?_) (lb_ 15 511) rfl rfl (any_of HT_.out (by kernel_rfl)) (fun _ _ _ h => h) (Or.inl ⟨by rfl, ?_⟩) ?_ ?_; rotate_left; intro w'; go_simp; with_reducible rfl; rotate_left; simp only [Act.put, List.setIfInBounds_toArray, List.set_cons_zero, List.set_cons_succ, i64_w, i32_w]; rfl
  refine pure_ (i := 9) (N := some 48) (v := ?_) (a' := ?_) (lb_ 15 1023) rfl rfl (any_of HT_.out (by kernel_rfl)) (fun _ _ _ h => h) (Or.inl ⟨by rfl, ?_⟩) ?_ ?_; rotate_left; intro w'; go_simp; with_reducible rfl; rotate_left; simp only [Act.put, List.setIfInBounds_toArray, List.set_cons_zero, List.set_cons_succ, i64_w, i32_w]; rfl
  refine take_ (i := 10) (N := some 49) (v := ?_) (a' := ?_) (lb_ 15 2047) rfl rfl (take_ofW HT_.out HW_.out (by kernel_rfl)) (fun _ _ _ h => h) (Or.inl ⟨by rfl, ?_⟩) hHeld ?_ ?_; rotate_left; rintro w' ⟨s0, s1, s2, s3, s4, s5, s6, s7, s8, s9, s10, s11, s12, s13⟩; go_simp; with_reducible rfl; rotate_left; simp only [Act.put, List.setIfInBounds_toArray, List.set_cons_zero, List.set_cons_succ, i64_w, i32_w]; rfl
  refine pure_ (i := 11) (N := some 50) (v := ?_) (a' := ?_) (lb_ 15 4095) rfl rfl (any_of HT_.out (by kernel_rfl)) (fun _ _ _ h => h) (Or.inl ⟨by rfl, ?_⟩) ?_ ?_; rotate_left; intro w'; go_simp; with_reducible rfl; rotate_left; simp only [Act.put, List.setIfInBounds_toArray, List.set_cons_zero, List.set_cons_succ, i64_w, i32_w]; rfl
  refine take_ (i := 12) (N := some 51) (v := ?_) (a' := ?_) (lb_ 15 8191) rfl rfl (take_ofW HT_.out HW_.out (by kernel_rfl)) (fun _ _ _ h => h) (Or.inl ⟨by rfl, ?_⟩) hHeld ?_ ?_; rotate_left; rintro w' ⟨s0, s1, s2, s3, s4, s5, s6, s7, s8, s9, s10, s11, s12, s13⟩; go_simp; with_reducible rfl; rotate_left; simp only [Act.put, List.setIfInBounds_toArray, List.set_cons_zero, List.set_cons_succ, i64_w, i32_w]; rfl
  refine one_ (i := 13) (N := some 12) (lb_ 15 16383) rfl rfl (one_of HT_.out (by kernel_rfl)) (by decide) (fun K hK => ?_)
  refine box_step ?hg (N := 12) ?hd (cs := #[.int .i64 0, .int .i64 0, .int .i64 0, .int .i64 0, .int .i64 0]) (t := 39) ?hr ?_; (case hd => rfl); (case hg => rfl); (case hr => first | (go_simp; done) | (go_simp; rfl))
  intro gb254 hg w57 hbox hb
  have n0_ := Aside0.mk (Kd.V_below (Kd.V_elderB (by (with_reducible repeat (first | apply Kd.V_alloc | apply Kd.V_drewN | apply Kd.V_drew)); exact HO245.out) gb254 (Nat.le_of_eq hg.symm)) hb)
  have n1_ := Aside0.mk (Kd.V_below (Kd.V_elderB (by (with_reducible repeat (first | apply Kd.V_alloc | apply Kd.V_drewN | apply Kd.V_drew)); exact HO248.out) gb254 (Nat.le_of_eq hg.symm)) hb)
  have n2_ := Aside0.mk (blk_below (g := gb237) (o := .cells #[.slice A0_0 l0_0.length c0_0, .slice (some ad251) l0_1.length c0_1] 25 (0, 0)) (by (with_reducible repeat (first | refine blk_drewN ?_ _ | refine blk_drew ?_ | refine blk_alloc ?_ _)); exact BK237.out) hb)
  have n3_ := Aside0.mk (blk_below (g := gb238) (o := .cells #[.slice A1_0 l1_0.length c1_0, .slice (some ad252) l1_1.length c1_1] 28 (0, 0)) (by (with_reducible repeat (first | refine blk_drewN ?_ _ | refine blk_drew ?_ | refine blk_alloc ?_ _)); exact BK238.out) hb)
  have n4_ := Aside0.mk (blk_below (g := gb250) (o := .cells #[.slice Ao50 t243.length co50, .slice Ao54 t246.length co54] 28 (0, 0)) (by (with_reducible repeat (first | refine blk_drewN ?_ _ | refine blk_drew ?_ | refine blk_alloc ?_ _)); exact BK250.out) hb)
  have n5_ := Aside0.mk (below_step (by repeat (first | (with_reducible first | exact HB.out | apply below_alloc | apply pw_below_drewN | apply below_drew1 | refine below_set ?_ GE237.out | refine below_set ?_ GE238.out | refine below_set ?_ GE250.out) | exact HB.out)) hb)
  have n6_ := Aside0.mk (hbox)
  have n7_ := Aside0.mk ((by rw [hg]; exact (below_size (by repeat (first | (with_reducible first | exact HB.out | apply below_alloc | apply pw_below_drewN | apply below_drew1 | refine below_set ?_ GE237.out | refine below_set ?_ GE238.out | refine below_set ?_ GE250.out) | exact HB.out))) : w.heap.size ≤ gb254))
  have n8_ := Aside0.mk ((by rw [hg]; exact (below_size (by repeat (first | (with_reducible first | exact HB.out | apply below_alloc | apply pw_below_drewN | apply below_drew1 | refine below_set ?_ GE237.out | refine below_set ?_ GE238.out | refine below_set ?_ GE250.out) | exact HB.out))) : w.heap.size ≤ gb254))
  have n9_ := Aside0.mk ((by rw [hg]; exact Nat.ne_of_lt (blk_lt (g := gb237) (o := .cells #[.slice A0_0 l0_0.length c0_0, .slice (some ad251) l0_1.length c0_1] 25 (0, 0)) (by (with_reducible repeat (first | refine blk_drewN ?_ _ | refine blk_drew ?_ | refine blk_alloc ?_ _)); exact BK237.out)) : gb237 ≠ gb254))
  have n10_ := Aside0.mk ((by rw [hg]; exact Nat.ne_of_gt (blk_lt (g := gb237) (o := .cells #[.slice A0_0 l0_0.length c0_0, .slice (some ad251) l0_1.length c0_1] 25 (0, 0)) (by (with_reducible repeat (first | refine blk_drewN ?_ _ | refine blk_drew ?_ | refine blk_alloc ?_ _)); exact BK237.out)) : gb254 ≠ gb237))
  have n11_ := Aside0.mk ((by rw [hg]; exact Nat.ne_of_lt (blk_lt (g := gb238) (o := .cells #[.slice A1_0 l1_0.length c1_0, .slice (some ad252) l1_1.length c1_1] 28 (0, 0)) (by (with_reducible repeat (first | refine blk_drewN ?_ _ | refine blk_drew ?_ | refine blk_alloc ?_ _)); exact BK238.out)) : gb238 ≠ gb254))
  have n12_ := Aside0.mk ((by rw [hg]; exact Nat.ne_of_gt (blk_lt (g := gb238) (o := .cells #[.slice A1_0 l1_0.length c1_0, .slice (some ad252) l1_1.length c1_1] 28 (0, 0)) (by (with_reducible repeat (first | refine blk_drewN ?_ _ | refine blk_drew ?_ | refine blk_alloc ?_ _)); exact BK238.out)) : gb254 ≠ gb238))
  have n13_ := Aside0.mk ((by rw [hg]; exact Nat.ne_of_lt (blk_lt (g := gb250) (o := .cells #[.slice Ao50 t243.length co50, .slice Ao54 t246.length co54] 28 (0, 0)) (by (with_reducible repeat (first | refine blk_drewN ?_ _ | refine blk_drew ?_ | refine blk_alloc ?_ _)); exact BK250.out)) : gb250 ≠ gb254))
  have n14_ := Aside0.mk ((by rw [hg]; exact Nat.ne_of_gt (blk_lt (g := gb250) (o := .cells #[.slice Ao50 t243.length co50, .slice Ao54 t246.length co54] 28 (0, 0)) (by (with_reducible repeat (first | refine blk_drewN ?_ _ | refine blk_drew ?_ | refine blk_alloc ?_ _)); exact BK250.out)) : gb254 ≠ gb250))
  clear HO245
  clear HO248
  clear BK237
  clear BK238
  clear BK250
  clear HB
  have HO245 := n0_
  have HO248 := n1_
  have BK237 := n2_
  have BK238 := n3_
  have BK250 := n4_
  have HB := n5_
  have BK254 := n6_
  have GW254 := n7_
  have GE254 := n8_
  have NB237_254 := n9_
  have NB254_237 := n10_
  have NB238_254 := n11_
  have NB254_238 := n12_
  have NB250_254 := n13_
  have NB254_250 := n14_
  clear n0_ n1_ n2_ n3_ n4_ n5_ n6_ n7_ n8_ n9_ n10_ n11_ n12_ n13_ n14_
  clear hb hbox hg
  refine hK.out _ _ ⟨(blk_cell BK237.out 0).trans rfl, (blk_cell BK237.out 1).trans rfl, (blk_cell BK238.out 0).trans rfl, (blk_cell BK238.out 1).trans rfl, ((HB.out.cell (World.block_lt_of_cell? w _ hw251_0)).trans hw251_0), ((HB.out.cell (World.block_lt_of_cell? w _ hw252_0)).trans hw252_0), ((HB.out.cell (World.block_lt_of_cell? w _ hw252_1)).trans hw252_1), ((HB.out.cell (World.block_lt_of_cell? w _ hw252_2)).trans hw252_2), ((HB.out.cell (World.block_lt_of_cell? w _ hw252_3)).trans hw252_3), ((HB.out.cell (World.block_lt_of_cell? w _ hw253_0)).trans hw253_0), ((HB.out.cell (World.block_lt_of_cell? w _ hw253_1)).trans hw253_1), ((HB.out.cell (World.block_lt_of_cell? w _ hw253_2)).trans hw253_2), ((HB.out.cell (World.block_lt_of_cell? w _ hw253_3)).trans hw253_3), ((HB.out.cell (World.block_lt_of_cell? w _ hw253_4)).trans hw253_4)⟩ (fun hHeld => ?_)
  clear hK K
  refine norm_ (a' := ?_) ?_ ?_
  rotate_left
  ·show Act.put _ (some 12) _ = _
   simp only [Act.put, List.setIfInBounds_toArray, List.set_cons_zero, List.set_cons_succ, i64_w, i32_w]
   rfl
  refine one_ (i := 14) (N := none) (lb_ 15 32767) rfl rfl (one_of HT_.out (by kernel_rfl)) (by decide) (fun K hK => ?_)
  have hs58 : w57.cell? ⟨gb254, 0, none⟩ = some (.int .i64 0) := (blk_cell BK254.out 0).trans rfl
  have hfs58 := blk_frozen BK254.out 0
  have hns58_0 := NB237_254.out
  have hns58_1 := NB238_254.out
  have hns58_2 := NB250_254.out
  have hms58_0 := NB254_237.out
  have hms58_1 := NB254_238.out
  have hms58_2 := NB254_250.out
  have hs59 : w57.cell? ⟨gb254, 1, none⟩ = some (.int .i64 0) := (blk_cell BK254.out 1).trans rfl
  have hfs59 := blk_frozen BK254.out 1
  have hns59_0 := NB237_254.out
  have hns59_1 := NB238_254.out
  have hns59_2 := NB250_254.out
  have hms59_0 := NB254_237.out
  have hms59_1 := NB254_238.out
  have hms59_2 := NB254_250.out
  have hs60 : w57.cell? ⟨gb254, 2, none⟩ = some (.int .i64 0) := (blk_cell BK254.out 2).trans rfl
  have hfs60 := blk_frozen BK254.out 2
  have hns60_0 := NB237_254.out
  have hns60_1 := NB238_254.out
  have hns60_2 := NB250_254.out
  have hms60_0 := NB254_237.out
  have hms60_1 := NB254_238.out
  have hms60_2 := NB254_250.out
  have hs61 : w57.cell? ⟨gb254, 3, none⟩ = some (.int .i64 0) := (blk_cell BK254.out 3).trans rfl
  have hfs61 := blk_frozen BK254.out 3
  have hns61_0 := NB237_254.out
  have hns61_1 := NB238_254.out
  have hns61_2 := NB250_254.out
  have hms61_0 := NB254_237.out
  have hms61_1 := NB254_238.out
  have hms61_2 := NB254_250.out
  have hs62 : w57.cell? ⟨gb254, 4, none⟩ = some (.int .i64 0) := (blk_cell BK254.out 4).trans rfl
  have hfs62 := blk_frozen BK254.out 4
  have hns62_0 := NB237_254.out
  have hns62_1 := NB238_254.out
  have hns62_2 := NB250_254.out
  have hms62_0 := NB254_237.out
  have hms62_1 := NB254_238.out
  have hms62_2 := NB254_250.out
  refine skip_ (w1 := ?_) (by rfl) rfl ?_ ?_
  rotate_left
  ·go_simp
   rfl
  refine hK.out _ _ ⟨((cell_far (p := ⟨gb254, _, none⟩) NB237_254.out _).trans (((cell_far (p := ⟨gb254, _, none⟩) NB237_254.out _).trans (((cell_far (p := ⟨gb254, _, none⟩) NB237_254.out _).trans (((cell_far (p := ⟨gb254, _, none⟩) NB237_254.out _).trans (((cell_far (p := ⟨gb254, _, none⟩) NB237_254.out _).trans (hHeld.1)))))))))), ((cell_far (p := ⟨gb254, _, none⟩) NB237_254.out _).trans (((cell_far (p := ⟨gb254, _, none⟩) NB237_254.out _).trans (((cell_far (p := ⟨gb254, _, none⟩) NB237_254.out _).trans (((cell_far (p := ⟨gb254, _, none⟩) NB237_254.out _).trans (((cell_far (p := ⟨gb254, _, none⟩) NB237_254.out _).trans (hHeld.2.1)))))))))), ((cell_far (p := ⟨gb254, _, none⟩) NB238_254.out _).trans (((cell_far (p := ⟨gb254, _, none⟩) NB238_254.out _).trans (((cell_far (p := ⟨gb254, _, none⟩) NB238_254.out _).trans (((cell_far (p := ⟨gb254, _, none⟩) NB238_254.out _).trans (((cell_far (p := ⟨gb254, _, none⟩) NB238_254.out _).trans (hHeld.2.2.1)))))))))), ((cell_far (p := ⟨gb254, _, none⟩) NB238_254.out _).trans (((cell_far (p := ⟨gb254, _, none⟩) NB238_254.out _).trans (((cell_far (p := ⟨gb254, _, none⟩) NB238_254.out _).trans (((cell_far (p := ⟨gb254, _, none⟩) NB238_254.out _).trans (((cell_far (p := ⟨gb254, _, none⟩) NB238_254.out _).trans (hHeld.2.2.2.1)))))))))), ((cell_far (p := ⟨gb254, _, none⟩) (by first | exact Nat.ne_of_lt (bk_ hw251_0 GW254.out) | (rw [add_block]; exact Nat.ne_of_lt (bk_ hw251_0 GW254.out)) | (show (Addr.add _ _).block ≠ _; rw [add_block]; exact Nat.ne_of_lt (bk_ hw251_0 GW254.out)) | (dsimp only; exact Nat.ne_of_lt (bk_ hw251_0 GW254.out))) _).trans (((cell_far (p := ⟨gb254, _, none⟩) (by first | exact Nat.ne_of_lt (bk_ hw251_0 GW254.out) | (rw [add_block]; exact Nat.ne_of_lt (bk_ hw251_0 GW254.out)) | (show (Addr.add _ _).block ≠ _; rw [add_block]; exact Nat.ne_of_lt (bk_ hw251_0 GW254.out)) | (dsimp only; exact Nat.ne_of_lt (bk_ hw251_0 GW254.out))) _).trans (((cell_far (p := ⟨gb254, _, none⟩) (by first | exact Nat.ne_of_lt (bk_ hw251_0 GW254.out) | (rw [add_block]; exact Nat.ne_of_lt (bk_ hw251_0 GW254.out)) | (show (Addr.add _ _).block ≠ _; rw [add_block]; exact Nat.ne_of_lt (bk_ hw251_0 GW254.out)) | (dsimp only; exact Nat.ne_of_lt (bk_ hw251_0 GW254.out))) _).trans (((cell_far (p := ⟨gb254, _, none⟩) (by first | exact Nat.ne_of_lt (bk_ hw251_0 GW254.out) | (rw [add_block]; exact Nat.ne_of_lt (bk_ hw251_0 GW254.out)) | (show (Addr.add _ _).block ≠ _; rw [add_block]; exact Nat.ne_of_lt (bk_ hw251_0 GW254.out)) | (dsimp only; exact Nat.ne_of_lt (bk_ hw251_0 GW254.out))) _).trans (((cell_far (p := ⟨gb254, _, none⟩) (by first | exact Nat.ne_of_lt (bk_ hw251_0 GW254.out) | (rw [add_block]; exact Nat.ne_of_lt (bk_ hw251_0 GW254.out)) | (show (Addr.add _ _).block ≠ _; rw [add_block]; exact Nat.ne_of_lt (bk_ hw251_0 GW254.out)) | (dsimp only; exact Nat.ne_of_lt (bk_ hw251_0 GW254.out))) _).trans (hHeld.2.2.2.2.1)))))))))), ((cell_far (p := ⟨gb254, _, none⟩) (by first | exact Nat.ne_of_lt (bk_ hw252_0 GW254.out) | (rw [add_block]; exact Nat.ne_of_lt (bk_ hw252_0 GW254.out)) | (show (Addr.add _ _).block ≠ _; rw [add_block]; exact Nat.ne_of_lt (bk_ hw252_0 GW254.out)) | (dsimp only; exact Nat.ne_of_lt (bk_ hw252_0 GW254.out))) _).trans (((cell_far (p := ⟨gb254, _, none⟩) (by first | exact Nat.ne_of_lt (bk_ hw252_0 GW254.out) | (rw [add_block]; exact Nat.ne_of_lt (bk_ hw252_0 GW254.out)) | (show (Addr.add _ _).block ≠ _; rw [add_block]; exact Nat.ne_of_lt (bk_ hw252_0 GW254.out)) | (dsimp only; exact Nat.ne_of_lt (bk_ hw252_0 GW254.out))) _).trans (((cell_far (p := ⟨gb254, _, none⟩) (by first | exact Nat.ne_of_lt (bk_ hw252_0 GW254.out) | (rw [add_block]; exact Nat.ne_of_lt (bk_ hw252_0 GW254.out)) | (show (Addr.add _ _).block ≠ _; rw [add_block]; exact Nat.ne_of_lt (bk_ hw252_0 GW254.out)) | (dsimp only; exact Nat.ne_of_lt (bk_ hw252_0 GW254.out))) _).trans (((cell_far (p := ⟨gb254, _, none⟩) (by first | exact Nat.ne_of_lt (bk_ hw252_0 GW254.out) | (rw [add_block]; exact Nat.ne_of_lt (bk_ hw252_0 GW254.out)) | (show (Addr.add _ _).block ≠ _; rw [add_block]; exact Nat.ne_of_lt (bk_ hw252_0 GW254.out)) | (dsimp only; exact Nat.ne_of_lt (bk_ hw252_0 GW254.out))) _).trans (((cell_far (p := ⟨gb254, _, none⟩) (by first | exact Nat.ne_of_lt (bk_ hw252_0 GW254.out) | (rw [add_block]; exact Nat.ne_of_lt (bk_ hw252_0 GW254.out)) | (show (Addr.add _ _).block ≠ _; rw [add_block]; exact Nat.ne_of_lt (bk_ hw252_0 GW254.out)) | (dsimp only; exact Nat.ne_of_lt (bk_ hw252_0 GW254.out))) _).trans (hHeld.2.2.2.2.2.1)))))))))), ((cell_far (p := ⟨gb254, _, none⟩) (by first | exact Nat.ne_of_lt (bk_ hw252_1 GW254.out) | (rw [add_block]; exact Nat.ne_of_lt (bk_ hw252_1 GW254.out)) | (show (Addr.add _ _).block ≠ _; rw [add_block]; exact Nat.ne_of_lt (bk_ hw252_1 GW254.out)) | (dsimp only; exact Nat.ne_of_lt (bk_ hw252_1 GW254.out))) _).trans (((cell_far (p := ⟨gb254, _, none⟩) (by first | exact Nat.ne_of_lt (bk_ hw252_1 GW254.out) | (rw [add_block]; exact Nat.ne_of_lt (bk_ hw252_1 GW254.out)) | (show (Addr.add _ _).block ≠ _; rw [add_block]; exact Nat.ne_of_lt (bk_ hw252_1 GW254.out)) | (dsimp only; exact Nat.ne_of_lt (bk_ hw252_1 GW254.out))) _).trans (((cell_far (p := ⟨gb254, _, none⟩) (by first | exact Nat.ne_of_lt (bk_ hw252_1 GW254.out) | (rw [add_block]; exact Nat.ne_of_lt (bk_ hw252_1 GW254.out)) | (show (Addr.add _ _).block ≠ _; rw [add_block]; exact Nat.ne_of_lt (bk_ hw252_1 GW254.out)) | (dsimp only; exact Nat.ne_of_lt (bk_ hw252_1 GW254.out))) _).trans (((cell_far (p := ⟨gb254, _, none⟩) (by first | exact Nat.ne_of_lt (bk_ hw252_1 GW254.out) | (rw [add_block]; exact Nat.ne_of_lt (bk_ hw252_1 GW254.out)) | (show (Addr.add _ _).block ≠ _; rw [add_block]; exact Nat.ne_of_lt (bk_ hw252_1 GW254.out)) | (dsimp only; exact Nat.ne_of_lt (bk_ hw252_1 GW254.out))) _).trans (((cell_far (p := ⟨gb254, _, none⟩) (by first | exact Nat.ne_of_lt (bk_ hw252_1 GW254.out) | (rw [add_block]; exact Nat.ne_of_lt (bk_ hw252_1 GW254.out)) | (show (Addr.add _ _).block ≠ _; rw [add_block]; exact Nat.ne_of_lt (bk_ hw252_1 GW254.out)) | (dsimp only; exact Nat.ne_of_lt (bk_ hw252_1 GW254.out))) _).trans (hHeld.2.2.2.2.2.2.1)))))))))), ((cell_far (p := ⟨gb254, _, none⟩) (by first | exact Nat.ne_of_lt (bk_ hw252_2 GW254.out) | (rw [add_block]; exact Nat.ne_of_lt (bk_ hw252_2 GW254.out)) | (show (Addr.add _ _).block ≠ _; rw [add_block]; exact Nat.ne_of_lt (bk_ hw252_2 GW254.out)) | (dsimp only; exact Nat.ne_of_lt (bk_ hw252_2 GW254.out))) _).trans (((cell_far (p := ⟨gb254, _, none⟩) (by first | exact Nat.ne_of_lt (bk_ hw252_2 GW254.out) | (rw [add_block]; exact Nat.ne_of_lt (bk_ hw252_2 GW254.out)) | (show (Addr.add _ _).block ≠ _; rw [add_block]; exact Nat.ne_of_lt (bk_ hw252_2 GW254.out)) | (dsimp only; exact Nat.ne_of_lt (bk_ hw252_2 GW254.out))) _).trans (((cell_far (p := ⟨gb254, _, none⟩) (by first | exact Nat.ne_of_lt (bk_ hw252_2 GW254.out) | (rw [add_block]; exact Nat.ne_of_lt (bk_ hw252_2 GW254.out)) | (show (Addr.add _ _).block ≠ _; rw [add_block]; exact Nat.ne_of_lt (bk_ hw252_2 GW254.out)) | (dsimp only; exact Nat.ne_of_lt (bk_ hw252_2 GW254.out))) _).trans (((cell_far (p := ⟨gb254, _, none⟩) (by first | exact Nat.ne_of_lt (bk_ hw252_2 GW254.out) | (rw [add_block]; exact Nat.ne_of_lt (bk_ hw252_2 GW254.out)) | (show (Addr.add _ _).block ≠ _; rw [add_block]; exact Nat.ne_of_lt (bk_ hw252_2 GW254.out)) | (dsimp only; exact Nat.ne_of_lt (bk_ hw252_2 GW254.out))) _).trans (((cell_far (p := ⟨gb254, _, none⟩) (by first | exact Nat.ne_of_lt (bk_ hw252_2 GW254.out) | (rw [add_block]; exact Nat.ne_of_lt (bk_ hw252_2 GW254.out)) | (show (Addr.add _ _).block ≠ _; rw [add_block]; exact Nat.ne_of_lt (bk_ hw252_2 GW254.out)) | (dsimp only; exact Nat.ne_of_lt (bk_ hw252_2 GW254.out))) _).trans (hHeld.2.2.2.2.2.2.2.1)))))))))), ((cell_far (p := ⟨gb254, _, none⟩) (by first | exact Nat.ne_of_lt (bk_ hw252_3 GW254.out) | (rw [add_block]; exact Nat.ne_of_lt (bk_ hw252_3 GW254.out)) | (show (Addr.add _ _).block ≠ _; rw [add_block]; exact Nat.ne_of_lt (bk_ hw252_3 GW254.out)) | (dsimp only; exact Nat.ne_of_lt (bk_ hw252_3 GW254.out))) _).trans (((cell_far (p := ⟨gb254, _, none⟩) (by first | exact Nat.ne_of_lt (bk_ hw252_3 GW254.out) | (rw [add_block]; exact Nat.ne_of_lt (bk_ hw252_3 GW254.out)) | (show (Addr.add _ _).block ≠ _; rw [add_block]; exact Nat.ne_of_lt (bk_ hw252_3 GW254.out)) | (dsimp only; exact Nat.ne_of_lt (bk_ hw252_3 GW254.out))) _).trans (((cell_far (p := ⟨gb254, _, none⟩) (by first | exact Nat.ne_of_lt (bk_ hw252_3 GW254.out) | (rw [add_block]; exact Nat.ne_of_lt (bk_ hw252_3 GW254.out)) | (show (Addr.add _ _).block ≠ _; rw [add_block]; exact Nat.ne_of_lt (bk_ hw252_3 GW254.out)) | (dsimp only; exact Nat.ne_of_lt (bk_ hw252_3 GW254.out))) _).trans (((cell_far (p := ⟨gb254, _, none⟩) (by first | exact Nat.ne_of_lt (bk_ hw252_3 GW254.out) | (rw [add_block]; exact Nat.ne_of_lt (bk_ hw252_3 GW254.out)) | (show (Addr.add _ _).block ≠ _; rw [add_block]; exact Nat.ne_of_lt (bk_ hw252_3 GW254.out)) | (dsimp only; exact Nat.ne_of_lt (bk_ hw252_3 GW254.out))) _).trans (((cell_far (p := ⟨gb254, _, none⟩) (by first | exact Nat.ne_of_lt (bk_ hw252_3 GW254.out) | (rw [add_block]; exact Nat.ne_of_lt (bk_ hw252_3 GW254.out)) | (show (Addr.add _ _).block ≠ _; rw [add_block]; exact Nat.ne_of_lt (bk_ hw252_3 GW254.out)) | (dsimp only; exact Nat.ne_of_lt (bk_ hw252_3 GW254.out))) _).trans (hHeld.2.2.2.2.2.2.2.2.1)))))))))), ((cell_far (p := ⟨gb254, _, none⟩) (by first | exact Nat.ne_of_lt (bk_ hw253_0 GW254.out) | (rw [add_block]; exact Nat.ne_of_lt (bk_ hw253_0 GW254.out)) | (show (Addr.add _ _).block ≠ _; rw [add_block]; exact Nat.ne_of_lt (bk_ hw253_0 GW254.out)) | (dsimp only; exact Nat.ne_of_lt (bk_ hw253_0 GW254.out))) _).trans (((cell_far (p := ⟨gb254, _, none⟩) (by first | exact Nat.ne_of_lt (bk_ hw253_0 GW254.out) | (rw [add_block]; exact Nat.ne_of_lt (bk_ hw253_0 GW254.out)) | (show (Addr.add _ _).block ≠ _; rw [add_block]; exact Nat.ne_of_lt (bk_ hw253_0 GW254.out)) | (dsimp only; exact Nat.ne_of_lt (bk_ hw253_0 GW254.out))) _).trans (((cell_far (p := ⟨gb254, _, none⟩) (by first | exact Nat.ne_of_lt (bk_ hw253_0 GW254.out) | (rw [add_block]; exact Nat.ne_of_lt (bk_ hw253_0 GW254.out)) | (show (Addr.add _ _).block ≠ _; rw [add_block]; exact Nat.ne_of_lt (bk_ hw253_0 GW254.out)) | (dsimp only; exact Nat.ne_of_lt (bk_ hw253_0 GW254.out))) _).trans (((cell_far (p := ⟨gb254, _, none⟩) (by first | exact Nat.ne_of_lt (bk_ hw253_0 GW254.out) | (rw [add_block]; exact Nat.ne_of_lt (bk_ hw253_0 GW254.out)) | (show (Addr.add _ _).block ≠ _; rw [add_block]; exact Nat.ne_of_lt (bk_ hw253_0 GW254.out)) | (dsimp only; exact Nat.ne_of_lt (bk_ hw253_0 GW254.out))) _).trans (((cell_far (p := ⟨gb254, _, none⟩) (by first | exact Nat.ne_of_lt (bk_ hw253_0 GW254.out) | (rw [add_block]; exact Nat.ne_of_lt (bk_ hw253_0 GW254.out)) | (show (Addr.add _ _).block ≠ _; rw [add_block]; exact Nat.ne_of_lt (bk_ hw253_0 GW254.out)) | (dsimp only; exact Nat.ne_of_lt (bk_ hw253_0 GW254.out))) _).trans (hHeld.2.2.2.2.2.2.2.2.2.1)))))))))), ((cell_far (p := ⟨gb254, _, none⟩) (by first | exact Nat.ne_of_lt (bk_ hw253_1 GW254.out) | (rw [add_block]; exact Nat.ne_of_lt (bk_ hw253_1 GW254.out)) | (show (Addr.add _ _).block ≠ _; rw [add_block]; exact Nat.ne_of_lt (bk_ hw253_1 GW254.out)) | (dsimp only; exact Nat.ne_of_lt (bk_ hw253_1 GW254.out))) _).trans (((cell_far (p := ⟨gb254, _, none⟩) (by first | exact Nat.ne_of_lt (bk_ hw253_1 GW254.out) | (rw [add_block]; exact Nat.ne_of_lt (bk_ hw253_1 GW254.out)) | (show (Addr.add _ _).block ≠ _; rw [add_block]; exact Nat.ne_of_lt (bk_ hw253_1 GW254.out)) | (dsimp only; exact Nat.ne_of_lt (bk_ hw253_1 GW254.out))) _).trans (((cell_far (p := ⟨gb254, _, none⟩) (by first | exact Nat.ne_of_lt (bk_ hw253_1 GW254.out) | (rw [add_block]; exact Nat.ne_of_lt (bk_ hw253_1 GW254.out)) | (show (Addr.add _ _).block ≠ _; rw [add_block]; exact Nat.ne_of_lt (bk_ hw253_1 GW254.out)) | (dsimp only; exact Nat.ne_of_lt (bk_ hw253_1 GW254.out))) _).trans (((cell_far (p := ⟨gb254, _, none⟩) (by first | exact Nat.ne_of_lt (bk_ hw253_1 GW254.out) | (rw [add_block]; exact Nat.ne_of_lt (bk_ hw253_1 GW254.out)) | (show (Addr.add _ _).block ≠ _; rw [add_block]; exact Nat.ne_of_lt (bk_ hw253_1 GW254.out)) | (dsimp only; exact Nat.ne_of_lt (bk_ hw253_1 GW254.out))) _).trans (((cell_far (p := ⟨gb254, _, none⟩) (by first | exact Nat.ne_of_lt (bk_ hw253_1 GW254.out) | (rw [add_block]; exact Nat.ne_of_lt (bk_ hw253_1 GW254.out)) | (show (Addr.add _ _).block ≠ _; rw [add_block]; exact Nat.ne_of_lt (bk_ hw253_1 GW254.out)) | (dsimp only; exact Nat.ne_of_lt (bk_ hw253_1 GW254.out))) _).trans (hHeld.2.2.2.2.2.2.2.2.2.2.1)))))))))), ((cell_far (p := ⟨gb254, _, none⟩) (by first | exact Nat.ne_of_lt (bk_ hw253_2 GW254.out) | (rw [add_block]; exact Nat.ne_of_lt (bk_ hw253_2 GW254.out)) | (show (Addr.add _ _).block ≠ _; rw [add_block]; exact Nat.ne_of_lt (bk_ hw253_2 GW254.out)) | (dsimp only; exact Nat.ne_of_lt (bk_ hw253_2 GW254.out))) _).trans (((cell_far (p := ⟨gb254, _, none⟩) (by first | exact Nat.ne_of_lt (bk_ hw253_2 GW254.out) | (rw [add_block]; exact Nat.ne_of_lt (bk_ hw253_2 GW254.out)) | (show (Addr.add _ _).block ≠ _; rw [add_block]; exact Nat.ne_of_lt (bk_ hw253_2 GW254.out)) | (dsimp only; exact Nat.ne_of_lt (bk_ hw253_2 GW254.out))) _).trans (((cell_far (p := ⟨gb254, _, none⟩) (by first | exact Nat.ne_of_lt (bk_ hw253_2 GW254.out) | (rw [add_block]; exact Nat.ne_of_lt (bk_ hw253_2 GW254.out)) | (show (Addr.add _ _).block ≠ _; rw [add_block]; exact Nat.ne_of_lt (bk_ hw253_2 GW254.out)) | (dsimp only; exact Nat.ne_of_lt (bk_ hw253_2 GW254.out))) _).trans (((cell_far (p := ⟨gb254, _, none⟩) (by first | exact Nat.ne_of_lt (bk_ hw253_2 GW254.out) | (rw [add_block]; exact Nat.ne_of_lt (bk_ hw253_2 GW254.out)) | (show (Addr.add _ _).block ≠ _; rw [add_block]; exact Nat.ne_of_lt (bk_ hw253_2 GW254.out)) | (dsimp only; exact Nat.ne_of_lt (bk_ hw253_2 GW254.out))) _).trans (((cell_far (p := ⟨gb254, _, none⟩) (by first | exact Nat.ne_of_lt (bk_ hw253_2 GW254.out) | (rw [add_block]; exact Nat.ne_of_lt (bk_ hw253_2 GW254.out)) | (show (Addr.add _ _).block ≠ _; rw [add_block]; exact Nat.ne_of_lt (bk_ hw253_2 GW254.out)) | (dsimp only; exact Nat.ne_of_lt (bk_ hw253_2 GW254.out))) _).trans (hHeld.2.2.2.2.2.2.2.2.2.2.2.1)))))))))), ((cell_far (p := ⟨gb254, _, none⟩) (by first | exact Nat.ne_of_lt (bk_ hw253_3 GW254.out) | (rw [add_block]; exact Nat.ne_of_lt (bk_ hw253_3 GW254.out)) | (show (Addr.add _ _).block ≠ _; rw [add_block]; exact Nat.ne_of_lt (bk_ hw253_3 GW254.out)) | (dsimp only; exact Nat.ne_of_lt (bk_ hw253_3 GW254.out))) _).trans (((cell_far (p := ⟨gb254, _, none⟩) (by first | exact Nat.ne_of_lt (bk_ hw253_3 GW254.out) | (rw [add_block]; exact Nat.ne_of_lt (bk_ hw253_3 GW254.out)) | (show (Addr.add _ _).block ≠ _; rw [add_block]; exact Nat.ne_of_lt (bk_ hw253_3 GW254.out)) | (dsimp only; exact Nat.ne_of_lt (bk_ hw253_3 GW254.out))) _).trans (((cell_far (p := ⟨gb254, _, none⟩) (by first | exact Nat.ne_of_lt (bk_ hw253_3 GW254.out) | (rw [add_block]; exact Nat.ne_of_lt (bk_ hw253_3 GW254.out)) | (show (Addr.add _ _).block ≠ _; rw [add_block]; exact Nat.ne_of_lt (bk_ hw253_3 GW254.out)) | (dsimp only; exact Nat.ne_of_lt (bk_ hw253_3 GW254.out))) _).trans (((cell_far (p := ⟨gb254, _, none⟩) (by first | exact Nat.ne_of_lt (bk_ hw253_3 GW254.out) | (rw [add_block]; exact Nat.ne_of_lt (bk_ hw253_3 GW254.out)) | (show (Addr.add _ _).block ≠ _; rw [add_block]; exact Nat.ne_of_lt (bk_ hw253_3 GW254.out)) | (dsimp only; exact Nat.ne_of_lt (bk_ hw253_3 GW254.out))) _).trans (((cell_far (p := ⟨gb254, _, none⟩) (by first | exact Nat.ne_of_lt (bk_ hw253_3 GW254.out) | (rw [add_block]; exact Nat.ne_of_lt (bk_ hw253_3 GW254.out)) | (show (Addr.add _ _).block ≠ _; rw [add_block]; exact Nat.ne_of_lt (bk_ hw253_3 GW254.out)) | (dsimp only; exact Nat.ne_of_lt (bk_ hw253_3 GW254.out))) _).trans (hHeld.2.2.2.2.2.2.2.2.2.2.2.2.1)))))))))), ((cell_far (p := ⟨gb254, _, none⟩) (by first | exact Nat.ne_of_lt (bk_ hw253_4 GW254.out) | (rw [add_block]; exact Nat.ne_of_lt (bk_ hw253_4 GW254.out)) | (show (Addr.add _ _).block ≠ _; rw [add_block]; exact Nat.ne_of_lt (bk_ hw253_4 GW254.out)) | (dsimp only; exact Nat.ne_of_lt (bk_ hw253_4 GW254.out))) _).trans (((cell_far (p := ⟨gb254, _, none⟩) (by first | exact Nat.ne_of_lt (bk_ hw253_4 GW254.out) | (rw [add_block]; exact Nat.ne_of_lt (bk_ hw253_4 GW254.out)) | (show (Addr.add _ _).block ≠ _; rw [add_block]; exact Nat.ne_of_lt (bk_ hw253_4 GW254.out)) | (dsimp only; exact Nat.ne_of_lt (bk_ hw253_4 GW254.out))) _).trans (((cell_far (p := ⟨gb254, _, none⟩) (by first | exact Nat.ne_of_lt (bk_ hw253_4 GW254.out) | (rw [add_block]; exact Nat.ne_of_lt (bk_ hw253_4 GW254.out)) | (show (Addr.add _ _).block ≠ _; rw [add_block]; exact Nat.ne_of_lt (bk_ hw253_4 GW254.out)) | (dsimp only; exact Nat.ne_of_lt (bk_ hw253_4 GW254.out))) _).trans (((cell_far (p := ⟨gb254, _, none⟩) (by first | exact Nat.ne_of_lt (bk_ hw253_4 GW254.out) | (rw [add_block]; exact Nat.ne_of_lt (bk_ hw253_4 GW254.out)) | (show (Addr.add _ _).block ≠ _; rw [add_block]; exact Nat.ne_of_lt (bk_ hw253_4 GW254.out)) | (dsimp only; exact Nat.ne_of_lt (bk_ hw253_4 GW254.out))) _).trans (((cell_far (p := ⟨gb254, _, none⟩) (by first | exact Nat.ne_of_lt (bk_ hw253_4 GW254.out) | (rw [add_block]; exact Nat.ne_of_lt (bk_ hw253_4 GW254.out)) | (show (Addr.add _ _).block ≠ _; rw [add_block]; exact Nat.ne_of_lt (bk_ hw253_4 GW254.out)) | (dsimp only; exact Nat.ne_of_lt (bk_ hw253_4 GW254.out))) _).trans (hHeld.2.2.2.2.2.2.2.2.2.2.2.2.2))))))))))⟩ (fun hHeld => ?_)
  clear hK K
  refine done_ (done_of HT_.out (by kernel_rfl)) ?_
  have hnb63 := NB237_254.out
  have hnc63 := NB254_237.out
  have hcz64_0 : w57.cell? ⟨gb237, 0, none⟩ = some (.slice A0_0 l0_0.length c0_0) := (blk_cell BK237.out 0).trans rfl
  have hcz64_1 : w57.cell? ⟨gb237, 1, none⟩ = some (.slice (some ad251) l0_1.length c0_1) := (blk_cell BK237.out 1).trans rfl
  have hfz64_0 := blk_frozen BK237.out 0
  have hfz64_1 := blk_frozen BK237.out 1
  have hnb65 := NB250_254.out
  have hnc65 := NB254_250.out
  have hcz66_0 : w57.cell? ⟨gb250, 0, none⟩ = some (.slice Ao50 t243.length co50) := (blk_cell BK250.out 0).trans rfl
  have hcz66_1 : w57.cell? ⟨gb250, 1, none⟩ = some (.slice Ao54 t246.length co54) := (blk_cell BK250.out 1).trans rfl
  have hfz66_0 := blk_frozen BK250.out 0
  have hfz66_1 := blk_frozen BK250.out 1
  go_upto_region 12 with (first | ((with_reducible refine gate_callee (f := 13) rfl ?_); refine goesL_ (some 54) rfl rfl Try.func13 (by kernel_rfl) rfl #[.agg #[.slice A0_0 l0_0.length c0_0, .slice (some ad251) l0_1.length c0_1], .agg #[.slice Ao50 t243.length co50, .slice Ao54 t246.length co54]] rfl (by (try simp only [List.map_toArray, List.map_cons, List.map_nil]); first | done | rfl | (simp only [List.length_drop, List.length_take]; rfl)) ?_; (with_reducible refine (fencepostref10_Right.calls kj5 _ _ l0_0 _ _ l0_1 _ _ t243 _ _ t246 true _ ?side1 ?side2 ?side3 ?side4 ?side5 ?side6 ?side7 ?side8 A39.out).mono ?_); (case side1 => exact Kd.C_below HR0_0.out (by repeat (first | (with_reducible first | exact HB.out | apply below_alloc | apply pw_below_drewN | apply below_drew1 | refine below_set ?_ GE237.out | refine below_set ?_ GE238.out | refine below_set ?_ GE250.out | refine below_set ?_ GE254.out) | exact HB.out))); (case side2 => exact HC0_0.out); (case side3 => exact Kd.C_below HR0_1.out (by repeat (first | (with_reducible first | exact HB.out | apply below_alloc | apply pw_below_drewN | apply below_drew1 | refine below_set ?_ GE237.out | refine below_set ?_ GE238.out | refine below_set ?_ GE250.out | refine below_set ?_ GE254.out) | exact HB.out))); (case side4 => exact HC0_1.out); (case side5 => refine (Kd.V_reads' (e := 3) (base := w.heap.size) (ok := fun k_ => ((k_ ≠ gb237 ∧ (k_ ≠ gb238 ∧ k_ ≠ gb250)) ∧ k_ ≠ gb254)) (n := t243.length) (c := co50) ?_).2.2; exact (by (with_reducible repeat (first | apply Kd.V_alloc | apply Kd.V_drewN | apply Kd.V_drew)); exact (Kd.V_mono (Kd.V_far (p := ⟨gb254, 4, none⟩) (Kd.V_far (p := ⟨gb254, 3, none⟩) (Kd.V_far (p := ⟨gb254, 2, none⟩) (Kd.V_far (p := ⟨gb254, 1, none⟩) (Kd.V_far (p := ⟨gb254, 0, none⟩) (Kd.V_mono HO245.out (fun k_ hk => (⟨hk, hk.2⟩ : _ ∧ k_ ≠ gb254))) (fun _ hk => hk.2) (.int .i64 ((rd_T39 (rd_L3 l0_1 a2) ((rd_T45 l1_1 a2).f0)).f0))) (fun _ hk => hk.2) (.int .i64 ((rd_T39 (rd_L3 l0_1 a2) ((rd_T45 l1_1 a2).f0)).f1))) (fun _ hk => hk.2) (.int .i64 ((rd_T39 (rd_L3 l0_1 a2) ((rd_T45 l1_1 a2).f0)).f2))) (fun _ hk => hk.2) (.int .i64 ((rd_T39 (rd_L3 l0_1 a2) ((rd_T45 l1_1 a2).f0)).f3))) (fun _ hk => hk.2) (.int .i64 ((rd_T39 (rd_L3 l0_1 a2) ((rd_T45 l1_1 a2).f0)).f4))) (fun _ h_ => h_.1)))); (case side6 => exact (Kd.V_reads' HO245.out).2.1); (case side7 => refine (Kd.V_reads' (e := 45) (base := w.heap.size) (ok := fun k_ => ((k_ ≠ gb237 ∧ (k_ ≠ gb238 ∧ k_ ≠ gb250)) ∧ k_ ≠ gb254)) (n := t246.length) (c := co54) ?_).2.2; exact (by (with_reducible repeat (first | apply Kd.V_alloc | apply Kd.V_drewN | apply Kd.V_drew)); exact (Kd.V_mono (Kd.V_far (p := ⟨gb254, 4, none⟩) (Kd.V_far (p := ⟨gb254, 3, none⟩) (Kd.V_far (p := ⟨gb254, 2, none⟩) (Kd.V_far (p := ⟨gb254, 1, none⟩) (Kd.V_far (p := ⟨gb254, 0, none⟩) (Kd.V_mono HO248.out (fun k_ hk => (⟨hk, hk.2⟩ : _ ∧ k_ ≠ gb254))) (fun _ hk => hk.2) (.int .i64 ((rd_T39 (rd_L3 l0_1 a2) ((rd_T45 l1_1 a2).f0)).f0))) (fun _ hk => hk.2) (.int .i64 ((rd_T39 (rd_L3 l0_1 a2) ((rd_T45 l1_1 a2).f0)).f1))) (fun _ hk => hk.2) (.int .i64 ((rd_T39 (rd_L3 l0_1 a2) ((rd_T45 l1_1 a2).f0)).f2))) (fun _ hk => hk.2) (.int .i64 ((rd_T39 (rd_L3 l0_1 a2) ((rd_T45 l1_1 a2).f0)).f3))) (fun _ hk => hk.2) (.int .i64 ((rd_T39 (rd_L3 l0_1 a2) ((rd_T45 l1_1 a2).f0)).f4))) (fun _ h_ => h_.1)))); (case side8 => exact (Kd.V_reads' HO248.out).2.1); rintro e w67 ⟨rfl, hb⟩; refine ⟨_, rfl, ?_⟩; have n0_ := Aside0.mk (Kd.V_below (by (with_reducible repeat (first | apply Kd.V_alloc | apply Kd.V_drewN | apply Kd.V_drew)); exact (Kd.V_mono (Kd.V_far (p := ⟨gb254, 4, none⟩) (Kd.V_far (p := ⟨gb254, 3, none⟩) (Kd.V_far (p := ⟨gb254, 2, none⟩) (Kd.V_far (p := ⟨gb254, 1, none⟩) (Kd.V_far (p := ⟨gb254, 0, none⟩) (Kd.V_mono HO245.out (fun k_ hk => (⟨hk, hk.2⟩ : _ ∧ k_ ≠ gb254))) (fun _ hk => hk.2) (.int .i64 ((rd_T39 (rd_L3 l0_1 a2) ((rd_T45 l1_1 a2).f0)).f0))) (fun _ hk => hk.2) (.int .i64 ((rd_T39 (rd_L3 l0_1 a2) ((rd_T45 l1_1 a2).f0)).f1))) (fun _ hk => hk.2) (.int .i64 ((rd_T39 (rd_L3 l0_1 a2) ((rd_T45 l1_1 a2).f0)).f2))) (fun _ hk => hk.2) (.int .i64 ((rd_T39 (rd_L3 l0_1 a2) ((rd_T45 l1_1 a2).f0)).f3))) (fun _ hk => hk.2) (.int .i64 ((rd_T39 (rd_L3 l0_1 a2) ((rd_T45 l1_1 a2).f0)).f4))) (fun _ h_ => h_.1))) hb); have n1_ := Aside0.mk (Kd.V_below (by (with_reducible repeat (first | apply Kd.V_alloc | apply Kd.V_drewN | apply Kd.V_drew)); exact (Kd.V_mono (Kd.V_far (p := ⟨gb254, 4, none⟩) (Kd.V_far (p := ⟨gb254, 3, none⟩) (Kd.V_far (p := ⟨gb254, 2, none⟩) (Kd.V_far (p := ⟨gb254, 1, none⟩) (Kd.V_far (p := ⟨gb254, 0, none⟩) (Kd.V_mono HO248.out (fun k_ hk => (⟨hk, hk.2⟩ : _ ∧ k_ ≠ gb254))) (fun _ hk => hk.2) (.int .i64 ((rd_T39 (rd_L3 l0_1 a2) ((rd_T45 l1_1 a2).f0)).f0))) (fun _ hk => hk.2) (.int .i64 ((rd_T39 (rd_L3 l0_1 a2) ((rd_T45 l1_1 a2).f0)).f1))) (fun _ hk => hk.2) (.int .i64 ((rd_T39 (rd_L3 l0_1 a2) ((rd_T45 l1_1 a2).f0)).f2))) (fun _ hk => hk.2) (.int .i64 ((rd_T39 (rd_L3 l0_1 a2) ((rd_T45 l1_1 a2).f0)).f3))) (fun _ hk => hk.2) (.int .i64 ((rd_T39 (rd_L3 l0_1 a2) ((rd_T45 l1_1 a2).f0)).f4))) (fun _ h_ => h_.1))) hb); have n2_ := Aside0.mk (blk_below (g := gb237) (o := .cells #[.slice A0_0 l0_0.length c0_0, .slice (some ad251) l0_1.length c0_1] 25 (0, 0)) (by (with_reducible repeat (first | refine blk_drewN ?_ _ | refine blk_drew ?_ | refine blk_alloc ?_ _)); refine blk_far ?_ NB237_254.out _; (with_reducible repeat (first | refine blk_drewN ?_ _ | refine blk_drew ?_ | refine blk_alloc ?_ _)); refine blk_far ?_ NB237_254.out _; (with_reducible repeat (first | refine blk_drewN ?_ _ | refine blk_drew ?_ | refine blk_alloc ?_ _)); refine blk_far ?_ NB237_254.out _; (with_reducible repeat (first | refine blk_drewN ?_ _ | refine blk_drew ?_ | refine blk_alloc ?_ _)); refine blk_far ?_ NB237_254.out _; (with_reducible repeat (first | refine blk_drewN ?_ _ | refine blk_drew ?_ | refine blk_alloc ?_ _)); refine blk_far ?_ NB237_254.out _; (with_reducible repeat (first | refine blk_drewN ?_ _ | refine blk_drew ?_ | refine blk_alloc ?_ _)); exact BK237.out) hb); have n3_ := Aside0.mk (blk_below (g := gb238) (o := .cells #[.slice A1_0 l1_0.length c1_0, .slice (some ad252) l1_1.length c1_1] 28 (0, 0)) (by (with_reducible repeat (first | refine blk_drewN ?_ _ | refine blk_drew ?_ | refine blk_alloc ?_ _)); refine blk_far ?_ NB238_254.out _; (with_reducible repeat (first | refine blk_drewN ?_ _ | refine blk_drew ?_ | refine blk_alloc ?_ _)); refine blk_far ?_ NB238_254.out _; (with_reducible repeat (first | refine blk_drewN ?_ _ | refine blk_drew ?_ | refine blk_alloc ?_ _)); refine blk_far ?_ NB238_254.out _; (with_reducible repeat (first | refine blk_drewN ?_ _ | refine blk_drew ?_ | refine blk_alloc ?_ _)); refine blk_far ?_ NB238_254.out _; (with_reducible repeat (first | refine blk_drewN ?_ _ | refine blk_drew ?_ | refine blk_alloc ?_ _)); refine blk_far ?_ NB238_254.out _; (with_reducible repeat (first | refine blk_drewN ?_ _ | refine blk_drew ?_ | refine blk_alloc ?_ _)); exact BK238.out) hb); have n4_ := Aside0.mk (blk_below (g := gb250) (o := .cells #[.slice Ao50 t243.length co50, .slice Ao54 t246.length co54] 28 (0, 0)) (by (with_reducible repeat (first | refine blk_drewN ?_ _ | refine blk_drew ?_ | refine blk_alloc ?_ _)); refine blk_far ?_ NB250_254.out _; (with_reducible repeat (first | refine blk_drewN ?_ _ | refine blk_drew ?_ | refine blk_alloc ?_ _)); refine blk_far ?_ NB250_254.out _; (with_reducible repeat (first | refine blk_drewN ?_ _ | refine blk_drew ?_ | refine blk_alloc ?_ _)); refine blk_far ?_ NB250_254.out _; (with_reducible repeat (first | refine blk_drewN ?_ _ | refine blk_drew ?_ | refine blk_alloc ?_ _)); refine blk_far ?_ NB250_254.out _; (with_reducible repeat (first | refine blk_drewN ?_ _ | refine blk_drew ?_ | refine blk_alloc ?_ _)); refine blk_far ?_ NB250_254.out _; (with_reducible repeat (first | refine blk_drewN ?_ _ | refine blk_drew ?_ | refine blk_alloc ?_ _)); exact BK250.out) hb); have n5_ := Aside0.mk (blk_below (g := gb254) (o := .cells #[.int .i64 ((rd_T39 (rd_L3 l0_1 a2) ((rd_T45 l1_1 a2).f0)).f0), .int .i64 ((rd_T39 (rd_L3 l0_1 a2) ((rd_T45 l1_1 a2).f0)).f1), .int .i64 ((rd_T39 (rd_L3 l0_1 a2) ((rd_T45 l1_1 a2).f0)).f2), .int .i64 ((rd_T39 (rd_L3 l0_1 a2) ((rd_T45 l1_1 a2).f0)).f3), .int .i64 ((rd_T39 (rd_L3 l0_1 a2) ((rd_T45 l1_1 a2).f0)).f4)] 39 (0, 0)) (by (with_reducible repeat (first | refine blk_drewN ?_ _ | refine blk_drew ?_ | refine blk_alloc ?_ _)); refine blk_put (cs := #[.int .i64 ((rd_T39 (rd_L3 l0_1 a2) ((rd_T45 l1_1 a2).f0)).f0), .int .i64 ((rd_T39 (rd_L3 l0_1 a2) ((rd_T45 l1_1 a2).f0)).f1), .int .i64 ((rd_T39 (rd_L3 l0_1 a2) ((rd_T45 l1_1 a2).f0)).f2), .int .i64 ((rd_T39 (rd_L3 l0_1 a2) ((rd_T45 l1_1 a2).f0)).f3), .int .i64 0]) ?_ 4 _ rfl; (with_reducible repeat (first | refine blk_drewN ?_ _ | refine blk_drew ?_ | refine blk_alloc ?_ _)); refine blk_put (cs := #[.int .i64 ((rd_T39 (rd_L3 l0_1 a2) ((rd_T45 l1_1 a2).f0)).f0), .int .i64 ((rd_T39 (rd_L3 l0_1 a2) ((rd_T45 l1_1 a2).f0)).f1), .int .i64 ((rd_T39 (rd_L3 l0_1 a2) ((rd_T45 l1_1 a2).f0)).f2), .int .i64 0, .int .i64 0]) ?_ 3 _ rfl; (with_reducible repeat (first | refine blk_drewN ?_ _ | refine blk_drew ?_ | refine blk_alloc ?_ _)); refine blk_put (cs := #[.int .i64 ((rd_T39 (rd_L3 l0_1 a2) ((rd_T45 l1_1 a2).f0)).f0), .int .i64 ((rd_T39 (rd_L3 l0_1 a2) ((rd_T45 l1_1 a2).f0)).f1), .int .i64 0, .int .i64 0, .int .i64 0]) ?_ 2 _ rfl; (with_reducible repeat (first | refine blk_drewN ?_ _ | refine blk_drew ?_ | refine blk_alloc ?_ _)); refine blk_put (cs := #[.int .i64 ((rd_T39 (rd_L3 l0_1 a2) ((rd_T45 l1_1 a2).f0)).f0), .int .i64 0, .int .i64 0, .int .i64 0, .int .i64 0]) ?_ 1 _ rfl; (with_reducible repeat (first | refine blk_drewN ?_ _ | refine blk_drew ?_ | refine blk_alloc ?_ _)); refine blk_put (cs := #[.int .i64 0, .int .i64 0, .int .i64 0, .int .i64 0, .int .i64 0]) ?_ 0 _ rfl; (with_reducible repeat (first | refine blk_drewN ?_ _ | refine blk_drew ?_ | refine blk_alloc ?_ _)); exact BK254.out) hb); have n6_ := Aside0.mk (below_step (by repeat (first | (with_reducible first | exact HB.out | apply below_alloc | apply pw_below_drewN | apply below_drew1 | refine below_set ?_ GE237.out | refine below_set ?_ GE238.out | refine below_set ?_ GE250.out | refine below_set ?_ GE254.out) | exact HB.out)) hb); clear HO245; clear HO248; clear BK237; clear BK238; clear BK250; clear BK254; clear HB; have HO245 := n0_; have HO248 := n1_; have BK237 := n2_; have BK238 := n3_; have BK250 := n4_; have BK254 := n5_; have HB := n6_; clear n0_ n1_ n2_ n3_ n4_ n5_ n6_; (try clear hb); (try clear hb2); (try clear hk); (try clear hi); have hnb68 := NB238_254.out; have hnc68 := NB254_238.out; have hcz69_0 : w67.cell? ⟨gb238, 0, none⟩ = some (.slice A1_0 l1_0.length c1_0) := (blk_cell BK238.out 0).trans rfl; have hcz69_1 : w67.cell? ⟨gb238, 1, none⟩ = some (.slice (some ad252) l1_1.length c1_1) := (blk_cell BK238.out 1).trans rfl; have hfz69_0 := blk_frozen BK238.out 0; have hfz69_1 := blk_frozen BK238.out 1; have p256 : 0 ≤ (a2 : Int) := of_decide_eq_true (by first | (with_reducible assumption) | assumption); have q256 : a2 < (l1_1.length : Int) := of_decide_eq_true (by first | (with_reducible assumption) | assumption); obtain ⟨ad256, A256_1, c256_1, A256_3, c256_3, e256, hx256_0, hx256_1, hx256_2, hx256_3, hl256_1, hi256_1, hl256_3, hi256_3⟩ := at_T45 HR1_1.out a2 p256 q256; obtain rfl : ad252 = ad256 := (by injection e256); replace hx256_0 := (HB.out.cell (World.block_lt_of_cell? w _ hx256_0)).trans hx256_0; replace hx256_1 := (HB.out.cell (World.block_lt_of_cell? w _ hx256_1)).trans hx256_1; replace hx256_2 := (HB.out.cell (World.block_lt_of_cell? w _ hx256_2)).trans hx256_2; replace hx256_3 := (HB.out.cell (World.block_lt_of_cell? w _ hx256_3)).trans hx256_3; have HR256_1 := Aside0.mk hi256_1; have HC256_1 := Aside0.mk hl256_1; clear hi256_1 hl256_1; have HR256_3 := Aside0.mk hi256_3; have HC256_3 := Aside0.mk hl256_3; clear hi256_3 hl256_3; replace p256 := eq_true p256; replace q256 := eq_true q256; have p257 : 0 ≤ ((ji41) : Int) := of_decide_eq_true (by first | (with_reducible assumption) | assumption); have q257 : (ji41) < (((rd_T45 l1_1 a2).f1).length : Int) := of_decide_eq_true (by first | (with_reducible assumption) | assumption); obtain ⟨ad257, e257, hx257_0⟩ := Kd.at_int HR256_1.out (ji41) p257 q257; cases e257; replace hx257_0 := (HB.out.cell (World.block_lt_of_cell? w _ hx257_0)).trans hx257_0; replace p257 := eq_true p257; replace q257 := eq_true q257))
  (try simp only [Act.put, List.setIfInBounds_toArray, List.set_cons_zero, List.set_cons_succ])
  go_cut [76] (fun v76 wc => ∃ (kq : Nat) (x76_43 : Bool), v76 = .bool x76_43 ∧ Aside0 (fencepostlaw10_ScReads.j1 kq a2 t239 ji41 (rd ((rd_T45 l1_1 a2).f1) (ji41)) x76_43 l1_0 l1_1 t243 t246 ((rd_T39 (rd_L3 l0_1 a2) ((rd_T45 l1_1 a2).f0)).f0) ((rd_T39 (rd_L3 l0_1 a2) ((rd_T45 l1_1 a2).f0)).f1) ((rd_T39 (rd_L3 l0_1 a2) ((rd_T45 l1_1 a2).f0)).f2) ((rd_T39 (rd_L3 l0_1 a2) ((rd_T45 l1_1 a2).f0)).f3) ((rd_T39 (rd_L3 l0_1 a2) ((rd_T45 l1_1 a2).f0)).f4) = some r) ∧ Aside0 (kq ≤ kj5) ∧ Aside0 (Kd.V (Kd.int .i64) 3 wc w.heap.size (fun k_ => k_ ≠ gb237 ∧ k_ ≠ gb238 ∧ k_ ≠ gb250 ∧ k_ ≠ gb254) (.slice Ao50 t243.length co50) t243) ∧ Aside0 (Kd.V k45 45 wc w.heap.size (fun k_ => k_ ≠ gb237 ∧ k_ ≠ gb238 ∧ k_ ≠ gb250 ∧ k_ ≠ gb254) (.slice Ao54 t246.length co54) t246) ∧ Aside0 (wc.heap[gb237]? = some (.cells #[(.slice A0_0 l0_0.length c0_0), (.slice (some ad251) l0_1.length c0_1)] 25 (0, 0))) ∧ Aside0 (wc.heap[gb238]? = some (.cells #[(.slice A1_0 l1_0.length c1_0), (.slice (some ad252) l1_1.length c1_1)] 28 (0, 0))) ∧ Aside0 (wc.heap[gb250]? = some (.cells #[(.slice Ao50 t243.length co50), (.slice Ao54 t246.length co54)] 28 (0, 0))) ∧ Aside0 (wc.heap[gb254]? = some (.cells #[.int .i64 ((rd_T39 (rd_L3 l0_1 a2) ((rd_T45 l1_1 a2).f0)).f0), .int .i64 ((rd_T39 (rd_L3 l0_1 a2) ((rd_T45 l1_1 a2).f0)).f1), .int .i64 ((rd_T39 (rd_L3 l0_1 a2) ((rd_T45 l1_1 a2).f0)).f2), .int .i64 ((rd_T39 (rd_L3 l0_1 a2) ((rd_T45 l1_1 a2).f0)).f3), .int .i64 ((rd_T39 (rd_L3 l0_1 a2) ((rd_T45 l1_1 a2).f0)).f4)] 39 (0, 0))) ∧ Aside0 (Below w.heap.size w wc))
  case first =>
   have H := HC44.out
   clear HC44
   by_cases c70 : (ji41) = ((rd_T39 (rd_L3 l0_1 a2) ((rd_T45 l1_1 a2).f0)).f1)
   rotate_left
   ·rw [if_neg c70] at H
    have c70b0 : ((ji41) == ((rd_T39 (rd_L3 l0_1 a2) ((rd_T45 l1_1 a2).f0)).f1)) = false := beq_eq_false_iff_ne.mpr c70
    have c70b1 : ((ji41) != ((rd_T39 (rd_L3 l0_1 a2) ((rd_T45 l1_1 a2).f0)).f1)) = true := bne_iff_ne.mpr c70
    (first | rw [c70b0] | (simp only [i64_w, i32_w]; rw [c70b0]) | skip)
    have H' := Aside0.mk H
    clear H
    have hnb75 := NB254_237.out
    have hnc75 := NB237_254.out
    have hnb76 := NB254_238.out
    have hnc76 := NB238_254.out
    have hnb77 := NB254_250.out
    have hnc77 := NB250_254.out
    have hcz78_0 : w67.cell? ⟨gb254, 0, none⟩ = some (.int .i64 ((rd_T39 (rd_L3 l0_1 a2) ((rd_T45 l1_1 a2).f0)).f0)) := (blk_cell BK254.out 0).trans rfl
    have hcz78_1 : w67.cell? ⟨gb254, 1, none⟩ = some (.int .i64 ((rd_T39 (rd_L3 l0_1 a2) ((rd_T45 l1_1 a2).f0)).f1)) := (blk_cell BK254.out 1).trans rfl
    have hcz78_2 : w67.cell? ⟨gb254, 2, none⟩ = some (.int .i64 ((rd_T39 (rd_L3 l0_1 a2) ((rd_T45 l1_1 a2).f0)).f2)) := (blk_cell BK254.out 2).trans rfl
    have hcz78_3 : w67.cell? ⟨gb254, 3, none⟩ = some (.int .i64 ((rd_T39 (rd_L3 l0_1 a2) ((rd_T45 l1_1 a2).f0)).f3)) := (blk_cell BK254.out 3).trans rfl
    have hcz78_4 : w67.cell? ⟨gb254, 4, none⟩ = some (.int .i64 ((rd_T39 (rd_L3 l0_1 a2) ((rd_T45 l1_1 a2).f0)).f4)) := (blk_cell BK254.out 4).trans rfl
    have hfz78_0 := blk_frozen BK254.out 0
    have hfz78_1 := blk_frozen BK254.out 1
    have hfz78_2 := blk_frozen BK254.out 2
    have hfz78_3 := blk_frozen BK254.out 3
    have hfz78_4 := blk_frozen BK254.out 4
    go_wp2
    go_meet
    case rel => exact ⟨_, (false), (by first | rfl | (simp; done) | (simp [*]; done)), H', ⟨by have := HJ5.out; first | omega | exact Nat.le_refl _⟩, ⟨by (with_reducible repeat (first | apply Kd.V_alloc | apply Kd.V_drewN | apply Kd.V_drew)); exact Kd.V_mono HO245.out (fun _ hk => ⟨hk.1.1, ⟨hk.1.2.1, ⟨hk.1.2.2, hk.2⟩⟩⟩)⟩, ⟨by (with_reducible repeat (first | apply Kd.V_alloc | apply Kd.V_drewN | apply Kd.V_drew)); exact Kd.V_mono HO248.out (fun _ hk => ⟨hk.1.1, ⟨hk.1.2.1, ⟨hk.1.2.2, hk.2⟩⟩⟩)⟩, ⟨by (with_reducible repeat (first | refine blk_drewN ?_ _ | refine blk_drew ?_ | refine blk_alloc ?_ _)); exact BK237.out⟩, ⟨by (with_reducible repeat (first | refine blk_drewN ?_ _ | refine blk_drew ?_ | refine blk_alloc ?_ _)); exact BK238.out⟩, ⟨by (with_reducible repeat (first | refine blk_drewN ?_ _ | refine blk_drew ?_ | refine blk_alloc ?_ _)); exact BK250.out⟩, ⟨by (with_reducible repeat (first | refine blk_drewN ?_ _ | refine blk_drew ?_ | refine blk_alloc ?_ _)); exact BK254.out⟩, ⟨by repeat (first | (with_reducible first | exact HB.out | apply below_alloc | apply pw_below_drewN | apply below_drew1 | refine below_set ?_ GE237.out | refine below_set ?_ GE238.out | refine below_set ?_ GE250.out | refine below_set ?_ GE254.out) | exact HB.out)⟩⟩
   rw [if_pos c70] at H
   have c70b0 : ((ji41) == ((rd_T39 (rd_L3 l0_1 a2) ((rd_T45 l1_1 a2).f0)).f1)) = true := beq_iff_eq.mpr c70
   have c70b1 : ((ji41) != ((rd_T39 (rd_L3 l0_1 a2) ((rd_T45 l1_1 a2).f0)).f1)) = false := bne_eq_false_iff_eq.mpr c70
   clear c70
   (first | rw [c70b0] | (simp only [i64_w, i32_w]; rw [c70b0]) | skip)
   have H' := Aside0.mk H
   clear H
   have hnb71 := NB254_237.out
   have hnc71 := NB237_254.out
   have hnb72 := NB254_238.out
   have hnc72 := NB238_254.out
   have hnb73 := NB254_250.out
   have hnc73 := NB250_254.out
   have hcz74_0 : w67.cell? ⟨gb254, 0, none⟩ = some (.int .i64 ((rd_T39 (rd_L3 l0_1 a2) ((rd_T45 l1_1 a2).f0)).f0)) := (blk_cell BK254.out 0).trans rfl
   have hcz74_1 : w67.cell? ⟨gb254, 1, none⟩ = some (.int .i64 ((rd_T39 (rd_L3 l0_1 a2) ((rd_T45 l1_1 a2).f0)).f1)) := (blk_cell BK254.out 1).trans rfl
   have hcz74_2 : w67.cell? ⟨gb254, 2, none⟩ = some (.int .i64 ((rd_T39 (rd_L3 l0_1 a2) ((rd_T45 l1_1 a2).f0)).f2)) := (blk_cell BK254.out 2).trans rfl
   have hcz74_3 : w67.cell? ⟨gb254, 3, none⟩ = some (.int .i64 ((rd_T39 (rd_L3 l0_1 a2) ((rd_T45 l1_1 a2).f0)).f3)) := (blk_cell BK254.out 3).trans rfl
   have hcz74_4 : w67.cell? ⟨gb254, 4, none⟩ = some (.int .i64 ((rd_T39 (rd_L3 l0_1 a2) ((rd_T45 l1_1 a2).f0)).f4)) := (blk_cell BK254.out 4).trans rfl
   have hfz74_0 := blk_frozen BK254.out 0
   have hfz74_1 := blk_frozen BK254.out 1
   have hfz74_2 := blk_frozen BK254.out 2
   have hfz74_3 := blk_frozen BK254.out 3
   have hfz74_4 := blk_frozen BK254.out 4
   go_wp2
   go_meet
   case rel => exact ⟨_, ((((rd_T39 (rd_L3 l0_1 a2) ((rd_T45 l1_1 a2).f0)).f0) == 1)), (by first | rfl | (simp; done) | (simp [*]; done)), H', ⟨by have := HJ5.out; first | omega | exact Nat.le_refl _⟩, ⟨by (with_reducible repeat (first | apply Kd.V_alloc | apply Kd.V_drewN | apply Kd.V_drew)); exact Kd.V_mono HO245.out (fun _ hk => ⟨hk.1.1, ⟨hk.1.2.1, ⟨hk.1.2.2, hk.2⟩⟩⟩)⟩, ⟨by (with_reducible repeat (first | apply Kd.V_alloc | apply Kd.V_drewN | apply Kd.V_drew)); exact Kd.V_mono HO248.out (fun _ hk => ⟨hk.1.1, ⟨hk.1.2.1, ⟨hk.1.2.2, hk.2⟩⟩⟩)⟩, ⟨by (with_reducible repeat (first | refine blk_drewN ?_ _ | refine blk_drew ?_ | refine blk_alloc ?_ _)); exact BK237.out⟩, ⟨by (with_reducible repeat (first | refine blk_drewN ?_ _ | refine blk_drew ?_ | refine blk_alloc ?_ _)); exact BK238.out⟩, ⟨by (with_reducible repeat (first | refine blk_drewN ?_ _ | refine blk_drew ?_ | refine blk_alloc ?_ _)); exact BK250.out⟩, ⟨by (with_reducible repeat (first | refine blk_drewN ?_ _ | refine blk_drew ?_ | refine blk_alloc ?_ _)); exact BK254.out⟩, ⟨by repeat (first | (with_reducible first | exact HB.out | apply below_alloc | apply pw_below_drewN | apply below_drew1 | refine below_set ?_ GE237.out | refine below_set ?_ GE238.out | refine below_set ?_ GE250.out | refine below_set ?_ GE254.out) | exact HB.out)⟩⟩
  case rest => as_aux_lemma =>
   clear HC44
   try clear c31
   try clear c33
   try clear c34
   try clear c34b0
   try clear c35
   try clear c35b0
   try clear c36
   try clear c36b0
   try clear c37
   try clear c37b0
   try clear c38
   try clear c38b0
   try clear c40
   try clear c42
   try clear c42b0
   try clear c43
   try clear c43b0
   try clear hcz46_0
   try clear hcz46_1
   try clear hcz47_0
   try clear hcz47_1
   try clear hcz53_0
   try clear hcz53_1
   try clear hcz64_0
   try clear hcz64_1
   try clear hcz66_0
   try clear hcz66_1
   try clear hcz69_0
   try clear hcz69_1
   try clear hfz46_0
   try clear hfz46_1
   try clear hfz47_0
   try clear hfz47_1
   try clear hfz53_0
   try clear hfz53_1
   try clear hfz64_0
   try clear hfz64_1
   try clear hfz66_0
   try clear hfz66_1
   try clear hfz69_0
   try clear hfz69_1
   try clear hx251_0
   try clear hx252_0
   try clear hx252_1
   try clear hx252_2
   try clear hx252_3
   try clear hx253_0
   try clear hx253_1
   try clear hx253_2
   try clear hx253_3
   try clear hx253_4
   try clear hx256_0
   try clear hx256_1
   try clear hx256_2
   try clear hx256_3
   try clear hx257_0
   try clear p251
   try clear p252
   try clear p253
   try clear p256
   try clear p257
   try clear q251
   try clear q252
   try clear q253
   try clear q256
   try clear q257
   obtain ⟨kq, x76_43, rfl, HA, HJ43, HO_251000, HO_251001, BK237, BK238, BK250, BK254, HB⟩ := hcut
   cases kq with
   | zero => exact absurd HA.out (by simp [fencepostlaw10_ScReads.j1])
   | succ kj43 => ?_
   have H := HA.out
   clear HA
   simp only [fencepostlaw10_ScReads.j1] at H
   have HC79 := Aside0.mk H
   clear H
   go_upto_if 76 with (fail)
   go_cut [14] (fun v14 wc => ∃ (kq : Nat) (x14_78 : Int), v14 = .int .i64 x14_78 ∧ Aside0 (fencepostlaw10_ScReads.j2 kq a2 t239 ji41 x14_78 l1_0 l1_1 t243 t246 ((rd_T39 (rd_L3 l0_1 a2) ((rd_T45 l1_1 a2).f0)).f0) ((rd_T39 (rd_L3 l0_1 a2) ((rd_T45 l1_1 a2).f0)).f1) ((rd_T39 (rd_L3 l0_1 a2) ((rd_T45 l1_1 a2).f0)).f2) ((rd_T39 (rd_L3 l0_1 a2) ((rd_T45 l1_1 a2).f0)).f3) ((rd_T39 (rd_L3 l0_1 a2) ((rd_T45 l1_1 a2).f0)).f4) = some r) ∧ Aside0 (kq ≤ kj43) ∧ Aside0 (Kd.V (Kd.int .i64) 3 wc w.heap.size (fun k_ => k_ ≠ gb237 ∧ k_ ≠ gb238 ∧ k_ ≠ gb250 ∧ k_ ≠ gb254) (.slice Ao50 t243.length co50) t243) ∧ Aside0 (Kd.V k45 45 wc w.heap.size (fun k_ => k_ ≠ gb237 ∧ k_ ≠ gb238 ∧ k_ ≠ gb250 ∧ k_ ≠ gb254) (.slice Ao54 t246.length co54) t246) ∧ Aside0 (wc.heap[gb237]? = some (.cells #[(.slice A0_0 l0_0.length c0_0), (.slice (some ad251) l0_1.length c0_1)] 25 (0, 0))) ∧ Aside0 (wc.heap[gb238]? = some (.cells #[(.slice A1_0 l1_0.length c1_0), (.slice (some ad252) l1_1.length c1_1)] 28 (0, 0))) ∧ Aside0 (wc.heap[gb250]? = some (.cells #[(.slice Ao50 t243.length co50), (.slice Ao54 t246.length co54)] 28 (0, 0))) ∧ Aside0 (wc.heap[gb254]? = some (.cells #[.int .i64 ((rd_T39 (rd_L3 l0_1 a2) ((rd_T45 l1_1 a2).f0)).f0), .int .i64 ((rd_T39 (rd_L3 l0_1 a2) ((rd_T45 l1_1 a2).f0)).f1), .int .i64 ((rd_T39 (rd_L3 l0_1 a2) ((rd_T45 l1_1 a2).f0)).f2), .int .i64 ((rd_T39 (rd_L3 l0_1 a2) ((rd_T45 l1_1 a2).f0)).f3), .int .i64 ((rd_T39 (rd_L3 l0_1 a2) ((rd_T45 l1_1 a2).f0)).f4)] 39 (0, 0))) ∧ Aside0 (Below w.heap.size w wc))
   case first =>
    have H := HC79.out
    clear HC79
    by_cases c80 : x76_43 = true
    rotate_left
    ·replace c80 := Bool.eq_false_iff.mpr c80
     subst c80
     have H1 : (fencepostlaw10_ScReads.j2 kj43 a2 t239 ji41 (rd ((rd_T45 l1_1 a2).f1) (ji41)) l1_0 l1_1 t243 t246 ((rd_T39 (rd_L3 l0_1 a2) ((rd_T45 l1_1 a2).f0)).f0) ((rd_T39 (rd_L3 l0_1 a2) ((rd_T45 l1_1 a2).f0)).f1) ((rd_T39 (rd_L3 l0_1 a2) ((rd_T45 l1_1 a2).f0)).f2) ((rd_T39 (rd_L3 l0_1 a2) ((rd_T45 l1_1 a2).f0)).f3) ((rd_T39 (rd_L3 l0_1 a2) ((rd_T45 l1_1 a2).f0)).f4)) = some r := by rw [if_neg (show ¬ (false = true) by decide)] at H; exact H
     clear H
     have H := H1
     clear H1
     have H' := Aside0.mk H
     clear H
     go_wp2
     go_meet
     case rel => exact ⟨_, ((rd ((rd_T45 l1_1 a2).f1) (ji41))), (by first | rfl | (simp; done) | (simp only [← hji41] <;> (first | rfl | simp)) | (simp [*]; done)), H', ⟨by have := HJ5.out; have := HJ43.out; first | omega | exact Nat.le_refl _⟩, ⟨by (with_reducible repeat (first | apply Kd.V_alloc | apply Kd.V_drewN | apply Kd.V_drew)); exact HO_251000.out⟩, ⟨by (with_reducible repeat (first | apply Kd.V_alloc | apply Kd.V_drewN | apply Kd.V_drew)); exact HO_251001.out⟩, ⟨by (with_reducible repeat (first | refine blk_drewN ?_ _ | refine blk_drew ?_ | refine blk_alloc ?_ _)); exact BK237.out⟩, ⟨by (with_reducible repeat (first | refine blk_drewN ?_ _ | refine blk_drew ?_ | refine blk_alloc ?_ _)); exact BK238.out⟩, ⟨by (with_reducible repeat (first | refine blk_drewN ?_ _ | refine blk_drew ?_ | refine blk_alloc ?_ _)); exact BK250.out⟩, ⟨by (with_reducible repeat (first | refine blk_drewN ?_ _ | refine blk_drew ?_ | refine blk_alloc ?_ _)); exact BK254.out⟩, ⟨by repeat (first | (with_reducible first | exact HB.out | apply below_alloc | apply pw_below_drewN | apply below_drew1 | refine below_set ?_ GE237.out | refine below_set ?_ GE238.out | refine below_set ?_ GE250.out | refine below_set ?_ GE254.out) | exact HB.out)⟩⟩
    subst c80
    have H1 : (fencepostlaw10_ScReads.j2 kj43 a2 t239 ji41 ((rd_T39 (rd_L3 l0_1 a2) ((rd_T45 l1_1 a2).f0)).f3) l1_0 l1_1 t243 t246 ((rd_T39 (rd_L3 l0_1 a2) ((rd_T45 l1_1 a2).f0)).f0) ((rd_T39 (rd_L3 l0_1 a2) ((rd_T45 l1_1 a2).f0)).f1) ((rd_T39 (rd_L3 l0_1 a2) ((rd_T45 l1_1 a2).f0)).f2) ((rd_T39 (rd_L3 l0_1 a2) ((rd_T45 l1_1 a2).f0)).f3) ((rd_T39 (rd_L3 l0_1 a2) ((rd_T45 l1_1 a2).f0)).f4)) = some r := by rw [if_pos rfl] at H; exact H
    clear H
    have H := H1
    clear H1
    have H' := Aside0.mk H
    clear H
    have hnb81 := NB254_237.out
    have hnc81 := NB237_254.out
    have hnb82 := NB254_238.out
    have hnc82 := NB238_254.out
    have hnb83 := NB254_250.out
    have hnc83 := NB250_254.out
    have hcz84_0 : wc.cell? ⟨gb254, 0, none⟩ = some (.int .i64 ((rd_T39 (rd_L3 l0_1 a2) ((rd_T45 l1_1 a2).f0)).f0)) := (blk_cell BK254.out 0).trans rfl
    have hcz84_1 : wc.cell? ⟨gb254, 1, none⟩ = some (.int .i64 ((rd_T39 (rd_L3 l0_1 a2) ((rd_T45 l1_1 a2).f0)).f1)) := (blk_cell BK254.out 1).trans rfl
    have hcz84_2 : wc.cell? ⟨gb254, 2, none⟩ = some (.int .i64 ((rd_T39 (rd_L3 l0_1 a2) ((rd_T45 l1_1 a2).f0)).f2)) := (blk_cell BK254.out 2).trans rfl
    have hcz84_3 : wc.cell? ⟨gb254, 3, none⟩ = some (.int .i64 ((rd_T39 (rd_L3 l0_1 a2) ((rd_T45 l1_1 a2).f0)).f3)) := (blk_cell BK254.out 3).trans rfl
    have hcz84_4 : wc.cell? ⟨gb254, 4, none⟩ = some (.int .i64 ((rd_T39 (rd_L3 l0_1 a2) ((rd_T45 l1_1 a2).f0)).f4)) := (blk_cell BK254.out 4).trans rfl
    have hfz84_0 := blk_frozen BK254.out 0
    have hfz84_1 := blk_frozen BK254.out 1
    have hfz84_2 := blk_frozen BK254.out 2
    have hfz84_3 := blk_frozen BK254.out 3
    have hfz84_4 := blk_frozen BK254.out 4
    go_wp2
    go_meet
    case rel => exact ⟨_, (((rd_T39 (rd_L3 l0_1 a2) ((rd_T45 l1_1 a2).f0)).f3)), (by first | rfl | (simp; done) | (simp [*]; done)), H', ⟨by have := HJ5.out; have := HJ43.out; first | omega | exact Nat.le_refl _⟩, ⟨by (with_reducible repeat (first | apply Kd.V_alloc | apply Kd.V_drewN | apply Kd.V_drew)); exact HO_251000.out⟩, ⟨by (with_reducible repeat (first | apply Kd.V_alloc | apply Kd.V_drewN | apply Kd.V_drew)); exact HO_251001.out⟩, ⟨by (with_reducible repeat (first | refine blk_drewN ?_ _ | refine blk_drew ?_ | refine blk_alloc ?_ _)); exact BK237.out⟩, ⟨by (with_reducible repeat (first | refine blk_drewN ?_ _ | refine blk_drew ?_ | refine blk_alloc ?_ _)); exact BK238.out⟩, ⟨by (with_reducible repeat (first | refine blk_drewN ?_ _ | refine blk_drew ?_ | refine blk_alloc ?_ _)); exact BK250.out⟩, ⟨by (with_reducible repeat (first | refine blk_drewN ?_ _ | refine blk_drew ?_ | refine blk_alloc ?_ _)); exact BK254.out⟩, ⟨by repeat (first | (with_reducible first | exact HB.out | apply below_alloc | apply pw_below_drewN | apply below_drew1 | refine below_set ?_ GE237.out | refine below_set ?_ GE238.out | refine below_set ?_ GE250.out | refine below_set ?_ GE254.out) | exact HB.out)⟩⟩
   case rest => as_aux_lemma =>
    clear HC79
    try clear c31
    try clear c33
    try clear c34
    try clear c34b0
    try clear c35
    try clear c35b0
    try clear c36
    try clear c36b0
    try clear c37
    try clear c37b0
    try clear c38
    try clear c38b0
    try clear c40
    try clear c42
    try clear c42b0
    try clear c43
    try clear c43b0
    try clear hcz46_0
    try clear hcz46_1
    try clear hcz47_0
    try clear hcz47_1
    try clear hcz53_0
    try clear hcz53_1
    try clear hcz64_0
    try clear hcz64_1
    try clear hcz66_0
    try clear hcz66_1
    try clear hcz69_0
    try clear hcz69_1
    try clear hfz46_0
    try clear hfz46_1
    try clear hfz47_0
    try clear hfz47_1
    try clear hfz53_0
    try clear hfz53_1
    try clear hfz64_0
    try clear hfz64_1
    try clear hfz66_0
    try clear hfz66_1
    try clear hfz69_0
    try clear hfz69_1
    try clear hx251_0
    try clear hx252_0
    try clear hx252_1
    try clear hx252_2
    try clear hx252_3
    try clear hx253_0
    try clear hx253_1
    try clear hx253_2
    try clear hx253_3
    try clear hx253_4
    try clear hx256_0
    try clear hx256_1
    try clear hx256_2
    try clear hx256_3
    try clear hx257_0
    try clear p251
    try clear p252
    try clear p253
    try clear p256
    try clear p257
    try clear q251
    try clear q252
    try clear q253
    try clear q256
    try clear q257
    obtain ⟨kq, x14_78, rfl, HA, HJ78, HO_251000, HO_251001, BK237, BK238, BK250, BK254, HB⟩ := hcut
    cases kq with
    | zero => exact absurd HA.out (by simp [fencepostlaw10_ScReads.j2])
    | succ kj78 => ?_
    have H := HA.out
    clear HA
    simp only [fencepostlaw10_ScReads.j2] at H
    have HC85 := Aside0.mk H
    clear H
    go_upto_region 14 with (fail)
    go_cut [92] (fun v92 wc => ∃ (kq : Nat) (x92_84 : Bool), v92 = .bool x92_84 ∧ Aside0 (fencepostlaw10_ScReads.j3 kq a2 t239 ji41 x14_78 x92_84 l1_0 l1_1 t243 t246 ((rd_T39 (rd_L3 l0_1 a2) ((rd_T45 l1_1 a2).f0)).f0) ((rd_T39 (rd_L3 l0_1 a2) ((rd_T45 l1_1 a2).f0)).f1) ((rd_T39 (rd_L3 l0_1 a2) ((rd_T45 l1_1 a2).f0)).f2) ((rd_T39 (rd_L3 l0_1 a2) ((rd_T45 l1_1 a2).f0)).f3) ((rd_T39 (rd_L3 l0_1 a2) ((rd_T45 l1_1 a2).f0)).f4) = some r) ∧ Aside0 (kq ≤ kj78) ∧ Aside0 (Kd.V (Kd.int .i64) 3 wc w.heap.size (fun k_ => k_ ≠ gb237 ∧ k_ ≠ gb238 ∧ k_ ≠ gb250 ∧ k_ ≠ gb254) (.slice Ao50 t243.length co50) t243) ∧ Aside0 (Kd.V k45 45 wc w.heap.size (fun k_ => k_ ≠ gb237 ∧ k_ ≠ gb238 ∧ k_ ≠ gb250 ∧ k_ ≠ gb254) (.slice Ao54 t246.length co54) t246) ∧ Aside0 (wc.heap[gb237]? = some (.cells #[(.slice A0_0 l0_0.length c0_0), (.slice (some ad251) l0_1.length c0_1)] 25 (0, 0))) ∧ Aside0 (wc.heap[gb238]? = some (.cells #[(.slice A1_0 l1_0.length c1_0), (.slice (some ad252) l1_1.length c1_1)] 28 (0, 0))) ∧ Aside0 (wc.heap[gb250]? = some (.cells #[(.slice Ao50 t243.length co50), (.slice Ao54 t246.length co54)] 28 (0, 0))) ∧ Aside0 (wc.heap[gb254]? = some (.cells #[.int .i64 ((rd_T39 (rd_L3 l0_1 a2) ((rd_T45 l1_1 a2).f0)).f0), .int .i64 ((rd_T39 (rd_L3 l0_1 a2) ((rd_T45 l1_1 a2).f0)).f1), .int .i64 ((rd_T39 (rd_L3 l0_1 a2) ((rd_T45 l1_1 a2).f0)).f2), .int .i64 ((rd_T39 (rd_L3 l0_1 a2) ((rd_T45 l1_1 a2).f0)).f3), .int .i64 ((rd_T39 (rd_L3 l0_1 a2) ((rd_T45 l1_1 a2).f0)).f4)] 39 (0, 0))) ∧ Aside0 (Below w.heap.size w wc))
    case first =>
     have H := HC85.out
     clear HC85
     by_cases c86 : ji41 = ((rd_T39 (rd_L3 l0_1 a2) ((rd_T45 l1_1 a2).f0)).f1)
     rotate_left
     ·rw [if_neg c86] at H
      have c86b0 : (ji41 == ((rd_T39 (rd_L3 l0_1 a2) ((rd_T45 l1_1 a2).f0)).f1)) = false := beq_eq_false_iff_ne.mpr c86
      have c86b1 : (ji41 != ((rd_T39 (rd_L3 l0_1 a2) ((rd_T45 l1_1 a2).f0)).f1)) = true := bne_iff_ne.mpr c86
      (first | rw [c86b0] | (simp only [i64_w, i32_w]; rw [c86b0]) | skip)
      have H' := Aside0.mk H
      clear H
      have hnb96 := NB254_237.out
      have hnc96 := NB237_254.out
      have hnb97 := NB254_238.out
      have hnc97 := NB238_254.out
      have hnb98 := NB254_250.out
      have hnc98 := NB250_254.out
      have hcz99_0 : wc.cell? ⟨gb254, 0, none⟩ = some (.int .i64 ((rd_T39 (rd_L3 l0_1 a2) ((rd_T45 l1_1 a2).f0)).f0)) := (blk_cell BK254.out 0).trans rfl
      have hcz99_1 : wc.cell? ⟨gb254, 1, none⟩ = some (.int .i64 ((rd_T39 (rd_L3 l0_1 a2) ((rd_T45 l1_1 a2).f0)).f1)) := (blk_cell BK254.out 1).trans rfl
      have hcz99_2 : wc.cell? ⟨gb254, 2, none⟩ = some (.int .i64 ((rd_T39 (rd_L3 l0_1 a2) ((rd_T45 l1_1 a2).f0)).f2)) := (blk_cell BK254.out 2).trans rfl
      have hcz99_3 : wc.cell? ⟨gb254, 3, none⟩ = some (.int .i64 ((rd_T39 (rd_L3 l0_1 a2) ((rd_T45 l1_1 a2).f0)).f3)) := (blk_cell BK254.out 3).trans rfl
      have hcz99_4 : wc.cell? ⟨gb254, 4, none⟩ = some (.int .i64 ((rd_T39 (rd_L3 l0_1 a2) ((rd_T45 l1_1 a2).f0)).f4)) := (blk_cell BK254.out 4).trans rfl
      have hfz99_0 := blk_frozen BK254.out 0
      have hfz99_1 := blk_frozen BK254.out 1
      have hfz99_2 := blk_frozen BK254.out 2
      have hfz99_3 := blk_frozen BK254.out 3
      have hfz99_4 := blk_frozen BK254.out 4
      go_wp2
      go_meet
      case rel => exact ⟨_, (false), (by first | rfl | (simp; done) | (simp [*]; done)), H', ⟨by have := HJ5.out; have := HJ43.out; have := HJ78.out; first | omega | exact Nat.le_refl _⟩, ⟨by (with_reducible repeat (first | apply Kd.V_alloc | apply Kd.V_drewN | apply Kd.V_drew)); exact HO_251000.out⟩, ⟨by (with_reducible repeat (first | apply Kd.V_alloc | apply Kd.V_drewN | apply Kd.V_drew)); exact HO_251001.out⟩, ⟨by (with_reducible repeat (first | refine blk_drewN ?_ _ | refine blk_drew ?_ | refine blk_alloc ?_ _)); exact BK237.out⟩, ⟨by (with_reducible repeat (first | refine blk_drewN ?_ _ | refine blk_drew ?_ | refine blk_alloc ?_ _)); exact BK238.out⟩, ⟨by (with_reducible repeat (first | refine blk_drewN ?_ _ | refine blk_drew ?_ | refine blk_alloc ?_ _)); exact BK250.out⟩, ⟨by (with_reducible repeat (first | refine blk_drewN ?_ _ | refine blk_drew ?_ | refine blk_alloc ?_ _)); exact BK254.out⟩, ⟨by repeat (first | (with_reducible first | exact HB.out | apply below_alloc | apply pw_below_drewN | apply below_drew1 | refine below_set ?_ GE237.out | refine below_set ?_ GE238.out | refine below_set ?_ GE250.out | refine below_set ?_ GE254.out) | exact HB.out)⟩⟩
     rw [if_pos c86] at H
     have c86b0 : (ji41 == ((rd_T39 (rd_L3 l0_1 a2) ((rd_T45 l1_1 a2).f0)).f1)) = true := beq_iff_eq.mpr c86
     have c86b1 : (ji41 != ((rd_T39 (rd_L3 l0_1 a2) ((rd_T45 l1_1 a2).f0)).f1)) = false := bne_eq_false_iff_eq.mpr c86
     clear c86
     (first | rw [c86b0] | (simp only [i64_w, i32_w]; rw [c86b0]) | skip)
     by_cases c87 : ((rd_T39 (rd_L3 l0_1 a2) ((rd_T45 l1_1 a2).f0)).f0) = 2
     ·rw [if_pos c87] at H
      have c87b0 : (((rd_T39 (rd_L3 l0_1 a2) ((rd_T45 l1_1 a2).f0)).f0) == 2) = true := beq_iff_eq.mpr c87
      have c87b1 : (((rd_T39 (rd_L3 l0_1 a2) ((rd_T45 l1_1 a2).f0)).f0) != 2) = false := bne_eq_false_iff_eq.mpr c87
      clear c87
      have H' := Aside0.mk H
      clear H
      have hnb88 := NB254_237.out
      have hnc88 := NB237_254.out
      have hnb89 := NB254_238.out
      have hnc89 := NB238_254.out
      have hnb90 := NB254_250.out
      have hnc90 := NB250_254.out
      have hcz91_0 : wc.cell? ⟨gb254, 0, none⟩ = some (.int .i64 ((rd_T39 (rd_L3 l0_1 a2) ((rd_T45 l1_1 a2).f0)).f0)) := (blk_cell BK254.out 0).trans rfl
      have hcz91_1 : wc.cell? ⟨gb254, 1, none⟩ = some (.int .i64 ((rd_T39 (rd_L3 l0_1 a2) ((rd_T45 l1_1 a2).f0)).f1)) := (blk_cell BK254.out 1).trans rfl
      have hcz91_2 : wc.cell? ⟨gb254, 2, none⟩ = some (.int .i64 ((rd_T39 (rd_L3 l0_1 a2) ((rd_T45 l1_1 a2).f0)).f2)) := (blk_cell BK254.out 2).trans rfl
      have hcz91_3 : wc.cell? ⟨gb254, 3, none⟩ = some (.int .i64 ((rd_T39 (rd_L3 l0_1 a2) ((rd_T45 l1_1 a2).f0)).f3)) := (blk_cell BK254.out 3).trans rfl
      have hcz91_4 : wc.cell? ⟨gb254, 4, none⟩ = some (.int .i64 ((rd_T39 (rd_L3 l0_1 a2) ((rd_T45 l1_1 a2).f0)).f4)) := (blk_cell BK254.out 4).trans rfl
      have hfz91_0 := blk_frozen BK254.out 0
      have hfz91_1 := blk_frozen BK254.out 1
      have hfz91_2 := blk_frozen BK254.out 2
      have hfz91_3 := blk_frozen BK254.out 3
      have hfz91_4 := blk_frozen BK254.out 4
      go_wp2
      go_meet
      case rel => exact ⟨_, (true), (by first | rfl | (simp; done) | (simp [*]; done)), H', ⟨by have := HJ5.out; have := HJ43.out; have := HJ78.out; first | omega | exact Nat.le_refl _⟩, ⟨by (with_reducible repeat (first | apply Kd.V_alloc | apply Kd.V_drewN | apply Kd.V_drew)); exact HO_251000.out⟩, ⟨by (with_reducible repeat (first | apply Kd.V_alloc | apply Kd.V_drewN | apply Kd.V_drew)); exact HO_251001.out⟩, ⟨by (with_reducible repeat (first | refine blk_drewN ?_ _ | refine blk_drew ?_ | refine blk_alloc ?_ _)); exact BK237.out⟩, ⟨by (with_reducible repeat (first | refine blk_drewN ?_ _ | refine blk_drew ?_ | refine blk_alloc ?_ _)); exact BK238.out⟩, ⟨by (with_reducible repeat (first | refine blk_drewN ?_ _ | refine blk_drew ?_ | refine blk_alloc ?_ _)); exact BK250.out⟩, ⟨by (with_reducible repeat (first | refine blk_drewN ?_ _ | refine blk_drew ?_ | refine blk_alloc ?_ _)); exact BK254.out⟩, ⟨by repeat (first | (with_reducible first | exact HB.out | apply below_alloc | apply pw_below_drewN | apply below_drew1 | refine below_set ?_ GE237.out | refine below_set ?_ GE238.out | refine below_set ?_ GE250.out | refine below_set ?_ GE254.out) | exact HB.out)⟩⟩
     rw [if_neg c87] at H
     have c87b0 : (((rd_T39 (rd_L3 l0_1 a2) ((rd_T45 l1_1 a2).f0)).f0) == 2) = false := beq_eq_false_iff_ne.mpr c87
     have c87b1 : (((rd_T39 (rd_L3 l0_1 a2) ((rd_T45 l1_1 a2).f0)).f0) != 2) = true := bne_iff_ne.mpr c87
     have H' := Aside0.mk H
     clear H
     have hnb92 := NB254_237.out
     have hnc92 := NB237_254.out
     have hnb93 := NB254_238.out
     have hnc93 := NB238_254.out
     have hnb94 := NB254_250.out
     have hnc94 := NB250_254.out
     have hcz95_0 : wc.cell? ⟨gb254, 0, none⟩ = some (.int .i64 ((rd_T39 (rd_L3 l0_1 a2) ((rd_T45 l1_1 a2).f0)).f0)) := (blk_cell BK254.out 0).trans rfl
     have hcz95_1 : wc.cell? ⟨gb254, 1, none⟩ = some (.int .i64 ((rd_T39 (rd_L3 l0_1 a2) ((rd_T45 l1_1 a2).f0)).f1)) := (blk_cell BK254.out 1).trans rfl
     have hcz95_2 : wc.cell? ⟨gb254, 2, none⟩ = some (.int .i64 ((rd_T39 (rd_L3 l0_1 a2) ((rd_T45 l1_1 a2).f0)).f2)) := (blk_cell BK254.out 2).trans rfl
     have hcz95_3 : wc.cell? ⟨gb254, 3, none⟩ = some (.int .i64 ((rd_T39 (rd_L3 l0_1 a2) ((rd_T45 l1_1 a2).f0)).f3)) := (blk_cell BK254.out 3).trans rfl
     have hcz95_4 : wc.cell? ⟨gb254, 4, none⟩ = some (.int .i64 ((rd_T39 (rd_L3 l0_1 a2) ((rd_T45 l1_1 a2).f0)).f4)) := (blk_cell BK254.out 4).trans rfl
     have hfz95_0 := blk_frozen BK254.out 0
     have hfz95_1 := blk_frozen BK254.out 1
     have hfz95_2 := blk_frozen BK254.out 2
     have hfz95_3 := blk_frozen BK254.out 3
     have hfz95_4 := blk_frozen BK254.out 4
     go_wp2
     go_meet
     case rel => exact ⟨_, ((((rd_T39 (rd_L3 l0_1 a2) ((rd_T45 l1_1 a2).f0)).f0) == 5)), (by first | rfl | (simp; done) | (simp [*]; done)), H', ⟨by have := HJ5.out; have := HJ43.out; have := HJ78.out; first | omega | exact Nat.le_refl _⟩, ⟨by (with_reducible repeat (first | apply Kd.V_alloc | apply Kd.V_drewN | apply Kd.V_drew)); exact HO_251000.out⟩, ⟨by (with_reducible repeat (first | apply Kd.V_alloc | apply Kd.V_drewN | apply Kd.V_drew)); exact HO_251001.out⟩, ⟨by (with_reducible repeat (first | refine blk_drewN ?_ _ | refine blk_drew ?_ | refine blk_alloc ?_ _)); exact BK237.out⟩, ⟨by (with_reducible repeat (first | refine blk_drewN ?_ _ | refine blk_drew ?_ | refine blk_alloc ?_ _)); exact BK238.out⟩, ⟨by (with_reducible repeat (first | refine blk_drewN ?_ _ | refine blk_drew ?_ | refine blk_alloc ?_ _)); exact BK250.out⟩, ⟨by (with_reducible repeat (first | refine blk_drewN ?_ _ | refine blk_drew ?_ | refine blk_alloc ?_ _)); exact BK254.out⟩, ⟨by repeat (first | (with_reducible first | exact HB.out | apply below_alloc | apply pw_below_drewN | apply below_drew1 | refine below_set ?_ GE237.out | refine below_set ?_ GE238.out | refine below_set ?_ GE250.out | refine below_set ?_ GE254.out) | exact HB.out)⟩⟩
    case rest => as_aux_lemma =>
     clear HC85
     try clear c31
     try clear c33
     try clear c34
     try clear c34b0
     try clear c35
     try clear c35b0
     try clear c36
     try clear c36b0
     try clear c37
     try clear c37b0
     try clear c38
     try clear c38b0
     try clear c40
     try clear c42
     try clear c42b0
     try clear c43
     try clear c43b0
     try clear hcz46_0
     try clear hcz46_1
     try clear hcz47_0
     try clear hcz47_1
     try clear hcz53_0
     try clear hcz53_1
     try clear hcz64_0
     try clear hcz64_1
     try clear hcz66_0
     try clear hcz66_1
     try clear hcz69_0
     try clear hcz69_1
     try clear hfz46_0
     try clear hfz46_1
     try clear hfz47_0
     try clear hfz47_1
     try clear hfz53_0
     try clear hfz53_1
     try clear hfz64_0
     try clear hfz64_1
     try clear hfz66_0
     try clear hfz66_1
     try clear hfz69_0
     try clear hfz69_1
     try clear hx251_0
     try clear hx252_0
     try clear hx252_1
     try clear hx252_2
     try clear hx252_3
     try clear hx253_0
     try clear hx253_1
     try clear hx253_2
     try clear hx253_3
     try clear hx253_4
     try clear hx256_0
     try clear hx256_1
     try clear hx256_2
     try clear hx256_3
     try clear hx257_0
     try clear p251
     try clear p252
     try clear p253
     try clear p256
     try clear p257
     try clear q251
     try clear q252
     try clear q253
     try clear q256
     try clear q257
     obtain ⟨kq, x92_84, rfl, HA, HJ84, HO_251000, HO_251001, BK237, BK238, BK250, BK254, HB⟩ := hcut
     cases kq with
     | zero => exact absurd HA.out (by simp [fencepostlaw10_ScReads.j3])
     | succ kj84 => ?_
     have H := HA.out
     clear HA
     simp only [fencepostlaw10_ScReads.j3] at H
     have HC100 := Aside0.mk H
     clear H
     go_upto_if 92 with (fail)
     go_cut [14] (fun v14 wc => ∃ (kq : Nat) (x14_99 : Int), v14 = .int .i64 x14_99 ∧ Aside0 (fencepostlaw10_ScReads.j4 kq a2 t239 ji41 x14_99 l1_0 l1_1 t243 t246 ((rd_T39 (rd_L3 l0_1 a2) ((rd_T45 l1_1 a2).f0)).f0) ((rd_T39 (rd_L3 l0_1 a2) ((rd_T45 l1_1 a2).f0)).f1) ((rd_T39 (rd_L3 l0_1 a2) ((rd_T45 l1_1 a2).f0)).f2) ((rd_T39 (rd_L3 l0_1 a2) ((rd_T45 l1_1 a2).f0)).f3) ((rd_T39 (rd_L3 l0_1 a2) ((rd_T45 l1_1 a2).f0)).f4) = some r) ∧ Aside0 (kq ≤ kj84) ∧ Aside0 (Kd.V (Kd.int .i64) 3 wc w.heap.size (fun k_ => k_ ≠ gb237 ∧ k_ ≠ gb238 ∧ k_ ≠ gb250 ∧ k_ ≠ gb254) (.slice Ao50 t243.length co50) t243) ∧ Aside0 (Kd.V k45 45 wc w.heap.size (fun k_ => k_ ≠ gb237 ∧ k_ ≠ gb238 ∧ k_ ≠ gb250 ∧ k_ ≠ gb254) (.slice Ao54 t246.length co54) t246) ∧ Aside0 (wc.heap[gb237]? = some (.cells #[(.slice A0_0 l0_0.length c0_0), (.slice (some ad251) l0_1.length c0_1)] 25 (0, 0))) ∧ Aside0 (wc.heap[gb238]? = some (.cells #[(.slice A1_0 l1_0.length c1_0), (.slice (some ad252) l1_1.length c1_1)] 28 (0, 0))) ∧ Aside0 (wc.heap[gb250]? = some (.cells #[(.slice Ao50 t243.length co50), (.slice Ao54 t246.length co54)] 28 (0, 0))) ∧ Aside0 (wc.heap[gb254]? = some (.cells #[.int .i64 ((rd_T39 (rd_L3 l0_1 a2) ((rd_T45 l1_1 a2).f0)).f0), .int .i64 ((rd_T39 (rd_L3 l0_1 a2) ((rd_T45 l1_1 a2).f0)).f1), .int .i64 ((rd_T39 (rd_L3 l0_1 a2) ((rd_T45 l1_1 a2).f0)).f2), .int .i64 ((rd_T39 (rd_L3 l0_1 a2) ((rd_T45 l1_1 a2).f0)).f3), .int .i64 ((rd_T39 (rd_L3 l0_1 a2) ((rd_T45 l1_1 a2).f0)).f4)] 39 (0, 0))) ∧ Aside0 (Below w.heap.size w wc))
     case first =>
      have H := HC100.out
      clear HC100
      by_cases c101 : x92_84 = true
      rotate_left
      ·replace c101 := Bool.eq_false_iff.mpr c101
       subst c101
       have H1 : (fencepostlaw10_ScReads.j4 kj84 a2 t239 ji41 x14_78 l1_0 l1_1 t243 t246 ((rd_T39 (rd_L3 l0_1 a2) ((rd_T45 l1_1 a2).f0)).f0) ((rd_T39 (rd_L3 l0_1 a2) ((rd_T45 l1_1 a2).f0)).f1) ((rd_T39 (rd_L3 l0_1 a2) ((rd_T45 l1_1 a2).f0)).f2) ((rd_T39 (rd_L3 l0_1 a2) ((rd_T45 l1_1 a2).f0)).f3) ((rd_T39 (rd_L3 l0_1 a2) ((rd_T45 l1_1 a2).f0)).f4)) = some r := by rw [if_neg (show ¬ (false = true) by decide)] at H; exact H
       clear H
       have H := H1
       clear H1
       have H' := Aside0.mk H
       clear H
       go_wp2
       go_meet
       case rel => exact ⟨_, (x14_78), (by first | rfl | (simp; done) | (simp [*]; done)), H', ⟨by have := HJ5.out; have := HJ43.out; have := HJ78.out; have := HJ84.out; first | omega | exact Nat.le_refl _⟩, ⟨by (with_reducible repeat (first | apply Kd.V_alloc | apply Kd.V_drewN | apply Kd.V_drew)); exact HO_251000.out⟩, ⟨by (with_reducible repeat (first | apply Kd.V_alloc | apply Kd.V_drewN | apply Kd.V_drew)); exact HO_251001.out⟩, ⟨by (with_reducible repeat (first | refine blk_drewN ?_ _ | refine blk_drew ?_ | refine blk_alloc ?_ _)); exact BK237.out⟩, ⟨by (with_reducible repeat (first | refine blk_drewN ?_ _ | refine blk_drew ?_ | refine blk_alloc ?_ _)); exact BK238.out⟩, ⟨by (with_reducible repeat (first | refine blk_drewN ?_ _ | refine blk_drew ?_ | refine blk_alloc ?_ _)); exact BK250.out⟩, ⟨by (with_reducible repeat (first | refine blk_drewN ?_ _ | refine blk_drew ?_ | refine blk_alloc ?_ _)); exact BK254.out⟩, ⟨by repeat (first | (with_reducible first | exact HB.out | apply below_alloc | apply pw_below_drewN | apply below_drew1 | refine below_set ?_ GE237.out | refine below_set ?_ GE238.out | refine below_set ?_ GE250.out | refine below_set ?_ GE254.out) | exact HB.out)⟩⟩
      subst c101
      have H1 : (if 0 ≤ ((rd_T39 (rd_L3 l0_1 a2) ((rd_T45 l1_1 a2).f0)).f2) then (if ((rd_T39 (rd_L3 l0_1 a2) ((rd_T45 l1_1 a2).f0)).f2) < (l1_0.length : Int) then (fencepostlaw10_ScReads.j4 kj84 a2 t239 ji41 (rd l1_0 ((rd_T39 (rd_L3 l0_1 a2) ((rd_T45 l1_1 a2).f0)).f2)) l1_0 l1_1 t243 t246 ((rd_T39 (rd_L3 l0_1 a2) ((rd_T45 l1_1 a2).f0)).f0) ((rd_T39 (rd_L3 l0_1 a2) ((rd_T45 l1_1 a2).f0)).f1) ((rd_T39 (rd_L3 l0_1 a2) ((rd_T45 l1_1 a2).f0)).f2) ((rd_T39 (rd_L3 l0_1 a2) ((rd_T45 l1_1 a2).f0)).f3) ((rd_T39 (rd_L3 l0_1 a2) ((rd_T45 l1_1 a2).f0)).f4)) else (none)) else (none)) = some r := by rw [if_pos rfl] at H; exact H
      clear H
      have H := H1
      clear H1
      by_cases c102 : 0 ≤ ((rd_T39 (rd_L3 l0_1 a2) ((rd_T45 l1_1 a2).f0)).f2)
      rotate_left
      ·rw [if_neg c102] at H
       exact absurd H (by simp)
      rw [if_pos c102] at H
      have c102b0 : decide (0 ≤ ((rd_T39 (rd_L3 l0_1 a2) ((rd_T45 l1_1 a2).f0)).f2)) = true := decide_eq_true c102
      clear c102
      (first | rw [c102b0] | (simp only [i64_w, i32_w]; rw [c102b0]) | skip)
      by_cases c103 : ((rd_T39 (rd_L3 l0_1 a2) ((rd_T45 l1_1 a2).f0)).f2) < (l1_0.length : Int)
      rotate_left
      ·rw [if_neg c103] at H
       exact absurd H (by simp)
      rw [if_pos c103] at H
      have c103b0 : decide (((rd_T39 (rd_L3 l0_1 a2) ((rd_T45 l1_1 a2).f0)).f2) < (l1_0.length : Int)) = true := decide_eq_true c103
      clear c103
      have H' := Aside0.mk H
      clear H
      have hnb104 := NB238_237.out
      have hnc104 := NB237_238.out
      have hnb105 := NB238_250.out
      have hnc105 := NB250_238.out
      have hnb106 := NB238_254.out
      have hnc106 := NB254_238.out
      have hcz107_0 : wc.cell? ⟨gb238, 0, none⟩ = some (.slice A1_0 l1_0.length c1_0) := (blk_cell BK238.out 0).trans rfl
      have hcz107_1 : wc.cell? ⟨gb238, 1, none⟩ = some (.slice (some ad252) l1_1.length c1_1) := (blk_cell BK238.out 1).trans rfl
      have hfz107_0 := blk_frozen BK238.out 0
      have hfz107_1 := blk_frozen BK238.out 1
      have hnb108 := NB254_237.out
      have hnc108 := NB237_254.out
      have hnb109 := NB254_250.out
      have hnc109 := NB250_254.out
      have hcz110_0 : wc.cell? ⟨gb254, 0, none⟩ = some (.int .i64 ((rd_T39 (rd_L3 l0_1 a2) ((rd_T45 l1_1 a2).f0)).f0)) := (blk_cell BK254.out 0).trans rfl
      have hcz110_1 : wc.cell? ⟨gb254, 1, none⟩ = some (.int .i64 ((rd_T39 (rd_L3 l0_1 a2) ((rd_T45 l1_1 a2).f0)).f1)) := (blk_cell BK254.out 1).trans rfl
      have hcz110_2 : wc.cell? ⟨gb254, 2, none⟩ = some (.int .i64 ((rd_T39 (rd_L3 l0_1 a2) ((rd_T45 l1_1 a2).f0)).f2)) := (blk_cell BK254.out 2).trans rfl
      have hcz110_3 : wc.cell? ⟨gb254, 3, none⟩ = some (.int .i64 ((rd_T39 (rd_L3 l0_1 a2) ((rd_T45 l1_1 a2).f0)).f3)) := (blk_cell BK254.out 3).trans rfl
      have hcz110_4 : wc.cell? ⟨gb254, 4, none⟩ = some (.int .i64 ((rd_T39 (rd_L3 l0_1 a2) ((rd_T45 l1_1 a2).f0)).f4)) := (blk_cell BK254.out 4).trans rfl
      have hfz110_0 := blk_frozen BK254.out 0
      have hfz110_1 := blk_frozen BK254.out 1
      have hfz110_2 := blk_frozen BK254.out 2
      have hfz110_3 := blk_frozen BK254.out 3
      have hfz110_4 := blk_frozen BK254.out 4
      have p258 : 0 ≤ (((rd_T39 (rd_L3 l0_1 a2) ((rd_T45 l1_1 a2).f0)).f2) : Int) := of_decide_eq_true (by first | (with_reducible assumption) | assumption)
      have q258 : ((rd_T39 (rd_L3 l0_1 a2) ((rd_T45 l1_1 a2).f0)).f2) < (l1_0.length : Int) := of_decide_eq_true (by first | (with_reducible assumption) | assumption)
      obtain ⟨ad258, e258, hx258_0⟩ := Kd.at_int HR1_0.out ((rd_T39 (rd_L3 l0_1 a2) ((rd_T45 l1_1 a2).f0)).f2) p258 q258
      cases e258
      replace hx258_0 := (HB.out.cell (World.block_lt_of_cell? w _ hx258_0)).trans hx258_0
      replace p258 := eq_true p258
      replace q258 := eq_true q258
      go_wp2
      go_meet
      case rel => exact ⟨_, (rd l1_0 ((rd_T39 (rd_L3 l0_1 a2) ((rd_T45 l1_1 a2).f0)).f2)), (by first | rfl | (simp; done) | (simp [*]; done)), H', ⟨by have := HJ5.out; have := HJ43.out; have := HJ78.out; have := HJ84.out; first | omega | exact Nat.le_refl _⟩, ⟨by (with_reducible repeat (first | apply Kd.V_alloc | apply Kd.V_drewN | apply Kd.V_drew)); exact HO_251000.out⟩, ⟨by (with_reducible repeat (first | apply Kd.V_alloc | apply Kd.V_drewN | apply Kd.V_drew)); exact HO_251001.out⟩, ⟨by (with_reducible repeat (first | refine blk_drewN ?_ _ | refine blk_drew ?_ | refine blk_alloc ?_ _)); exact BK237.out⟩, ⟨by (with_reducible repeat (first | refine blk_drewN ?_ _ | refine blk_drew ?_ | refine blk_alloc ?_ _)); exact BK238.out⟩, ⟨by (with_reducible repeat (first | refine blk_drewN ?_ _ | refine blk_drew ?_ | refine blk_alloc ?_ _)); exact BK250.out⟩, ⟨by (with_reducible repeat (first | refine blk_drewN ?_ _ | refine blk_drew ?_ | refine blk_alloc ?_ _)); exact BK254.out⟩, ⟨by repeat (first | (with_reducible first | exact HB.out | apply below_alloc | apply pw_below_drewN | apply below_drew1 | refine below_set ?_ GE237.out | refine below_set ?_ GE238.out | refine below_set ?_ GE250.out | refine below_set ?_ GE254.out) | exact HB.out)⟩⟩
     case rest => as_aux_lemma =>
      clear HC100
      try clear c31
      try clear c33
      try clear c34
      try clear c34b0
      try clear c35
      try clear c35b0
      try clear c36
      try clear c36b0
      try clear c37
      try clear c37b0
      try clear c38
      try clear c38b0
      try clear c40
      try clear c42
      try clear c42b0
      try clear c43
      try clear c43b0
      try clear hcz46_0
      try clear hcz46_1
      try clear hcz47_0
      try clear hcz47_1
      try clear hcz53_0
      try clear hcz53_1
      try clear hcz64_0
      try clear hcz64_1
      try clear hcz66_0
      try clear hcz66_1
      try clear hcz69_0
      try clear hcz69_1
      try clear hfz46_0
      try clear hfz46_1
      try clear hfz47_0
      try clear hfz47_1
      try clear hfz53_0
      try clear hfz53_1
      try clear hfz64_0
      try clear hfz64_1
      try clear hfz66_0
      try clear hfz66_1
      try clear hfz69_0
      try clear hfz69_1
      try clear hx251_0
      try clear hx252_0
      try clear hx252_1
      try clear hx252_2
      try clear hx252_3
      try clear hx253_0
      try clear hx253_1
      try clear hx253_2
      try clear hx253_3
      try clear hx253_4
      try clear hx256_0
      try clear hx256_1
      try clear hx256_2
      try clear hx256_3
      try clear hx257_0
      try clear p251
      try clear p252
      try clear p253
      try clear p256
      try clear p257
      try clear q251
      try clear q252
      try clear q253
      try clear q256
      try clear q257
      obtain ⟨kq, x14_99, rfl, HA, HJ99, HO_251000, HO_251001, BK237, BK238, BK250, BK254, HB⟩ := hcut
      cases kq with
      | zero => exact absurd HA.out (by simp [fencepostlaw10_ScReads.j4])
      | succ kj99 => ?_
      have H := HA.out
      clear HA
      simp only [fencepostlaw10_ScReads.j4] at H
      by_cases c111 : 0 ≤ a2
      rotate_left
      ·rw [if_neg c111] at H
       exact absurd H (by simp)
      rw [if_pos c111] at H
      have c111b0 : decide (0 ≤ a2) = true := decide_eq_true c111
      clear c111
      by_cases c112 : a2 < (t246.length : Int)
      rotate_left
      ·rw [if_neg c112] at H
       exact absurd H (by simp)
      rw [if_pos c112] at H
      have c112b0 : decide (a2 < (t246.length : Int)) = true := decide_eq_true c112
      clear c112
      by_cases c113 : 0 ≤ ji41
      rotate_left
      ·rw [if_neg c113] at H
       exact absurd H (by simp)
      rw [if_pos c113] at H
      have c113b0 : decide (0 ≤ ji41) = true := decide_eq_true c113
      clear c113
      by_cases c114 : ji41 < (((rd_T45 t246 a2).f1).length : Int)
      rotate_left
      ·rw [if_neg c114] at H
       exact absurd H (by simp)
      rw [if_pos c114] at H
      have c114b0 : decide (ji41 < (((rd_T45 t246 a2).f1).length : Int)) = true := decide_eq_true c114
      clear c114
      by_cases c115 : (rd ((rd_T45 t246 a2).f1) ji41) = x14_99
      rotate_left
      ·rw [if_neg c115] at H
       have c115b0 : ((rd ((rd_T45 t246 a2).f1) ji41) == x14_99) = false := beq_eq_false_iff_ne.mpr c115
       have c115b1 : ((rd ((rd_T45 t246 a2).f1) ji41) != x14_99) = true := bne_iff_ne.mpr c115
       exact absurd ((Option.some.inj H).trans HT.out) (by simp)
      rw [if_pos c115] at H
      have c115b0 : ((rd ((rd_T45 t246 a2).f1) ji41) == x14_99) = true := beq_iff_eq.mpr c115
      have c115b1 : ((rd ((rd_T45 t246 a2).f1) ji41) != x14_99) = false := bne_eq_false_iff_eq.mpr c115
      clear c115
      by_cases c116 : ((rd_T39 (rd_L3 l0_1 a2) ((rd_T45 l1_1 a2).f0)).f0) = 4
      ·rw [if_pos c116] at H
       have c116b0 : (((rd_T39 (rd_L3 l0_1 a2) ((rd_T45 l1_1 a2).f0)).f0) == 4) = true := beq_iff_eq.mpr c116
       have c116b1 : (((rd_T39 (rd_L3 l0_1 a2) ((rd_T45 l1_1 a2).f0)).f0) != 4) = false := bne_eq_false_iff_eq.mpr c116
       clear c116
       by_cases c117 : t239 = true
       rotate_left
       ·replace c117 := Bool.eq_false_iff.mpr c117
        subst c117
        have H1 : (some false) = some r := by rw [if_neg (show ¬ (false = true) by decide)] at H; exact H
        clear H
        have H := H1
        clear H1
        exact absurd ((Option.some.inj H).trans HT.out) (by simp)
       subst c117
       have H1 : (if 0 ≤ ((rd_T39 (rd_L3 l0_1 a2) ((rd_T45 l1_1 a2).f0)).f2) then (if ((rd_T39 (rd_L3 l0_1 a2) ((rd_T45 l1_1 a2).f0)).f2) < (t243.length : Int) then (some ((rd t243 ((rd_T39 (rd_L3 l0_1 a2) ((rd_T45 l1_1 a2).f0)).f2)) == ((rd_T39 (rd_L3 l0_1 a2) ((rd_T45 l1_1 a2).f0)).f3))) else (none)) else (none)) = some r := by rw [if_pos rfl] at H; exact H
       clear H
       have H := H1
       clear H1
       by_cases c118 : 0 ≤ ((rd_T39 (rd_L3 l0_1 a2) ((rd_T45 l1_1 a2).f0)).f2)
       rotate_left
       ·rw [if_neg c118] at H
        exact absurd H (by simp)
       rw [if_pos c118] at H
       have c118b0 : decide (0 ≤ ((rd_T39 (rd_L3 l0_1 a2) ((rd_T45 l1_1 a2).f0)).f2)) = true := decide_eq_true c118
       clear c118
       by_cases c119 : ((rd_T39 (rd_L3 l0_1 a2) ((rd_T45 l1_1 a2).f0)).f2) < (t243.length : Int)
       rotate_left
       ·rw [if_neg c119] at H
        exact absurd H (by simp)
       rw [if_pos c119] at H
       have c119b0 : decide (((rd_T39 (rd_L3 l0_1 a2) ((rd_T45 l1_1 a2).f0)).f2) < (t243.length : Int)) = true := decide_eq_true c119
       clear c119
       obtain rfl := Option.some.inj H
       have hnb120 := NB250_237.out
       have hnc120 := NB237_250.out
       have hnb121 := NB250_238.out
       have hnc121 := NB238_250.out
       have hnb122 := NB250_254.out
       have hnc122 := NB254_250.out
       have hcz123_0 : wc.cell? ⟨gb250, 0, none⟩ = some (.slice Ao50 t243.length co50) := (blk_cell BK250.out 0).trans rfl
       have hcz123_1 : wc.cell? ⟨gb250, 1, none⟩ = some (.slice Ao54 t246.length co54) := (blk_cell BK250.out 1).trans rfl
       have hfz123_0 := blk_frozen BK250.out 0
       have hfz123_1 := blk_frozen BK250.out 1
       have p259 : 0 ≤ (a2 : Int) := of_decide_eq_true (by first | (with_reducible assumption) | assumption)
       have q259 : a2 < (t246.length : Int) := of_decide_eq_true (by first | (with_reducible assumption) | assumption)
       obtain ⟨ad259, A259_1, c259_1, A259_3, c259_3, e259, hx259_0, hx259_1, hx259_2, hx259_3, hl259_1, hi259_1, hl259_3, hi259_3⟩ := at_T45 (Kd.V_reads' HO_251001.out).2.2 a2 p259 q259
       cases e259
       obtain ⟨ce259, hce259, hMe259, hcc259⟩ := Kd.V_get HO_251001.out z45 a2 p259 (by first | exact q259 | exact of_decide_eq_true (by first | (with_reducible assumption) | assumption) | (have e_ := (Kd.V_reads' HO_251001.out).1; omega))
       obtain ⟨ua259_1, uc259_1, ua259_3, uc259_3, rfl, ul259_1, ge259_1, ul259_3, ge259_3⟩ := k45_openF hMe259
       have hv259_1 := hcc259 1 _ rfl
       rw [add_field _ _ 1 (by omega)] at hv259_1
       replace hv259_1 := Option.some.inj (hv259_1.symm.trans hx259_1)
       injection hv259_1 with hva_ hvn_ hvc_
       rw [hva_] at ge259_1
       rw [hvc_] at ul259_1
       have HL259_1 := Aside0.mk (show Kd.V (Kd.int .i64) 3 _ w.heap.size _ _ ((rd_T45 t246 a2).f1) from Kd.V_mk ul259_1 ge259_1)
       clear hva_ hvn_ hvc_ ge259_1 ul259_1
       have hv259_3 := hcc259 3 _ rfl
       rw [add_field _ _ 3 (by omega)] at hv259_3
       replace hv259_3 := Option.some.inj (hv259_3.symm.trans hx259_3)
       injection hv259_3 with hva_ hvn_ hvc_
       rw [hva_] at ge259_3
       rw [hvc_] at ul259_3
       have HL259_3 := Aside0.mk (show Kd.V k53 53 _ w.heap.size _ _ ((rd_T45 t246 a2).f3) from Kd.V_mk ul259_3 ge259_3)
       clear hva_ hvn_ hvc_ ge259_3 ul259_3
       clear hcc259 hce259
       have HR259_1 := Aside0.mk hi259_1
       have HC259_1 := Aside0.mk hl259_1
       clear hi259_1 hl259_1
       have HR259_3 := Aside0.mk hi259_3
       have HC259_3 := Aside0.mk hl259_3
       clear hi259_3 hl259_3
       replace p259 := eq_true p259
       replace q259 := eq_true q259
       have p260 : 0 ≤ (ji41 : Int) := of_decide_eq_true (by first | (with_reducible assumption) | assumption)
       have q260 : ji41 < (((rd_T45 t246 a2).f1).length : Int) := of_decide_eq_true (by first | (with_reducible assumption) | assumption)
       obtain ⟨ad260, e260, hx260_0⟩ := Kd.at_int (by repeat (first | (with_reducible exact HR259_1.out) | (with_reducible refine Kd.C_alloc ?_ _) | (with_reducible refine Kd.C_drewN ?_ _) | (with_reducible refine Kd.C_drew ?_) | exact HR259_1.out)) ji41 p260 q260
       cases e260
       replace p260 := eq_true p260
       replace q260 := eq_true q260
       have hnb124 := NB254_237.out
       have hnc124 := NB237_254.out
       have hnb125 := NB254_238.out
       have hnc125 := NB238_254.out
       have hcz126_0 : wc.cell? ⟨gb254, 0, none⟩ = some (.int .i64 ((rd_T39 (rd_L3 l0_1 a2) ((rd_T45 l1_1 a2).f0)).f0)) := (blk_cell BK254.out 0).trans rfl
       have hcz126_1 : wc.cell? ⟨gb254, 1, none⟩ = some (.int .i64 ((rd_T39 (rd_L3 l0_1 a2) ((rd_T45 l1_1 a2).f0)).f1)) := (blk_cell BK254.out 1).trans rfl
       have hcz126_2 : wc.cell? ⟨gb254, 2, none⟩ = some (.int .i64 ((rd_T39 (rd_L3 l0_1 a2) ((rd_T45 l1_1 a2).f0)).f2)) := (blk_cell BK254.out 2).trans rfl
       have hcz126_3 : wc.cell? ⟨gb254, 3, none⟩ = some (.int .i64 ((rd_T39 (rd_L3 l0_1 a2) ((rd_T45 l1_1 a2).f0)).f3)) := (blk_cell BK254.out 3).trans rfl
       have hcz126_4 : wc.cell? ⟨gb254, 4, none⟩ = some (.int .i64 ((rd_T39 (rd_L3 l0_1 a2) ((rd_T45 l1_1 a2).f0)).f4)) := (blk_cell BK254.out 4).trans rfl
       have hfz126_0 := blk_frozen BK254.out 0
       have hfz126_1 := blk_frozen BK254.out 1
       have hfz126_2 := blk_frozen BK254.out 2
       have hfz126_3 := blk_frozen BK254.out 3
       have hfz126_4 := blk_frozen BK254.out 4
       try go_wp2
       have n0_ := Aside0.mk (Kd.V_drew HO_251000.out)
       have n1_ := Aside0.mk (Kd.V_drew HO_251001.out)
       have n2_ := Aside0.mk (Kd.V_drew HL259_1.out)
       have n3_ := Aside0.mk (Kd.V_drew HL259_3.out)
       have n4_ := Aside0.mk (blk_drew BK237.out)
       have n5_ := Aside0.mk (blk_drew BK238.out)
       have n6_ := Aside0.mk (blk_drew BK250.out)
       have n7_ := Aside0.mk (blk_drew BK254.out)
       have n8_ := Aside0.mk (Kd.C_drew HR259_1.out)
       have n9_ := Aside0.mk (Kd.C_drew HR259_3.out)
       have n10_ := Aside0.mk (below_drew1 HB.out)
       clear HO_251000
       clear HO_251001
       clear HL259_1
       clear HL259_3
       clear BK237
       clear BK238
       clear BK250
       clear BK254
       clear HR259_1
       clear HR259_3
       clear HB
       have HO_251000 := n0_
       have HO_251001 := n1_
       have HL259_1 := n2_
       have HL259_3 := n3_
       have BK237 := n4_
       have BK238 := n5_
       have BK250 := n6_
       have BK254 := n7_
       have HR259_1 := n8_
       have HR259_3 := n9_
       have HB := n10_
       clear n0_ n1_ n2_ n3_ n4_ n5_ n6_ n7_ n8_ n9_ n10_
       have p261 : 0 ≤ (((rd_T39 (rd_L3 l0_1 a2) ((rd_T45 l1_1 a2).f0)).f2) : Int) := of_decide_eq_true (by first | (with_reducible assumption) | assumption)
       have q261 : ((rd_T39 (rd_L3 l0_1 a2) ((rd_T45 l1_1 a2).f0)).f2) < (t243.length : Int) := of_decide_eq_true (by first | (with_reducible assumption) | assumption)
       obtain ⟨ad261, e261, hx261_0⟩ := Kd.at_int (Kd.V_reads' HO_251000.out).2.2 ((rd_T39 (rd_L3 l0_1 a2) ((rd_T45 l1_1 a2).f0)).f2) p261 q261
       cases e261
       replace p261 := eq_true p261
       replace q261 := eq_true q261
       refine start_ (n := 13) (S := fun w' => w'.cell? ⟨gb250, 0, none⟩ = some (.slice (some ad261) t243.length co50) ∧ w'.cell? ⟨gb250, 1, none⟩ = some (.slice (some ad259) t246.length co54) ∧ w'.cell? ⟨gb254, 0, none⟩ = some (.int .i64 ((rd_T39 (rd_L3 l0_1 a2) ((rd_T45 l1_1 a2).f0)).f0)) ∧ w'.cell? ⟨gb254, 1, none⟩ = some (.int .i64 ((rd_T39 (rd_L3 l0_1 a2) ((rd_T45 l1_1 a2).f0)).f1)) ∧ w'.cell? ⟨gb254, 2, none⟩ = some (.int .i64 ((rd_T39 (rd_L3 l0_1 a2) ((rd_T45 l1_1 a2).f0)).f2)) ∧ w'.cell? ⟨gb254, 3, none⟩ = some (.int .i64 ((rd_T39 (rd_L3 l0_1 a2) ((rd_T45 l1_1 a2).f0)).f3)) ∧ w'.cell? ⟨gb254, 4, none⟩ = some (.int .i64 ((rd_T39 (rd_L3 l0_1 a2) ((rd_T45 l1_1 a2).f0)).f4)) ∧ w'.cell? (ad261.add (((rd_T39 (rd_L3 l0_1 a2) ((rd_T45 l1_1 a2).f0)).f2)).toNat) = some (.int .i64 (rd t243 ((rd_T39 (rd_L3 l0_1 a2) ((rd_T45 l1_1 a2).f0)).f2)))) (ds := []) (lb_ 13 0) (by kernel_rfl) rfl rfl ⟨(blk_cell BK250.out 0).trans rfl, (blk_cell BK250.out 1).trans rfl, (blk_cell BK254.out 0).trans rfl, (blk_cell BK254.out 1).trans rfl, (blk_cell BK254.out 2).trans rfl, (blk_cell BK254.out 3).trans rfl, (blk_cell BK254.out 4).trans rfl, hx261_0⟩ (fun hHeld => ?_); refine with_tabW fencepostlaw10_ScReads.tab19 fencepostlaw10_ScReads.bits19 (fun HT_ HW_ => ?_)
       generalize wc.drew = w127 at HO_251000 HO_251001 HL259_1 HL259_3 BK237 BK238 BK250 BK254 HR259_1 HR259_3 HB hx261_0 hHeld ⊢
       refine pure_ (i := 0) (N := some 113) (v := ?_) (a' := ?_) (lb_ 13 1) rfl rfl (any_of HT_.out (by kernel_rfl)) (fun _ _ _ h => h) (Or.inl ⟨by rfl, ?_⟩) ?_ ?_; rotate_left; intro w'; go_simp; with_reducible rfl; rotate_left; simp only [Act.put, List.setIfInBounds_toArray, List.set_cons_zero, List.set_cons_succ, i64_w, i32_w]; rfl
       refine pure_ (i := 1) (N := some 114) (v := ?_) (a' := ?_) (lb_ 13 3) rfl rfl (any_of HT_.out (by kernel_rfl)) (fun _ _ _ h => h) (Or.inl ⟨by rfl, ?_⟩) ?_ ?_; rotate_left; intro w'; go_simp; with_reducible rfl; rotate_left; simp only [Act.put, List.setIfInBounds_toArray, List.set_cons_zero, List.set_cons_succ, i64_w, i32_w]; rfl
       refine pure_ (i := 2) (N := some 115) (v := ?_) (a' := ?_) (lb_ 13 7) rfl rfl (any_of HT_.out (by kernel_rfl)) (fun _ _ _ h => h) (Or.inl ⟨by rfl, ?_⟩) ?_ ?_; rotate_left; intro w'; go_simp; with_reducible rfl; rotate_left; simp only [Act.put, List.setIfInBounds_toArray, List.set_cons_zero, List.set_cons_succ, i64_w, i32_w]; rfl
       refine pure_ (i := 4) (N := some 117) (v := ?_) (a' := ?_) (lb_ 13 23) rfl rfl (any_of HT_.out (by kernel_rfl)) (fun _ _ _ h => h) (Or.inl ⟨by rfl, ?_⟩) ?_ ?_; rotate_left; intro w'; go_simp; with_reducible rfl; rotate_left; simp only [Act.put, List.setIfInBounds_toArray, List.set_cons_zero, List.set_cons_succ, i64_w, i32_w]; rfl
       refine pure_ (i := 8) (N := some 121) (v := ?_) (a' := ?_) (lb_ 13 279) rfl rfl (any_of HT_.out (by kernel_rfl)) (fun _ _ _ h => h) (Or.inl ⟨by rfl, ?_⟩) ?_ ?_; rotate_left; intro w'; go_simp; with_reducible rfl; rotate_left; simp only [Act.put, List.setIfInBounds_toArray, List.set_cons_zero, List.set_cons_succ, i64_w, i32_w]; rfl
       refine take_ (i := 3) (N := some 116) (v := ?_) (a' := ?_) (lb_ 13 287) rfl rfl (take_ofW HT_.out HW_.out (by kernel_rfl)) (fun _ _ _ h => h) (Or.inl ⟨by rfl, ?_⟩) hHeld ?_ ?_; rotate_left; rintro w' ⟨s0, s1, s2, s3, s4, s5, s6, s7⟩; go_simp; with_reducible rfl; rotate_left; simp only [Act.put, List.setIfInBounds_toArray, List.set_cons_zero, List.set_cons_succ, i64_w, i32_w]; rfl
       refine take_ (i := 5) (N := some 118) (v := ?_) (a' := ?_) (lb_ 13 319) rfl rfl (take_ofW HT_.out HW_.out (by kernel_rfl)) (fun _ _ _ h => h) (Or.inl ⟨by rfl, ?_⟩) hHeld ?_ ?_; rotate_left; rintro w' ⟨s0, s1, s2, s3, s4, s5, s6, s7⟩; go_simp; with_reducible rfl; rotate_left; simp only [Act.put, List.setIfInBounds_toArray, List.set_cons_zero, List.set_cons_succ, i64_w, i32_w]; rfl
       refine pure_ (i := 6) (N := some 119) (v := ?_) (a' := ?_) (lb_ 13 383) rfl rfl (any_of HT_.out (by kernel_rfl)) (fun _ _ _ h => h) (Or.inl ⟨by rfl, ?_⟩) ?_ ?_; rotate_left; intro w'; go_simp; with_reducible rfl; rotate_left; simp only [Act.put, List.setIfInBounds_toArray, List.set_cons_zero, List.set_cons_succ, i64_w, i32_w]; rfl
       refine take_ (i := 7) (N := some 120) (v := ?_) (a' := ?_) (lb_ 13 511) rfl rfl (take_ofW HT_.out HW_.out (by kernel_rfl)) (fun _ _ _ h => h) (Or.inl ⟨by rfl, ?_⟩) hHeld ?_ ?_; rotate_left; rintro w' ⟨s0, s1, s2, s3, s4, s5, s6, s7⟩; go_simp; with_reducible rfl; rotate_left; simp only [Act.put, List.setIfInBounds_toArray, List.set_cons_zero, List.set_cons_succ, i64_w, i32_w]; rfl
       refine take_ (i := 9) (N := some 122) (v := ?_) (a' := ?_) (lb_ 13 1023) rfl rfl (take_ofW HT_.out HW_.out (by kernel_rfl)) (fun _ _ _ h => h) (Or.inl ⟨by rfl, ?_⟩) hHeld ?_ ?_; rotate_left; rintro w' ⟨s0, s1, s2, s3, s4, s5, s6, s7⟩; go_simp; with_reducible rfl; rotate_left; simp only [Act.put, List.setIfInBounds_toArray, List.set_cons_zero, List.set_cons_succ, i64_w, i32_w]; rfl
       refine pure_ (i := 10) (N := some 123) (v := ?_) (a' := ?_) (lb_ 13 2047) rfl rfl (any_of HT_.out (by kernel_rfl)) (fun _ _ _ h => h) (Or.inl ⟨by rfl, ?_⟩) ?_ ?_; rotate_left; intro w'; go_simp; with_reducible rfl; rotate_left; simp only [Act.put, List.setIfInBounds_toArray, List.set_cons_zero, List.set_cons_succ, i64_w, i32_w]; rfl
       refine pure_ (i := 11) (N := some 124) (v := ?_) (a' := ?_) (lb_ 13 4095) rfl rfl (any_of HT_.out (by kernel_rfl)) (fun _ _ _ h => h) (Or.inl ⟨by rfl, ?_⟩) ?_ ?_; rotate_left; intro w'; go_simp; with_reducible rfl; rotate_left; simp only [Act.put, List.setIfInBounds_toArray, List.set_cons_zero, List.set_cons_succ, i64_w, i32_w]; rfl
       refine pure_ (i := 12) (N := some 8) (v := ?_) (a' := ?_) (lb_ 13 8191) rfl rfl (any_of HT_.out (by kernel_rfl)) (fun _ _ _ h => h) (Or.inl ⟨by rfl, ?_⟩) ?_ ?_; rotate_left; intro w'; go_simp; with_reducible rfl; rotate_left; simp only [Act.put, List.setIfInBounds_toArray, List.set_cons_zero, List.set_cons_succ, i64_w, i32_w]; rfl
       refine done_ (done_of HT_.out (by kernel_rfl)) ?_
       try go_wp2
       go_ret
       exact ⟨by first | rfl | (simp [errW_none, errW_some] <;> rfl) | (simp only [← hji41]; first | rfl | (simp [errW_none, errW_some] <;> rfl)) | (simp [*, errW_none, errW_some] <;> rfl), by repeat (first | (with_reducible first | exact HB.out | apply below_alloc | apply pw_below_drewN | apply below_drew1 | refine below_set ?_ GE237.out | refine below_set ?_ GE238.out | refine below_set ?_ GE250.out | refine below_set ?_ GE254.out) | exact HB.out)⟩
      rw [if_neg c116] at H
      have c116b0 : (((rd_T39 (rd_L3 l0_1 a2) ((rd_T45 l1_1 a2).f0)).f0) == 4) = false := beq_eq_false_iff_ne.mpr c116
      have c116b1 : (((rd_T39 (rd_L3 l0_1 a2) ((rd_T45 l1_1 a2).f0)).f0) != 4) = true := bne_iff_ne.mpr c116
      by_cases c128 : ((rd_T39 (rd_L3 l0_1 a2) ((rd_T45 l1_1 a2).f0)).f0) = 3
      ·rw [if_pos c128] at H
       have c128b0 : (((rd_T39 (rd_L3 l0_1 a2) ((rd_T45 l1_1 a2).f0)).f0) == 3) = true := beq_iff_eq.mpr c128
       have c128b1 : (((rd_T39 (rd_L3 l0_1 a2) ((rd_T45 l1_1 a2).f0)).f0) != 3) = false := bne_eq_false_iff_eq.mpr c128
       clear c128
       by_cases c129 : t239 = true
       rotate_left
       ·replace c129 := Bool.eq_false_iff.mpr c129
        subst c129
        have H1 : (some false) = some r := by rw [if_neg (show ¬ (false = true) by decide)] at H; exact H
        clear H
        have H := H1
        clear H1
        exact absurd ((Option.some.inj H).trans HT.out) (by simp)
       subst c129
       have H1 : (if 0 ≤ ((rd_T39 (rd_L3 l0_1 a2) ((rd_T45 l1_1 a2).f0)).f2) then (if ((rd_T39 (rd_L3 l0_1 a2) ((rd_T45 l1_1 a2).f0)).f2) < (t243.length : Int) then (if a2 < (l1_1.length : Int) then (if 0 ≤ ((rd_T39 (rd_L3 l0_1 a2) ((rd_T45 l1_1 a2).f0)).f1) then (if ((rd_T39 (rd_L3 l0_1 a2) ((rd_T45 l1_1 a2).f0)).f1) < (((rd_T45 l1_1 a2).f1).length : Int) then (some ((rd t243 ((rd_T39 (rd_L3 l0_1 a2) ((rd_T45 l1_1 a2).f0)).f2)) == (rd ((rd_T45 l1_1 a2).f1) ((rd_T39 (rd_L3 l0_1 a2) ((rd_T45 l1_1 a2).f0)).f1)))) else (none)) else (none)) else (none)) else (none)) else (none)) = some r := by rw [if_pos rfl] at H; exact H
       clear H
       have H := H1
       clear H1
       by_cases c130 : 0 ≤ ((rd_T39 (rd_L3 l0_1 a2) ((rd_T45 l1_1 a2).f0)).f2)
       rotate_left
       ·rw [if_neg c130] at H
        exact absurd H (by simp)
       rw [if_pos c130] at H
       have c130b0 : decide (0 ≤ ((rd_T39 (rd_L3 l0_1 a2) ((rd_T45 l1_1 a2).f0)).f2)) = true := decide_eq_true c130
       clear c130
       by_cases c131 : ((rd_T39 (rd_L3 l0_1 a2) ((rd_T45 l1_1 a2).f0)).f2) < (t243.length : Int)
       rotate_left
       ·rw [if_neg c131] at H
        exact absurd H (by simp)
       rw [if_pos c131] at H
       have c131b0 : decide (((rd_T39 (rd_L3 l0_1 a2) ((rd_T45 l1_1 a2).f0)).f2) < (t243.length : Int)) = true := decide_eq_true c131
       clear c131
       by_cases c132 : a2 < (l1_1.length : Int)
       rotate_left
       ·rw [if_neg c132] at H
        exact absurd H (by simp)
       rw [if_pos c132] at H
       have c132b0 : decide (a2 < (l1_1.length : Int)) = true := decide_eq_true c132
       clear c132
       by_cases c133 : 0 ≤ ((rd_T39 (rd_L3 l0_1 a2) ((rd_T45 l1_1 a2).f0)).f1)
       rotate_left
       ·rw [if_neg c133] at H
        exact absurd H (by simp)
       rw [if_pos c133] at H
       have c133b0 : decide (0 ≤ ((rd_T39 (rd_L3 l0_1 a2) ((rd_T45 l1_1 a2).f0)).f1)) = true := decide_eq_true c133
       clear c133
       by_cases c134 : ((rd_T39 (rd_L3 l0_1 a2) ((rd_T45 l1_1 a2).f0)).f1) < (((rd_T45 l1_1 a2).f1).length : Int)
       rotate_left
       ·rw [if_neg c134] at H
        exact absurd H (by simp)
       rw [if_pos c134] at H
       have c134b0 : decide (((rd_T39 (rd_L3 l0_1 a2) ((rd_T45 l1_1 a2).f0)).f1) < (((rd_T45 l1_1 a2).f1).length : Int)) = true := decide_eq_true c134
       clear c134
       obtain rfl := Option.some.inj H
       have hnb135 := NB250_237.out
       have hnc135 := NB237_250.out
       have hnb136 := NB250_238.out
       have hnc136 := NB238_250.out
       have hnb137 := NB250_254.out
       have hnc137 := NB254_250.out
       have hcz138_0 : wc.cell? ⟨gb250, 0, none⟩ = some (.slice Ao50 t243.length co50) := (blk_cell BK250.out 0).trans rfl
       have hcz138_1 : wc.cell? ⟨gb250, 1, none⟩ = some (.slice Ao54 t246.length co54) := (blk_cell BK250.out 1).trans rfl
       have hfz138_0 := blk_frozen BK250.out 0
       have hfz138_1 := blk_frozen BK250.out 1
       have p259 : 0 ≤ (a2 : Int) := of_decide_eq_true (by first | (with_reducible assumption) | assumption)
       have q259 : a2 < (t246.length : Int) := of_decide_eq_true (by first | (with_reducible assumption) | assumption)
       obtain ⟨ad259, A259_1, c259_1, A259_3, c259_3, e259, hx259_0, hx259_1, hx259_2, hx259_3, hl259_1, hi259_1, hl259_3, hi259_3⟩ := at_T45 (Kd.V_reads' HO_251001.out).2.2 a2 p259 q259
       cases e259
       obtain ⟨ce259, hce259, hMe259, hcc259⟩ := Kd.V_get HO_251001.out z45 a2 p259 (by first | exact q259 | exact of_decide_eq_true (by first | (with_reducible assumption) | assumption) | (have e_ := (Kd.V_reads' HO_251001.out).1; omega))
       obtain ⟨ua259_1, uc259_1, ua259_3, uc259_3, rfl, ul259_1, ge259_1, ul259_3, ge259_3⟩ := k45_openF hMe259
       have hv259_1 := hcc259 1 _ rfl
       rw [add_field _ _ 1 (by omega)] at hv259_1
       replace hv259_1 := Option.some.inj (hv259_1.symm.trans hx259_1)
       injection hv259_1 with hva_ hvn_ hvc_
       rw [hva_] at ge259_1
       rw [hvc_] at ul259_1
       have HL259_1 := Aside0.mk (show Kd.V (Kd.int .i64) 3 _ w.heap.size _ _ ((rd_T45 t246 a2).f1) from Kd.V_mk ul259_1 ge259_1)
       clear hva_ hvn_ hvc_ ge259_1 ul259_1
       have hv259_3 := hcc259 3 _ rfl
       rw [add_field _ _ 3 (by omega)] at hv259_3
       replace hv259_3 := Option.some.inj (hv259_3.symm.trans hx259_3)
       injection hv259_3 with hva_ hvn_ hvc_
       rw [hva_] at ge259_3
       rw [hvc_] at ul259_3
       have HL259_3 := Aside0.mk (show Kd.V k53 53 _ w.heap.size _ _ ((rd_T45 t246 a2).f3) from Kd.V_mk ul259_3 ge259_3)
       clear hva_ hvn_ hvc_ ge259_3 ul259_3
       clear hcc259 hce259
       have HR259_1 := Aside0.mk hi259_1
       have HC259_1 := Aside0.mk hl259_1
       clear hi259_1 hl259_1
       have HR259_3 := Aside0.mk hi259_3
       have HC259_3 := Aside0.mk hl259_3
       clear hi259_3 hl259_3
       replace p259 := eq_true p259
       replace q259 := eq_true q259
       have p260 : 0 ≤ (ji41 : Int) := of_decide_eq_true (by first | (with_reducible assumption) | assumption)
       have q260 : ji41 < (((rd_T45 t246 a2).f1).length : Int) := of_decide_eq_true (by first | (with_reducible assumption) | assumption)
       obtain ⟨ad260, e260, hx260_0⟩ := Kd.at_int (by repeat (first | (with_reducible exact HR259_1.out) | (with_reducible refine Kd.C_alloc ?_ _) | (with_reducible refine Kd.C_drewN ?_ _) | (with_reducible refine Kd.C_drew ?_) | exact HR259_1.out)) ji41 p260 q260
       cases e260
       replace p260 := eq_true p260
       replace q260 := eq_true q260
       have hnb139 := NB254_237.out
       have hnc139 := NB237_254.out
       have hnb140 := NB254_238.out
       have hnc140 := NB238_254.out
       have hcz141_0 : wc.cell? ⟨gb254, 0, none⟩ = some (.int .i64 ((rd_T39 (rd_L3 l0_1 a2) ((rd_T45 l1_1 a2).f0)).f0)) := (blk_cell BK254.out 0).trans rfl
       have hcz141_1 : wc.cell? ⟨gb254, 1, none⟩ = some (.int .i64 ((rd_T39 (rd_L3 l0_1 a2) ((rd_T45 l1_1 a2).f0)).f1)) := (blk_cell BK254.out 1).trans rfl
       have hcz141_2 : wc.cell? ⟨gb254, 2, none⟩ = some (.int .i64 ((rd_T39 (rd_L3 l0_1 a2) ((rd_T45 l1_1 a2).f0)).f2)) := (blk_cell BK254.out 2).trans rfl
       have hcz141_3 : wc.cell? ⟨gb254, 3, none⟩ = some (.int .i64 ((rd_T39 (rd_L3 l0_1 a2) ((rd_T45 l1_1 a2).f0)).f3)) := (blk_cell BK254.out 3).trans rfl
       have hcz141_4 : wc.cell? ⟨gb254, 4, none⟩ = some (.int .i64 ((rd_T39 (rd_L3 l0_1 a2) ((rd_T45 l1_1 a2).f0)).f4)) := (blk_cell BK254.out 4).trans rfl
       have hfz141_0 := blk_frozen BK254.out 0
       have hfz141_1 := blk_frozen BK254.out 1
       have hfz141_2 := blk_frozen BK254.out 2
       have hfz141_3 := blk_frozen BK254.out 3
       have hfz141_4 := blk_frozen BK254.out 4
       try go_wp2
       have n0_ := Aside0.mk (Kd.V_drew HO_251000.out)
       have n1_ := Aside0.mk (Kd.V_drew HO_251001.out)
       have n2_ := Aside0.mk (Kd.V_drew HL259_1.out)
       have n3_ := Aside0.mk (Kd.V_drew HL259_3.out)
       have n4_ := Aside0.mk (blk_drew BK237.out)
       have n5_ := Aside0.mk (blk_drew BK238.out)
       have n6_ := Aside0.mk (blk_drew BK250.out)
       have n7_ := Aside0.mk (blk_drew BK254.out)
       have n8_ := Aside0.mk (Kd.C_drew HR259_1.out)
       have n9_ := Aside0.mk (Kd.C_drew HR259_3.out)
       have n10_ := Aside0.mk (below_drew1 HB.out)
       clear HO_251000
       clear HO_251001
       clear HL259_1
       clear HL259_3
       clear BK237
       clear BK238
       clear BK250
       clear BK254
       clear HR259_1
       clear HR259_3
       clear HB
       have HO_251000 := n0_
       have HO_251001 := n1_
       have HL259_1 := n2_
       have HL259_3 := n3_
       have BK237 := n4_
       have BK238 := n5_
       have BK250 := n6_
       have BK254 := n7_
       have HR259_1 := n8_
       have HR259_3 := n9_
       have HB := n10_
       clear n0_ n1_ n2_ n3_ n4_ n5_ n6_ n7_ n8_ n9_ n10_
       have p262 : 0 ≤ (((rd_T39 (rd_L3 l0_1 a2) ((rd_T45 l1_1 a2).f0)).f2) : Int) := of_decide_eq_true (by first | (with_reducible assumption) | assumption)
       have q262 : ((rd_T39 (rd_L3 l0_1 a2) ((rd_T45 l1_1 a2).f0)).f2) < (t243.length : Int) := of_decide_eq_true (by first | (with_reducible assumption) | assumption)
       obtain ⟨ad262, e262, hx262_0⟩ := Kd.at_int (Kd.V_reads' HO_251000.out).2.2 ((rd_T39 (rd_L3 l0_1 a2) ((rd_T45 l1_1 a2).f0)).f2) p262 q262
       cases e262
       replace p262 := eq_true p262
       replace q262 := eq_true q262
       have p263 : 0 ≤ (a2 : Int) := of_decide_eq_true (by first | (with_reducible assumption) | assumption)
       have q263 : a2 < (l1_1.length : Int) := of_decide_eq_true (by first | (with_reducible assumption) | assumption)
       obtain ⟨ad263, A263_1, c263_1, A263_3, c263_3, e263, hx263_0, hx263_1, hx263_2, hx263_3, hl263_1, hi263_1, hl263_3, hi263_3⟩ := at_T45 HR1_1.out a2 p263 q263
       have hw263_3 := hx263_3
       have hw263_2 := hx263_2
       have hw263_1 := hx263_1
       have hw263_0 := hx263_0
       obtain rfl : ad252 = ad263 := (by injection e263)
       replace hx263_0 := (HB.out.cell (World.block_lt_of_cell? w _ hx263_0)).trans hx263_0
       replace hx263_1 := (HB.out.cell (World.block_lt_of_cell? w _ hx263_1)).trans hx263_1
       replace hx263_2 := (HB.out.cell (World.block_lt_of_cell? w _ hx263_2)).trans hx263_2
       replace hx263_3 := (HB.out.cell (World.block_lt_of_cell? w _ hx263_3)).trans hx263_3
       have HR263_1 := Aside0.mk hi263_1
       have HC263_1 := Aside0.mk hl263_1
       clear hi263_1 hl263_1
       have HR263_3 := Aside0.mk hi263_3
       have HC263_3 := Aside0.mk hl263_3
       clear hi263_3 hl263_3
       replace p263 := eq_true p263
       replace q263 := eq_true q263
       have p264 : 0 ≤ (((rd_T39 (rd_L3 l0_1 a2) ((rd_T45 l1_1 a2).f0)).f1) : Int) := of_decide_eq_true (by first | (with_reducible assumption) | assumption)
       have q264 : ((rd_T39 (rd_L3 l0_1 a2) ((rd_T45 l1_1 a2).f0)).f1) < (((rd_T45 l1_1 a2).f1).length : Int) := of_decide_eq_true (by first | (with_reducible assumption) | assumption)
       obtain ⟨ad264, e264, hx264_0⟩ := Kd.at_int HR263_1.out ((rd_T39 (rd_L3 l0_1 a2) ((rd_T45 l1_1 a2).f0)).f1) p264 q264
       have hw264_0 := hx264_0
       cases e264
       replace hx264_0 := (HB.out.cell (World.block_lt_of_cell? w _ hx264_0)).trans hx264_0
       replace p264 := eq_true p264
       replace q264 := eq_true q264
       refine start_ (n := 21) (S := fun w' => w'.cell? ⟨gb250, 0, none⟩ = some (.slice (some ad262) t243.length co50) ∧ w'.cell? ⟨gb250, 1, none⟩ = some (.slice (some ad259) t246.length co54) ∧ w'.cell? ⟨gb254, 0, none⟩ = some (.int .i64 ((rd_T39 (rd_L3 l0_1 a2) ((rd_T45 l1_1 a2).f0)).f0)) ∧ w'.cell? ⟨gb254, 1, none⟩ = some (.int .i64 ((rd_T39 (rd_L3 l0_1 a2) ((rd_T45 l1_1 a2).f0)).f1)) ∧ w'.cell? ⟨gb254, 2, none⟩ = some (.int .i64 ((rd_T39 (rd_L3 l0_1 a2) ((rd_T45 l1_1 a2).f0)).f2)) ∧ w'.cell? ⟨gb254, 3, none⟩ = some (.int .i64 ((rd_T39 (rd_L3 l0_1 a2) ((rd_T45 l1_1 a2).f0)).f3)) ∧ w'.cell? ⟨gb254, 4, none⟩ = some (.int .i64 ((rd_T39 (rd_L3 l0_1 a2) ((rd_T45 l1_1 a2).f0)).f4)) ∧ w'.cell? ⟨gb238, 0, none⟩ = some (.slice A1_0 l1_0.length c1_0) ∧ w'.cell? ⟨gb238, 1, none⟩ = some (.slice (some ad252) l1_1.length c1_1) ∧ w'.cell? (ad262.add (((rd_T39 (rd_L3 l0_1 a2) ((rd_T45 l1_1 a2).f0)).f2)).toNat) = some (.int .i64 (rd t243 ((rd_T39 (rd_L3 l0_1 a2) ((rd_T45 l1_1 a2).f0)).f2))) ∧ w'.cell? (ad252.add ((a2).toNat * 4)) = some (.int .i64 ((rd_T45 l1_1 a2).f0)) ∧ w'.cell? ⟨(ad252.add ((a2).toNat * 4)).block, (ad252.add ((a2).toNat * 4)).off + 1, none⟩ = some (.slice (some ad264) ((rd_T45 l1_1 a2).f1).length c263_1) ∧ w'.cell? ⟨(ad252.add ((a2).toNat * 4)).block, (ad252.add ((a2).toNat * 4)).off + 2, none⟩ = some (.bool ((rd_T45 l1_1 a2).f2)) ∧ w'.cell? ⟨(ad252.add ((a2).toNat * 4)).block, (ad252.add ((a2).toNat * 4)).off + 3, none⟩ = some (.slice A263_3 ((rd_T45 l1_1 a2).f3).length c263_3) ∧ w'.cell? (ad264.add (((rd_T39 (rd_L3 l0_1 a2) ((rd_T45 l1_1 a2).f0)).f1)).toNat) = some (.int .i64 (rd ((rd_T45 l1_1 a2).f1) ((rd_T39 (rd_L3 l0_1 a2) ((rd_T45 l1_1 a2).f0)).f1)))) (ds := []) (lb_ 21 0) (by kernel_rfl) rfl rfl ⟨(blk_cell BK250.out 0).trans rfl, (blk_cell BK250.out 1).trans rfl, (blk_cell BK254.out 0).trans rfl, (blk_cell BK254.out 1).trans rfl, (blk_cell BK254.out 2).trans rfl, (blk_cell BK254.out 3).trans rfl, (blk_cell BK254.out 4).trans rfl, (blk_cell BK238.out 0).trans rfl, (blk_cell BK238.out 1).trans rfl, hx262_0, ((HB.out.cell (World.block_lt_of_cell? w _ hw263_0)).trans hw263_0), ((HB.out.cell (World.block_lt_of_cell? w _ hw263_1)).trans hw263_1), ((HB.out.cell (World.block_lt_of_cell? w _ hw263_2)).trans hw263_2), ((HB.out.cell (World.block_lt_of_cell? w _ hw263_3)).trans hw263_3), ((HB.out.cell (World.block_lt_of_cell? w _ hw264_0)).trans hw264_0)⟩ (fun hHeld => ?_); refine with_tabW fencepostlaw10_ScReads.tab21 fencepostlaw10_ScReads.bits21 (fun HT_ HW_ => ?_)
       generalize wc.drew = w142 at HO_251000 HO_251001 HL259_1 HL259_3 BK237 BK238 BK250 BK254 HR259_1 HR259_3 HB HR263_1 HR263_3 hx262_0 hx263_0 hx263_1 hx263_2 hx263_3 hx264_0 hHeld ⊢
       refine pure_ (i := 0) (N := some 133) (v := ?_) (a' := ?_) (lb_ 21 1) rfl rfl (any_of HT_.out (by kernel_rfl)) (fun _ _ _ h => h) (Or.inl ⟨by rfl, ?_⟩) ?_ ?_; rotate_left; intro w'; go_simp; with_reducible rfl; rotate_left; simp only [Act.put, List.setIfInBounds_toArray, List.set_cons_zero, List.set_cons_succ, i64_w, i32_w]; rfl
       refine pure_ (i := 1) (N := some 134) (v := ?_) (a' := ?_) (lb_ 21 3) rfl rfl (any_of HT_.out (by kernel_rfl)) (fun _ _ _ h => h) (Or.inl ⟨by rfl, ?_⟩) ?_ ?_; rotate_left; intro w'; go_simp; with_reducible rfl; rotate_left; simp only [Act.put, List.setIfInBounds_toArray, List.set_cons_zero, List.set_cons_succ, i64_w, i32_w]; rfl
       refine pure_ (i := 2) (N := some 135) (v := ?_) (a' := ?_) (lb_ 21 7) rfl rfl (any_of HT_.out (by kernel_rfl)) (fun _ _ _ h => h) (Or.inl ⟨by rfl, ?_⟩) ?_ ?_; rotate_left; intro w'; go_simp; with_reducible rfl; rotate_left; simp only [Act.put, List.setIfInBounds_toArray, List.set_cons_zero, List.set_cons_succ, i64_w, i32_w]; rfl
       refine pure_ (i := 4) (N := some 137) (v := ?_) (a' := ?_) (lb_ 21 23) rfl rfl (any_of HT_.out (by kernel_rfl)) (fun _ _ _ h => h) (Or.inl ⟨by rfl, ?_⟩) ?_ ?_; rotate_left; intro w'; go_simp; with_reducible rfl; rotate_left; simp only [Act.put, List.setIfInBounds_toArray, List.set_cons_zero, List.set_cons_succ, i64_w, i32_w]; rfl
       refine pure_ (i := 8) (N := some 141) (v := ?_) (a' := ?_) (lb_ 21 279) rfl rfl (any_of HT_.out (by kernel_rfl)) (fun _ _ _ h => h) (Or.inl ⟨by rfl, ?_⟩) ?_ ?_; rotate_left; intro w'; go_simp; with_reducible rfl; rotate_left; simp only [Act.put, List.setIfInBounds_toArray, List.set_cons_zero, List.set_cons_succ, i64_w, i32_w]; rfl
       refine pure_ (i := 10) (N := some 143) (v := ?_) (a' := ?_) (lb_ 21 1303) rfl rfl (any_of HT_.out (by kernel_rfl)) (fun _ _ _ h => h) (Or.inl ⟨by rfl, ?_⟩) ?_ ?_; rotate_left; intro w'; go_simp; with_reducible rfl; rotate_left; simp only [Act.put, List.setIfInBounds_toArray, List.set_cons_zero, List.set_cons_succ, i64_w, i32_w]; rfl
       refine pure_ (i := 14) (N := some 147) (v := ?_) (a' := ?_) (lb_ 21 17687) rfl rfl (any_of HT_.out (by kernel_rfl)) (fun _ _ _ h => h) (Or.inl ⟨by rfl, ?_⟩) ?_ ?_; rotate_left; intro w'; go_simp; with_reducible rfl; rotate_left; simp only [Act.put, List.setIfInBounds_toArray, List.set_cons_zero, List.set_cons_succ, i64_w, i32_w]; rfl
       refine take_ (i := 3) (N := some 136) (v := ?_) (a' := ?_) (lb_ 21 17695) rfl rfl (take_ofW HT_.out HW_.out (by kernel_rfl)) (fun _ _ _ h => h) (Or.inl ⟨by rfl, ?_⟩) hHeld ?_ ?_; rotate_left; rintro w' ⟨s0, s1, s2, s3, s4, s5, s6, s7, s8, s9, s10, s11, s12, s13, s14⟩; go_simp; with_reducible rfl; rotate_left; simp only [Act.put, List.setIfInBounds_toArray, List.set_cons_zero, List.set_cons_succ, i64_w, i32_w]; rfl
       refine take_ (i := 5) (N := some 138) (v := ?_) (a' := ?_) (lb_ 21 17727) rfl rfl (take_ofW HT_.out HW_.out (by kernel_rfl)) (fun _ _ _ h => h) (Or.inl ⟨by rfl, ?_⟩) hHeld ?_ ?_; rotate_left; rintro w' ⟨s0, s1, s2, s3, s4, s5, s6, s7, s8, s9, s10, s11, s12, s13, s14⟩; go_simp; with_reducible rfl; rotate_left; simp only [Act.put, List.setIfInBounds_toArray, List.set_cons_zero, List.set_cons_succ, i64_w, i32_w]; rfl
       refine pure_ (i := 6) (N := some 139) (v := ?_) (a' := ?_) (lb_ 21 17791) rfl rfl (any_of HT_.out (by kernel_rfl)) (fun _ _ _ h => h) (Or.inl ⟨by rfl, ?_⟩) ?_ ?_; rotate_left; intro w'; go_simp; with_reducible rfl; rotate_left; simp only [Act.put, List.setIfInBounds_toArray, List.set_cons_zero, List.set_cons_succ, i64_w, i32_w]; rfl
       refine take_ (i := 7) (N := some 140) (v := ?_) (a' := ?_) (lb_ 21 17919) rfl rfl (take_ofW HT_.out HW_.out (by kernel_rfl)) (fun _ _ _ h => h) (Or.inl ⟨by rfl, ?_⟩) hHeld ?_ ?_; rotate_left; rintro w' ⟨s0, s1, s2, s3, s4, s5, s6, s7, s8, s9, s10, s11, s12, s13, s14⟩; go_simp; with_reducible rfl; rotate_left; simp only [Act.put, List.setIfInBounds_toArray, List.set_cons_zero, List.set_cons_succ, i64_w, i32_w]; rfl
       refine take_ (i := 9) (N := some 142) (v := ?_) (a' := ?_) (lb_ 21 18431) rfl rfl (take_ofW HT_.out HW_.out (by kernel_rfl)) (fun _ _ _ h => h) (Or.inl ⟨by rfl, ?_⟩) hHeld ?_ ?_; rotate_left; rintro w' ⟨s0, s1, s2, s3, s4, s5, s6, s7, s8, s9, s10, s11, s12, s13, s14⟩; go_simp; with_reducible rfl; rotate_left; simp only [Act.put, List.setIfInBounds_toArray, List.set_cons_zero, List.set_cons_succ, i64_w, i32_w]; rfl
       refine pure_ (i := 11) (N := some 144) (v := ?_) (a' := ?_) (lb_ 21 20479) rfl rfl (any_of HT_.out (by kernel_rfl)) (fun _ _ _ h => h) (Or.inl ⟨by rfl, ?_⟩) ?_ ?_; rotate_left; intro w'; go_simp; with_reducible rfl; rotate_left; simp only [Act.put, List.setIfInBounds_toArray, List.set_cons_zero, List.set_cons_succ, i64_w, i32_w]; rfl
       refine pure_ (i := 12) (N := some 145) (v := ?_) (a' := ?_) (lb_ 21 24575) rfl rfl (any_of HT_.out (by kernel_rfl)) (fun _ _ _ h => h) (Or.inl ⟨by rfl, ?_⟩) ?_ ?_; rotate_left; intro w'; go_simp; with_reducible rfl; rotate_left; simp only [Act.put, List.setIfInBounds_toArray, List.set_cons_zero, List.set_cons_succ, i64_w, i32_w]; rfl
       refine take_ (i := 13) (N := some 146) (v := ?_) (a' := ?_) (lb_ 21 32767) rfl rfl (take_ofW HT_.out HW_.out (by kernel_rfl)) (fun _ _ _ h => h) (Or.inl ⟨by rfl, ?_⟩) hHeld ?_ ?_; rotate_left; rintro w' ⟨s0, s1, s2, s3, s4, s5, s6, s7, s8, s9, s10, s11, s12, s13, s14⟩; go_simp; with_reducible rfl; rotate_left; simp only [Act.put, List.setIfInBounds_toArray, List.set_cons_zero, List.set_cons_succ, i64_w, i32_w]; rfl
       refine take_ (i := 15) (N := some 148) (v := ?_) (a' := ?_) (lb_ 21 65535) rfl rfl (take_ofW HT_.out HW_.out (by kernel_rfl)) (fun _ _ _ h => h) (Or.inl ⟨by rfl, ?_⟩) hHeld ?_ ?_; rotate_left; rintro w' ⟨s0, s1, s2, s3, s4, s5, s6, s7, s8, s9, s10, s11, s12, s13, s14⟩; go_simp; with_reducible rfl; rotate_left; simp only [Act.put, List.setIfInBounds_toArray, List.set_cons_zero, List.set_cons_succ, i64_w, i32_w]; rfl
       refine pure_ (i := 16) (N := some 149) (v := ?_) (a' := ?_) (lb_ 21 131071) rfl rfl (any_of HT_.out (by kernel_rfl)) (fun _ _ _ h => h) (Or.inl ⟨by rfl, ?_⟩) ?_ ?_; rotate_left; intro w'; go_simp; with_reducible rfl; rotate_left; simp only [Act.put, List.setIfInBounds_toArray, List.set_cons_zero, List.set_cons_succ, i64_w, i32_w]; rfl
       refine take_ (i := 17) (N := some 150) (v := ?_) (a' := ?_) (lb_ 21 262143) rfl rfl (take_ofW HT_.out HW_.out (by kernel_rfl)) (fun _ _ _ h => h) (Or.inl ⟨by rfl, ?_⟩) hHeld ?_ ?_; rotate_left; rintro w' ⟨s0, s1, s2, s3, s4, s5, s6, s7, s8, s9, s10, s11, s12, s13, s14⟩; go_simp; with_reducible rfl; rotate_left; simp only [Act.put, List.setIfInBounds_toArray, List.set_cons_zero, List.set_cons_succ, i64_w, i32_w]; rfl
       refine pure_ (i := 18) (N := some 151) (v := ?_) (a' := ?_) (lb_ 21 524287) rfl rfl (any_of HT_.out (by kernel_rfl)) (fun _ _ _ h => h) (Or.inl ⟨by rfl, ?_⟩) ?_ ?_; rotate_left; intro w'; go_simp; with_reducible rfl; rotate_left; simp only [Act.put, List.setIfInBounds_toArray, List.set_cons_zero, List.set_cons_succ, i64_w, i32_w]; rfl
       refine pure_ (i := 19) (N := some 152) (v := ?_) (a' := ?_) (lb_ 21 1048575) rfl rfl (any_of HT_.out (by kernel_rfl)) (fun _ _ _ h => h) (Or.inl ⟨by rfl, ?_⟩) ?_ ?_; rotate_left; intro w'; go_simp; with_reducible rfl; rotate_left; simp only [Act.put, List.setIfInBounds_toArray, List.set_cons_zero, List.set_cons_succ, i64_w, i32_w]; rfl
       refine pure_ (i := 20) (N := some 8) (v := ?_) (a' := ?_) (lb_ 21 2097151) rfl rfl (any_of HT_.out (by kernel_rfl)) (fun _ _ _ h => h) (Or.inl ⟨by rfl, ?_⟩) ?_ ?_; rotate_left; intro w'; go_simp; with_reducible rfl; rotate_left; simp only [Act.put, List.setIfInBounds_toArray, List.set_cons_zero, List.set_cons_succ, i64_w, i32_w]; rfl
       refine done_ (done_of HT_.out (by kernel_rfl)) ?_
       try go_wp2
       go_ret
       exact ⟨by first | rfl | (simp [errW_none, errW_some] <;> rfl) | (simp only [← hji41]; first | rfl | (simp [errW_none, errW_some] <;> rfl)) | (simp [*, errW_none, errW_some] <;> rfl), by repeat (first | (with_reducible first | exact HB.out | apply below_alloc | apply pw_below_drewN | apply below_drew1 | refine below_set ?_ GE237.out | refine below_set ?_ GE238.out | refine below_set ?_ GE250.out | refine below_set ?_ GE254.out) | exact HB.out)⟩
      rw [if_neg c128] at H
      have c128b0 : (((rd_T39 (rd_L3 l0_1 a2) ((rd_T45 l1_1 a2).f0)).f0) == 3) = false := beq_eq_false_iff_ne.mpr c128
      have c128b1 : (((rd_T39 (rd_L3 l0_1 a2) ((rd_T45 l1_1 a2).f0)).f0) != 3) = true := bne_iff_ne.mpr c128
      by_cases c143 : ((rd_T39 (rd_L3 l0_1 a2) ((rd_T45 l1_1 a2).f0)).f0) = 5
      ·rw [if_pos c143] at H
       have c143b0 : (((rd_T39 (rd_L3 l0_1 a2) ((rd_T45 l1_1 a2).f0)).f0) == 5) = true := beq_iff_eq.mpr c143
       have c143b1 : (((rd_T39 (rd_L3 l0_1 a2) ((rd_T45 l1_1 a2).f0)).f0) != 5) = false := bne_eq_false_iff_eq.mpr c143
       clear c143
       by_cases c144 : t239 = true
       rotate_left
       ·replace c144 := Bool.eq_false_iff.mpr c144
        subst c144
        have H1 : (some false) = some r := by rw [if_neg (show ¬ (false = true) by decide)] at H; exact H
        clear H
        have H := H1
        clear H1
        exact absurd ((Option.some.inj H).trans HT.out) (by simp)
       subst c144
       have H1 : (if 0 ≤ ((rd_T39 (rd_L3 l0_1 a2) ((rd_T45 l1_1 a2).f0)).f2) then (if ((rd_T39 (rd_L3 l0_1 a2) ((rd_T45 l1_1 a2).f0)).f2) < (t243.length : Int) then (if a2 < (l1_1.length : Int) then (if 0 ≤ ((rd_T39 (rd_L3 l0_1 a2) ((rd_T45 l1_1 a2).f0)).f1) then (if ((rd_T39 (rd_L3 l0_1 a2) ((rd_T45 l1_1 a2).f0)).f1) < (((rd_T45 l1_1 a2).f1).length : Int) then (some ((rd t243 ((rd_T39 (rd_L3 l0_1 a2) ((rd_T45 l1_1 a2).f0)).f2)) == (rd ((rd_T45 l1_1 a2).f1) ((rd_T39 (rd_L3 l0_1 a2) ((rd_T45 l1_1 a2).f0)).f1)))) else (none)) else (none)) else (none)) else (none)) else (none)) = some r := by rw [if_pos rfl] at H; exact H
       clear H
       have H := H1
       clear H1
       by_cases c145 : 0 ≤ ((rd_T39 (rd_L3 l0_1 a2) ((rd_T45 l1_1 a2).f0)).f2)
       rotate_left
       ·rw [if_neg c145] at H
        exact absurd H (by simp)
       rw [if_pos c145] at H
       have c145b0 : decide (0 ≤ ((rd_T39 (rd_L3 l0_1 a2) ((rd_T45 l1_1 a2).f0)).f2)) = true := decide_eq_true c145
       clear c145
       by_cases c146 : ((rd_T39 (rd_L3 l0_1 a2) ((rd_T45 l1_1 a2).f0)).f2) < (t243.length : Int)
       rotate_left
       ·rw [if_neg c146] at H
        exact absurd H (by simp)
       rw [if_pos c146] at H
       have c146b0 : decide (((rd_T39 (rd_L3 l0_1 a2) ((rd_T45 l1_1 a2).f0)).f2) < (t243.length : Int)) = true := decide_eq_true c146
       clear c146
       by_cases c147 : a2 < (l1_1.length : Int)
       rotate_left
       ·rw [if_neg c147] at H
        exact absurd H (by simp)
       rw [if_pos c147] at H
       have c147b0 : decide (a2 < (l1_1.length : Int)) = true := decide_eq_true c147
       clear c147
       by_cases c148 : 0 ≤ ((rd_T39 (rd_L3 l0_1 a2) ((rd_T45 l1_1 a2).f0)).f1)
       rotate_left
       ·rw [if_neg c148] at H
        exact absurd H (by simp)
       rw [if_pos c148] at H
       have c148b0 : decide (0 ≤ ((rd_T39 (rd_L3 l0_1 a2) ((rd_T45 l1_1 a2).f0)).f1)) = true := decide_eq_true c148
       clear c148
       by_cases c149 : ((rd_T39 (rd_L3 l0_1 a2) ((rd_T45 l1_1 a2).f0)).f1) < (((rd_T45 l1_1 a2).f1).length : Int)
       rotate_left
       ·rw [if_neg c149] at H
        exact absurd H (by simp)
       rw [if_pos c149] at H
       have c149b0 : decide (((rd_T39 (rd_L3 l0_1 a2) ((rd_T45 l1_1 a2).f0)).f1) < (((rd_T45 l1_1 a2).f1).length : Int)) = true := decide_eq_true c149
       clear c149
       obtain rfl := Option.some.inj H
       have hnb150 := NB250_237.out
       have hnc150 := NB237_250.out
       have hnb151 := NB250_238.out
       have hnc151 := NB238_250.out
       have hnb152 := NB250_254.out
       have hnc152 := NB254_250.out
       have hcz153_0 : wc.cell? ⟨gb250, 0, none⟩ = some (.slice Ao50 t243.length co50) := (blk_cell BK250.out 0).trans rfl
       have hcz153_1 : wc.cell? ⟨gb250, 1, none⟩ = some (.slice Ao54 t246.length co54) := (blk_cell BK250.out 1).trans rfl
       have hfz153_0 := blk_frozen BK250.out 0
       have hfz153_1 := blk_frozen BK250.out 1
       have p259 : 0 ≤ (a2 : Int) := of_decide_eq_true (by first | (with_reducible assumption) | assumption)
       have q259 : a2 < (t246.length : Int) := of_decide_eq_true (by first | (with_reducible assumption) | assumption)
       obtain ⟨ad259, A259_1, c259_1, A259_3, c259_3, e259, hx259_0, hx259_1, hx259_2, hx259_3, hl259_1, hi259_1, hl259_3, hi259_3⟩ := at_T45 (Kd.V_reads' HO_251001.out).2.2 a2 p259 q259
       cases e259
       obtain ⟨ce259, hce259, hMe259, hcc259⟩ := Kd.V_get HO_251001.out z45 a2 p259 (by first | exact q259 | exact of_decide_eq_true (by first | (with_reducible assumption) | assumption) | (have e_ := (Kd.V_reads' HO_251001.out).1; omega))
       obtain ⟨ua259_1, uc259_1, ua259_3, uc259_3, rfl, ul259_1, ge259_1, ul259_3, ge259_3⟩ := k45_openF hMe259
       have hv259_1 := hcc259 1 _ rfl
       rw [add_field _ _ 1 (by omega)] at hv259_1
       replace hv259_1 := Option.some.inj (hv259_1.symm.trans hx259_1)
       injection hv259_1 with hva_ hvn_ hvc_
       rw [hva_] at ge259_1
       rw [hvc_] at ul259_1
       have HL259_1 := Aside0.mk (show Kd.V (Kd.int .i64) 3 _ w.heap.size _ _ ((rd_T45 t246 a2).f1) from Kd.V_mk ul259_1 ge259_1)
       clear hva_ hvn_ hvc_ ge259_1 ul259_1
       have hv259_3 := hcc259 3 _ rfl
       rw [add_field _ _ 3 (by omega)] at hv259_3
       replace hv259_3 := Option.some.inj (hv259_3.symm.trans hx259_3)
       injection hv259_3 with hva_ hvn_ hvc_
       rw [hva_] at ge259_3
       rw [hvc_] at ul259_3
       have HL259_3 := Aside0.mk (show Kd.V k53 53 _ w.heap.size _ _ ((rd_T45 t246 a2).f3) from Kd.V_mk ul259_3 ge259_3)
       clear hva_ hvn_ hvc_ ge259_3 ul259_3
       clear hcc259 hce259
       have HR259_1 := Aside0.mk hi259_1
       have HC259_1 := Aside0.mk hl259_1
       clear hi259_1 hl259_1
       have HR259_3 := Aside0.mk hi259_3
       have HC259_3 := Aside0.mk hl259_3
       clear hi259_3 hl259_3
       replace p259 := eq_true p259
       replace q259 := eq_true q259
       have p260 : 0 ≤ (ji41 : Int) := of_decide_eq_true (by first | (with_reducible assumption) | assumption)
       have q260 : ji41 < (((rd_T45 t246 a2).f1).length : Int) := of_decide_eq_true (by first | (with_reducible assumption) | assumption)
       obtain ⟨ad260, e260, hx260_0⟩ := Kd.at_int (by repeat (first | (with_reducible exact HR259_1.out) | (with_reducible refine Kd.C_alloc ?_ _) | (with_reducible refine Kd.C_drewN ?_ _) | (with_reducible refine Kd.C_drew ?_) | exact HR259_1.out)) ji41 p260 q260
       cases e260
       replace p260 := eq_true p260
       replace q260 := eq_true q260
       have hnb154 := NB254_237.out
       have hnc154 := NB237_254.out
       have hnb155 := NB254_238.out
       have hnc155 := NB238_254.out
       have hcz156_0 : wc.cell? ⟨gb254, 0, none⟩ = some (.int .i64 ((rd_T39 (rd_L3 l0_1 a2) ((rd_T45 l1_1 a2).f0)).f0)) := (blk_cell BK254.out 0).trans rfl
       have hcz156_1 : wc.cell? ⟨gb254, 1, none⟩ = some (.int .i64 ((rd_T39 (rd_L3 l0_1 a2) ((rd_T45 l1_1 a2).f0)).f1)) := (blk_cell BK254.out 1).trans rfl
       have hcz156_2 : wc.cell? ⟨gb254, 2, none⟩ = some (.int .i64 ((rd_T39 (rd_L3 l0_1 a2) ((rd_T45 l1_1 a2).f0)).f2)) := (blk_cell BK254.out 2).trans rfl
       have hcz156_3 : wc.cell? ⟨gb254, 3, none⟩ = some (.int .i64 ((rd_T39 (rd_L3 l0_1 a2) ((rd_T45 l1_1 a2).f0)).f3)) := (blk_cell BK254.out 3).trans rfl
       have hcz156_4 : wc.cell? ⟨gb254, 4, none⟩ = some (.int .i64 ((rd_T39 (rd_L3 l0_1 a2) ((rd_T45 l1_1 a2).f0)).f4)) := (blk_cell BK254.out 4).trans rfl
       have hfz156_0 := blk_frozen BK254.out 0
       have hfz156_1 := blk_frozen BK254.out 1
       have hfz156_2 := blk_frozen BK254.out 2
       have hfz156_3 := blk_frozen BK254.out 3
       have hfz156_4 := blk_frozen BK254.out 4
       try go_wp2
       have n0_ := Aside0.mk (Kd.V_drew HO_251000.out)
       have n1_ := Aside0.mk (Kd.V_drew HO_251001.out)
       have n2_ := Aside0.mk (Kd.V_drew HL259_1.out)
       have n3_ := Aside0.mk (Kd.V_drew HL259_3.out)
       have n4_ := Aside0.mk (blk_drew BK237.out)
       have n5_ := Aside0.mk (blk_drew BK238.out)
       have n6_ := Aside0.mk (blk_drew BK250.out)
       have n7_ := Aside0.mk (blk_drew BK254.out)
       have n8_ := Aside0.mk (Kd.C_drew HR259_1.out)
       have n9_ := Aside0.mk (Kd.C_drew HR259_3.out)
       have n10_ := Aside0.mk (below_drew1 HB.out)
       clear HO_251000
       clear HO_251001
       clear HL259_1
       clear HL259_3
       clear BK237
       clear BK238
       clear BK250
       clear BK254
       clear HR259_1
       clear HR259_3
       clear HB
       have HO_251000 := n0_
       have HO_251001 := n1_
       have HL259_1 := n2_
       have HL259_3 := n3_
       have BK237 := n4_
       have BK238 := n5_
       have BK250 := n6_
       have BK254 := n7_
       have HR259_1 := n8_
       have HR259_3 := n9_
       have HB := n10_
       clear n0_ n1_ n2_ n3_ n4_ n5_ n6_ n7_ n8_ n9_ n10_
       have p265 : 0 ≤ (((rd_T39 (rd_L3 l0_1 a2) ((rd_T45 l1_1 a2).f0)).f2) : Int) := of_decide_eq_true (by first | (with_reducible assumption) | assumption)
       have q265 : ((rd_T39 (rd_L3 l0_1 a2) ((rd_T45 l1_1 a2).f0)).f2) < (t243.length : Int) := of_decide_eq_true (by first | (with_reducible assumption) | assumption)
       obtain ⟨ad265, e265, hx265_0⟩ := Kd.at_int (Kd.V_reads' HO_251000.out).2.2 ((rd_T39 (rd_L3 l0_1 a2) ((rd_T45 l1_1 a2).f0)).f2) p265 q265
       cases e265
       replace p265 := eq_true p265
       replace q265 := eq_true q265
       have p266 : 0 ≤ (a2 : Int) := of_decide_eq_true (by first | (with_reducible assumption) | assumption)
       have q266 : a2 < (l1_1.length : Int) := of_decide_eq_true (by first | (with_reducible assumption) | assumption)
       obtain ⟨ad266, A266_1, c266_1, A266_3, c266_3, e266, hx266_0, hx266_1, hx266_2, hx266_3, hl266_1, hi266_1, hl266_3, hi266_3⟩ := at_T45 HR1_1.out a2 p266 q266
       have hw266_3 := hx266_3
       have hw266_2 := hx266_2
       have hw266_1 := hx266_1
       have hw266_0 := hx266_0
       obtain rfl : ad252 = ad266 := (by injection e266)
       replace hx266_0 := (HB.out.cell (World.block_lt_of_cell? w _ hx266_0)).trans hx266_0
       replace hx266_1 := (HB.out.cell (World.block_lt_of_cell? w _ hx266_1)).trans hx266_1
       replace hx266_2 := (HB.out.cell (World.block_lt_of_cell? w _ hx266_2)).trans hx266_2
       replace hx266_3 := (HB.out.cell (World.block_lt_of_cell? w _ hx266_3)).trans hx266_3
       have HR266_1 := Aside0.mk hi266_1
       have HC266_1 := Aside0.mk hl266_1
       clear hi266_1 hl266_1
       have HR266_3 := Aside0.mk hi266_3
       have HC266_3 := Aside0.mk hl266_3
       clear hi266_3 hl266_3
       replace p266 := eq_true p266
       replace q266 := eq_true q266
       have p267 : 0 ≤ (((rd_T39 (rd_L3 l0_1 a2) ((rd_T45 l1_1 a2).f0)).f1) : Int) := of_decide_eq_true (by first | (with_reducible assumption) | assumption)
       have q267 : ((rd_T39 (rd_L3 l0_1 a2) ((rd_T45 l1_1 a2).f0)).f1) < (((rd_T45 l1_1 a2).f1).length : Int) := of_decide_eq_true (by first | (with_reducible assumption) | assumption)
       obtain ⟨ad267, e267, hx267_0⟩ := Kd.at_int HR266_1.out ((rd_T39 (rd_L3 l0_1 a2) ((rd_T45 l1_1 a2).f0)).f1) p267 q267
       have hw267_0 := hx267_0
       cases e267
       replace hx267_0 := (HB.out.cell (World.block_lt_of_cell? w _ hx267_0)).trans hx267_0
       replace p267 := eq_true p267
       replace q267 := eq_true q267
       refine start_ (n := 21) (S := fun w' => w'.cell? ⟨gb250, 0, none⟩ = some (.slice (some ad265) t243.length co50) ∧ w'.cell? ⟨gb250, 1, none⟩ = some (.slice (some ad259) t246.length co54) ∧ w'.cell? ⟨gb254, 0, none⟩ = some (.int .i64 ((rd_T39 (rd_L3 l0_1 a2) ((rd_T45 l1_1 a2).f0)).f0)) ∧ w'.cell? ⟨gb254, 1, none⟩ = some (.int .i64 ((rd_T39 (rd_L3 l0_1 a2) ((rd_T45 l1_1 a2).f0)).f1)) ∧ w'.cell? ⟨gb254, 2, none⟩ = some (.int .i64 ((rd_T39 (rd_L3 l0_1 a2) ((rd_T45 l1_1 a2).f0)).f2)) ∧ w'.cell? ⟨gb254, 3, none⟩ = some (.int .i64 ((rd_T39 (rd_L3 l0_1 a2) ((rd_T45 l1_1 a2).f0)).f3)) ∧ w'.cell? ⟨gb254, 4, none⟩ = some (.int .i64 ((rd_T39 (rd_L3 l0_1 a2) ((rd_T45 l1_1 a2).f0)).f4)) ∧ w'.cell? ⟨gb238, 0, none⟩ = some (.slice A1_0 l1_0.length c1_0) ∧ w'.cell? ⟨gb238, 1, none⟩ = some (.slice (some ad252) l1_1.length c1_1) ∧ w'.cell? (ad265.add (((rd_T39 (rd_L3 l0_1 a2) ((rd_T45 l1_1 a2).f0)).f2)).toNat) = some (.int .i64 (rd t243 ((rd_T39 (rd_L3 l0_1 a2) ((rd_T45 l1_1 a2).f0)).f2))) ∧ w'.cell? (ad252.add ((a2).toNat * 4)) = some (.int .i64 ((rd_T45 l1_1 a2).f0)) ∧ w'.cell? ⟨(ad252.add ((a2).toNat * 4)).block, (ad252.add ((a2).toNat * 4)).off + 1, none⟩ = some (.slice (some ad267) ((rd_T45 l1_1 a2).f1).length c266_1) ∧ w'.cell? ⟨(ad252.add ((a2).toNat * 4)).block, (ad252.add ((a2).toNat * 4)).off + 2, none⟩ = some (.bool ((rd_T45 l1_1 a2).f2)) ∧ w'.cell? ⟨(ad252.add ((a2).toNat * 4)).block, (ad252.add ((a2).toNat * 4)).off + 3, none⟩ = some (.slice A266_3 ((rd_T45 l1_1 a2).f3).length c266_3) ∧ w'.cell? (ad267.add (((rd_T39 (rd_L3 l0_1 a2) ((rd_T45 l1_1 a2).f0)).f1)).toNat) = some (.int .i64 (rd ((rd_T45 l1_1 a2).f1) ((rd_T39 (rd_L3 l0_1 a2) ((rd_T45 l1_1 a2).f0)).f1)))) (ds := []) (lb_ 21 0) (by kernel_rfl) rfl rfl ⟨(blk_cell BK250.out 0).trans rfl, (blk_cell BK250.out 1).trans rfl, (blk_cell BK254.out 0).trans rfl, (blk_cell BK254.out 1).trans rfl, (blk_cell BK254.out 2).trans rfl, (blk_cell BK254.out 3).trans rfl, (blk_cell BK254.out 4).trans rfl, (blk_cell BK238.out 0).trans rfl, (blk_cell BK238.out 1).trans rfl, hx265_0, ((HB.out.cell (World.block_lt_of_cell? w _ hw266_0)).trans hw266_0), ((HB.out.cell (World.block_lt_of_cell? w _ hw266_1)).trans hw266_1), ((HB.out.cell (World.block_lt_of_cell? w _ hw266_2)).trans hw266_2), ((HB.out.cell (World.block_lt_of_cell? w _ hw266_3)).trans hw266_3), ((HB.out.cell (World.block_lt_of_cell? w _ hw267_0)).trans hw267_0)⟩ (fun hHeld => ?_); refine with_tabW fencepostlaw10_ScReads.tab21 fencepostlaw10_ScReads.bits21 (fun HT_ HW_ => ?_)
       generalize wc.drew = w157 at HO_251000 HO_251001 HL259_1 HL259_3 BK237 BK238 BK250 BK254 HR259_1 HR259_3 HB HR266_1 HR266_3 hx265_0 hx266_0 hx266_1 hx266_2 hx266_3 hx267_0 hHeld ⊢
       refine pure_ (i := 0) (N := some 133) (v := ?_) (a' := ?_) (lb_ 21 1) rfl rfl (any_of HT_.out (by kernel_rfl)) (fun _ _ _ h => h) (Or.inl ⟨by rfl, ?_⟩) ?_ ?_; rotate_left; intro w'; go_simp; with_reducible rfl; rotate_left; simp only [Act.put, List.setIfInBounds_toArray, List.set_cons_zero, List.set_cons_succ, i64_w, i32_w]; rfl
       refine pure_ (i := 1) (N := some 134) (v := ?_) (a' := ?_) (lb_ 21 3) rfl rfl (any_of HT_.out (by kernel_rfl)) (fun _ _ _ h => h) (Or.inl ⟨by rfl, ?_⟩) ?_ ?_; rotate_left; intro w'; go_simp; with_reducible rfl; rotate_left; simp only [Act.put, List.setIfInBounds_toArray, List.set_cons_zero, List.set_cons_succ, i64_w, i32_w]; rfl
       refine pure_ (i := 2) (N := some 135) (v := ?_) (a' := ?_) (lb_ 21 7) rfl rfl (any_of HT_.out (by kernel_rfl)) (fun _ _ _ h => h) (Or.inl ⟨by rfl, ?_⟩) ?_ ?_; rotate_left; intro w'; go_simp; with_reducible rfl; rotate_left; simp only [Act.put, List.setIfInBounds_toArray, List.set_cons_zero, List.set_cons_succ, i64_w, i32_w]; rfl
       refine pure_ (i := 4) (N := some 137) (v := ?_) (a' := ?_) (lb_ 21 23) rfl rfl (any_of HT_.out (by kernel_rfl)) (fun _ _ _ h => h) (Or.inl ⟨by rfl, ?_⟩) ?_ ?_; rotate_left; intro w'; go_simp; with_reducible rfl; rotate_left; simp only [Act.put, List.setIfInBounds_toArray, List.set_cons_zero, List.set_cons_succ, i64_w, i32_w]; rfl
       refine pure_ (i := 8) (N := some 141) (v := ?_) (a' := ?_) (lb_ 21 279) rfl rfl (any_of HT_.out (by kernel_rfl)) (fun _ _ _ h => h) (Or.inl ⟨by rfl, ?_⟩) ?_ ?_; rotate_left; intro w'; go_simp; with_reducible rfl; rotate_left; simp only [Act.put, List.setIfInBounds_toArray, List.set_cons_zero, List.set_cons_succ, i64_w, i32_w]; rfl
       refine pure_ (i := 10) (N := some 143) (v := ?_) (a' := ?_) (lb_ 21 1303) rfl rfl (any_of HT_.out (by kernel_rfl)) (fun _ _ _ h => h) (Or.inl ⟨by rfl, ?_⟩) ?_ ?_; rotate_left; intro w'; go_simp; with_reducible rfl; rotate_left; simp only [Act.put, List.setIfInBounds_toArray, List.set_cons_zero, List.set_cons_succ, i64_w, i32_w]; rfl
       refine pure_ (i := 14) (N := some 147) (v := ?_) (a' := ?_) (lb_ 21 17687) rfl rfl (any_of HT_.out (by kernel_rfl)) (fun _ _ _ h => h) (Or.inl ⟨by rfl, ?_⟩) ?_ ?_; rotate_left; intro w'; go_simp; with_reducible rfl; rotate_left; simp only [Act.put, List.setIfInBounds_toArray, List.set_cons_zero, List.set_cons_succ, i64_w, i32_w]; rfl
       refine take_ (i := 3) (N := some 136) (v := ?_) (a' := ?_) (lb_ 21 17695) rfl rfl (take_ofW HT_.out HW_.out (by kernel_rfl)) (fun _ _ _ h => h) (Or.inl ⟨by rfl, ?_⟩) hHeld ?_ ?_; rotate_left; rintro w' ⟨s0, s1, s2, s3, s4, s5, s6, s7, s8, s9, s10, s11, s12, s13, s14⟩; go_simp; with_reducible rfl; rotate_left; simp only [Act.put, List.setIfInBounds_toArray, List.set_cons_zero, List.set_cons_succ, i64_w, i32_w]; rfl
       refine take_ (i := 5) (N := some 138) (v := ?_) (a' := ?_) (lb_ 21 17727) rfl rfl (take_ofW HT_.out HW_.out (by kernel_rfl)) (fun _ _ _ h => h) (Or.inl ⟨by rfl, ?_⟩) hHeld ?_ ?_; rotate_left; rintro w' ⟨s0, s1, s2, s3, s4, s5, s6, s7, s8, s9, s10, s11, s12, s13, s14⟩; go_simp; with_reducible rfl; rotate_left; simp only [Act.put, List.setIfInBounds_toArray, List.set_cons_zero, List.set_cons_succ, i64_w, i32_w]; rfl
       refine pure_ (i := 6) (N := some 139) (v := ?_) (a' := ?_) (lb_ 21 17791) rfl rfl (any_of HT_.out (by kernel_rfl)) (fun _ _ _ h => h) (Or.inl ⟨by rfl, ?_⟩) ?_ ?_; rotate_left; intro w'; go_simp; with_reducible rfl; rotate_left; simp only [Act.put, List.setIfInBounds_toArray, List.set_cons_zero, List.set_cons_succ, i64_w, i32_w]; rfl
       refine take_ (i := 7) (N := some 140) (v := ?_) (a' := ?_) (lb_ 21 17919) rfl rfl (take_ofW HT_.out HW_.out (by kernel_rfl)) (fun _ _ _ h => h) (Or.inl ⟨by rfl, ?_⟩) hHeld ?_ ?_; rotate_left; rintro w' ⟨s0, s1, s2, s3, s4, s5, s6, s7, s8, s9, s10, s11, s12, s13, s14⟩; go_simp; with_reducible rfl; rotate_left; simp only [Act.put, List.setIfInBounds_toArray, List.set_cons_zero, List.set_cons_succ, i64_w, i32_w]; rfl
       refine take_ (i := 9) (N := some 142) (v := ?_) (a' := ?_) (lb_ 21 18431) rfl rfl (take_ofW HT_.out HW_.out (by kernel_rfl)) (fun _ _ _ h => h) (Or.inl ⟨by rfl, ?_⟩) hHeld ?_ ?_; rotate_left; rintro w' ⟨s0, s1, s2, s3, s4, s5, s6, s7, s8, s9, s10, s11, s12, s13, s14⟩; go_simp; with_reducible rfl; rotate_left; simp only [Act.put, List.setIfInBounds_toArray, List.set_cons_zero, List.set_cons_succ, i64_w, i32_w]; rfl
       refine pure_ (i := 11) (N := some 144) (v := ?_) (a' := ?_) (lb_ 21 20479) rfl rfl (any_of HT_.out (by kernel_rfl)) (fun _ _ _ h => h) (Or.inl ⟨by rfl, ?_⟩) ?_ ?_; rotate_left; intro w'; go_simp; with_reducible rfl; rotate_left; simp only [Act.put, List.setIfInBounds_toArray, List.set_cons_zero, List.set_cons_succ, i64_w, i32_w]; rfl
       refine pure_ (i := 12) (N := some 145) (v := ?_) (a' := ?_) (lb_ 21 24575) rfl rfl (any_of HT_.out (by kernel_rfl)) (fun _ _ _ h => h) (Or.inl ⟨by rfl, ?_⟩) ?_ ?_; rotate_left; intro w'; go_simp; with_reducible rfl; rotate_left; simp only [Act.put, List.setIfInBounds_toArray, List.set_cons_zero, List.set_cons_succ, i64_w, i32_w]; rfl
       refine take_ (i := 13) (N := some 146) (v := ?_) (a' := ?_) (lb_ 21 32767) rfl rfl (take_ofW HT_.out HW_.out (by kernel_rfl)) (fun _ _ _ h => h) (Or.inl ⟨by rfl, ?_⟩) hHeld ?_ ?_; rotate_left; rintro w' ⟨s0, s1, s2, s3, s4, s5, s6, s7, s8, s9, s10, s11, s12, s13, s14⟩; go_simp; with_reducible rfl; rotate_left; simp only [Act.put, List.setIfInBounds_toArray, List.set_cons_zero, List.set_cons_succ, i64_w, i32_w]; rfl
       refine take_ (i := 15) (N := some 148) (v := ?_) (a' := ?_) (lb_ 21 65535) rfl rfl (take_ofW HT_.out HW_.out (by kernel_rfl)) (fun _ _ _ h => h) (Or.inl ⟨by rfl, ?_⟩) hHeld ?_ ?_; rotate_left; rintro w' ⟨s0, s1, s2, s3, s4, s5, s6, s7, s8, s9, s10, s11, s12, s13, s14⟩; go_simp; with_reducible rfl; rotate_left; simp only [Act.put, List.setIfInBounds_toArray, List.set_cons_zero, List.set_cons_succ, i64_w, i32_w]; rfl
       refine pure_ (i := 16) (N := some 149) (v := ?_) (a' := ?_) (lb_ 21 131071) rfl rfl (any_of HT_.out (by kernel_rfl)) (fun _ _ _ h => h) (Or.inl ⟨by rfl, ?_⟩) ?_ ?_; rotate_left; intro w'; go_simp; with_reducible rfl; rotate_left; simp only [Act.put, List.setIfInBounds_toArray, List.set_cons_zero, List.set_cons_succ, i64_w, i32_w]; rfl
       refine take_ (i := 17) (N := some 150) (v := ?_) (a' := ?_) (lb_ 21 262143) rfl rfl (take_ofW HT_.out HW_.out (by kernel_rfl)) (fun _ _ _ h => h) (Or.inl ⟨by rfl, ?_⟩) hHeld ?_ ?_; rotate_left; rintro w' ⟨s0, s1, s2, s3, s4, s5, s6, s7, s8, s9, s10, s11, s12, s13, s14⟩; go_simp; with_reducible rfl; rotate_left; simp only [Act.put, List.setIfInBounds_toArray, List.set_cons_zero, List.set_cons_succ, i64_w, i32_w]; rfl
       refine pure_ (i := 18) (N := some 151) (v := ?_) (a' := ?_) (lb_ 21 524287) rfl rfl (any_of HT_.out (by kernel_rfl)) (fun _ _ _ h => h) (Or.inl ⟨by rfl, ?_⟩) ?_ ?_; rotate_left; intro w'; go_simp; with_reducible rfl; rotate_left; simp only [Act.put, List.setIfInBounds_toArray, List.set_cons_zero, List.set_cons_succ, i64_w, i32_w]; rfl
       refine pure_ (i := 19) (N := some 152) (v := ?_) (a' := ?_) (lb_ 21 1048575) rfl rfl (any_of HT_.out (by kernel_rfl)) (fun _ _ _ h => h) (Or.inl ⟨by rfl, ?_⟩) ?_ ?_; rotate_left; intro w'; go_simp; with_reducible rfl; rotate_left; simp only [Act.put, List.setIfInBounds_toArray, List.set_cons_zero, List.set_cons_succ, i64_w, i32_w]; rfl
       refine pure_ (i := 20) (N := some 8) (v := ?_) (a' := ?_) (lb_ 21 2097151) rfl rfl (any_of HT_.out (by kernel_rfl)) (fun _ _ _ h => h) (Or.inl ⟨by rfl, ?_⟩) ?_ ?_; rotate_left; intro w'; go_simp; with_reducible rfl; rotate_left; simp only [Act.put, List.setIfInBounds_toArray, List.set_cons_zero, List.set_cons_succ, i64_w, i32_w]; rfl
       refine done_ (done_of HT_.out (by kernel_rfl)) ?_
       try go_wp2
       go_ret
       exact ⟨by first | rfl | (simp [errW_none, errW_some] <;> rfl) | (simp only [← hji41]; first | rfl | (simp [errW_none, errW_some] <;> rfl)) | (simp [*, errW_none, errW_some] <;> rfl), by repeat (first | (with_reducible first | exact HB.out | apply below_alloc | apply pw_below_drewN | apply below_drew1 | refine below_set ?_ GE237.out | refine below_set ?_ GE238.out | refine below_set ?_ GE250.out | refine below_set ?_ GE254.out) | exact HB.out)⟩
      rw [if_neg c143] at H
      have c143b0 : (((rd_T39 (rd_L3 l0_1 a2) ((rd_T45 l1_1 a2).f0)).f0) == 5) = false := beq_eq_false_iff_ne.mpr c143
      have c143b1 : (((rd_T39 (rd_L3 l0_1 a2) ((rd_T45 l1_1 a2).f0)).f0) != 5) = true := bne_iff_ne.mpr c143
      by_cases c158 : t239 = true
      rotate_left
      ·replace c158 := Bool.eq_false_iff.mpr c158
       subst c158
       have H1 : (some false) = some r := by rw [if_neg (show ¬ (false = true) by decide)] at H; exact H
       clear H
       have H := H1
       clear H1
       exact absurd ((Option.some.inj H).trans HT.out) (by simp)
      subst c158
      have H1 : (if ((rd_T39 (rd_L3 l0_1 a2) ((rd_T45 l1_1 a2).f0)).f0) = 7 then (if a2 < (l1_1.length : Int) then (if 0 ≤ ((rd_T39 (rd_L3 l0_1 a2) ((rd_T45 l1_1 a2).f0)).f1) then (if ((rd_T39 (rd_L3 l0_1 a2) ((rd_T45 l1_1 a2).f0)).f1) < (((rd_T45 l1_1 a2).f1).length : Int) then (if (((rd_T45 t246 a2).f2) == ((rd ((rd_T45 l1_1 a2).f1) ((rd_T39 (rd_L3 l0_1 a2) ((rd_T45 l1_1 a2).f0)).f1)) == ((rd_T39 (rd_L3 l0_1 a2) ((rd_T45 l1_1 a2).f0)).f3))) = true then (some true) else (some false)) else (none)) else (none)) else (none)) else (if a2 < (l1_1.length : Int) then (some (((rd_T45 t246 a2).f2) == ((rd_T45 l1_1 a2).f2))) else (none))) = some r := by rw [if_pos rfl] at H; exact H
      clear H
      have H := H1
      clear H1
      by_cases c159 : ((rd_T39 (rd_L3 l0_1 a2) ((rd_T45 l1_1 a2).f0)).f0) = 7
      rotate_left
      ·rw [if_neg c159] at H
       have c159b0 : (((rd_T39 (rd_L3 l0_1 a2) ((rd_T45 l1_1 a2).f0)).f0) == 7) = false := beq_eq_false_iff_ne.mpr c159
       have c159b1 : (((rd_T39 (rd_L3 l0_1 a2) ((rd_T45 l1_1 a2).f0)).f0) != 7) = true := bne_iff_ne.mpr c159
       by_cases c172 : a2 < (l1_1.length : Int)
       rotate_left
       ·rw [if_neg c172] at H
        exact absurd H (by simp)
       rw [if_pos c172] at H
       have c172b0 : decide (a2 < (l1_1.length : Int)) = true := decide_eq_true c172
       clear c172
       obtain rfl := Option.some.inj H
       have hnb173 := NB250_237.out
       have hnc173 := NB237_250.out
       have hnb174 := NB250_238.out
       have hnc174 := NB238_250.out
       have hnb175 := NB250_254.out
       have hnc175 := NB254_250.out
       have hcz176_0 : wc.cell? ⟨gb250, 0, none⟩ = some (.slice Ao50 t243.length co50) := (blk_cell BK250.out 0).trans rfl
       have hcz176_1 : wc.cell? ⟨gb250, 1, none⟩ = some (.slice Ao54 t246.length co54) := (blk_cell BK250.out 1).trans rfl
       have hfz176_0 := blk_frozen BK250.out 0
       have hfz176_1 := blk_frozen BK250.out 1
       have p259 : 0 ≤ (a2 : Int) := of_decide_eq_true (by first | (with_reducible assumption) | assumption)
       have q259 : a2 < (t246.length : Int) := of_decide_eq_true (by first | (with_reducible assumption) | assumption)
       obtain ⟨ad259, A259_1, c259_1, A259_3, c259_3, e259, hx259_0, hx259_1, hx259_2, hx259_3, hl259_1, hi259_1, hl259_3, hi259_3⟩ := at_T45 (Kd.V_reads' HO_251001.out).2.2 a2 p259 q259
       cases e259
       obtain ⟨ce259, hce259, hMe259, hcc259⟩ := Kd.V_get HO_251001.out z45 a2 p259 (by first | exact q259 | exact of_decide_eq_true (by first | (with_reducible assumption) | assumption) | (have e_ := (Kd.V_reads' HO_251001.out).1; omega))
       obtain ⟨ua259_1, uc259_1, ua259_3, uc259_3, rfl, ul259_1, ge259_1, ul259_3, ge259_3⟩ := k45_openF hMe259
       have hv259_1 := hcc259 1 _ rfl
       rw [add_field _ _ 1 (by omega)] at hv259_1
       replace hv259_1 := Option.some.inj (hv259_1.symm.trans hx259_1)
       injection hv259_1 with hva_ hvn_ hvc_
       rw [hva_] at ge259_1
       rw [hvc_] at ul259_1
       have HL259_1 := Aside0.mk (show Kd.V (Kd.int .i64) 3 _ w.heap.size _ _ ((rd_T45 t246 a2).f1) from Kd.V_mk ul259_1 ge259_1)
       clear hva_ hvn_ hvc_ ge259_1 ul259_1
       have hv259_3 := hcc259 3 _ rfl
       rw [add_field _ _ 3 (by omega)] at hv259_3
       replace hv259_3 := Option.some.inj (hv259_3.symm.trans hx259_3)
       injection hv259_3 with hva_ hvn_ hvc_
       rw [hva_] at ge259_3
       rw [hvc_] at ul259_3
       have HL259_3 := Aside0.mk (show Kd.V k53 53 _ w.heap.size _ _ ((rd_T45 t246 a2).f3) from Kd.V_mk ul259_3 ge259_3)
       clear hva_ hvn_ hvc_ ge259_3 ul259_3
       clear hcc259 hce259
       have HR259_1 := Aside0.mk hi259_1
       have HC259_1 := Aside0.mk hl259_1
       clear hi259_1 hl259_1
       have HR259_3 := Aside0.mk hi259_3
       have HC259_3 := Aside0.mk hl259_3
       clear hi259_3 hl259_3
       replace p259 := eq_true p259
       replace q259 := eq_true q259
       have p260 : 0 ≤ (ji41 : Int) := of_decide_eq_true (by first | (with_reducible assumption) | assumption)
       have q260 : ji41 < (((rd_T45 t246 a2).f1).length : Int) := of_decide_eq_true (by first | (with_reducible assumption) | assumption)
       obtain ⟨ad260, e260, hx260_0⟩ := Kd.at_int (by repeat (first | (with_reducible exact HR259_1.out) | (with_reducible refine Kd.C_alloc ?_ _) | (with_reducible refine Kd.C_drewN ?_ _) | (with_reducible refine Kd.C_drew ?_) | exact HR259_1.out)) ji41 p260 q260
       cases e260
       replace p260 := eq_true p260
       replace q260 := eq_true q260
       have hnb177 := NB254_237.out
       have hnc177 := NB237_254.out
       have hnb178 := NB254_238.out
       have hnc178 := NB238_254.out
       have hcz179_0 : wc.cell? ⟨gb254, 0, none⟩ = some (.int .i64 ((rd_T39 (rd_L3 l0_1 a2) ((rd_T45 l1_1 a2).f0)).f0)) := (blk_cell BK254.out 0).trans rfl
       have hcz179_1 : wc.cell? ⟨gb254, 1, none⟩ = some (.int .i64 ((rd_T39 (rd_L3 l0_1 a2) ((rd_T45 l1_1 a2).f0)).f1)) := (blk_cell BK254.out 1).trans rfl
       have hcz179_2 : wc.cell? ⟨gb254, 2, none⟩ = some (.int .i64 ((rd_T39 (rd_L3 l0_1 a2) ((rd_T45 l1_1 a2).f0)).f2)) := (blk_cell BK254.out 2).trans rfl
       have hcz179_3 : wc.cell? ⟨gb254, 3, none⟩ = some (.int .i64 ((rd_T39 (rd_L3 l0_1 a2) ((rd_T45 l1_1 a2).f0)).f3)) := (blk_cell BK254.out 3).trans rfl
       have hcz179_4 : wc.cell? ⟨gb254, 4, none⟩ = some (.int .i64 ((rd_T39 (rd_L3 l0_1 a2) ((rd_T45 l1_1 a2).f0)).f4)) := (blk_cell BK254.out 4).trans rfl
       have hfz179_0 := blk_frozen BK254.out 0
       have hfz179_1 := blk_frozen BK254.out 1
       have hfz179_2 := blk_frozen BK254.out 2
       have hfz179_3 := blk_frozen BK254.out 3
       have hfz179_4 := blk_frozen BK254.out 4
       try go_wp2
       have n0_ := Aside0.mk (Kd.V_drew HO_251000.out)
       have n1_ := Aside0.mk (Kd.V_drew HO_251001.out)
       have n2_ := Aside0.mk (Kd.V_drew HL259_1.out)
       have n3_ := Aside0.mk (Kd.V_drew HL259_3.out)
       have n4_ := Aside0.mk (blk_drew BK237.out)
       have n5_ := Aside0.mk (blk_drew BK238.out)
       have n6_ := Aside0.mk (blk_drew BK250.out)
       have n7_ := Aside0.mk (blk_drew BK254.out)
       have n8_ := Aside0.mk (Kd.C_drew HR259_1.out)
       have n9_ := Aside0.mk (Kd.C_drew HR259_3.out)
       have n10_ := Aside0.mk (below_drew1 HB.out)
       clear HO_251000
       clear HO_251001
       clear HL259_1
       clear HL259_3
       clear BK237
       clear BK238
       clear BK250
       clear BK254
       clear HR259_1
       clear HR259_3
       clear HB
       have HO_251000 := n0_
       have HO_251001 := n1_
       have HL259_1 := n2_
       have HL259_3 := n3_
       have BK237 := n4_
       have BK238 := n5_
       have BK250 := n6_
       have BK254 := n7_
       have HR259_1 := n8_
       have HR259_3 := n9_
       have HB := n10_
       clear n0_ n1_ n2_ n3_ n4_ n5_ n6_ n7_ n8_ n9_ n10_
       have p271 : 0 ≤ (a2 : Int) := of_decide_eq_true (by first | (with_reducible assumption) | assumption)
       have q271 : a2 < (t246.length : Int) := of_decide_eq_true (by first | (with_reducible assumption) | assumption)
       obtain ⟨ad271, A271_1, c271_1, A271_3, c271_3, e271, hx271_0, hx271_1, hx271_2, hx271_3, hl271_1, hi271_1, hl271_3, hi271_3⟩ := at_T45 (Kd.V_reads' HO_251001.out).2.2 a2 p271 q271
       obtain rfl : ad259 = ad271 := (by injection e271)
       obtain ⟨ce271, hce271, hMe271, hcc271⟩ := Kd.V_get HO_251001.out z45 a2 p271 (by first | exact q271 | exact of_decide_eq_true (by first | (with_reducible assumption) | assumption) | (have e_ := (Kd.V_reads' HO_251001.out).1; omega))
       obtain ⟨ua271_1, uc271_1, ua271_3, uc271_3, rfl, ul271_1, ge271_1, ul271_3, ge271_3⟩ := k45_openF hMe271
       have hv271_1 := hcc271 1 _ rfl
       rw [add_field _ _ 1 (by omega)] at hv271_1
       replace hv271_1 := Option.some.inj (hv271_1.symm.trans hx271_1)
       injection hv271_1 with hva_ hvn_ hvc_
       rw [hva_] at ge271_1
       rw [hvc_] at ul271_1
       have HL271_1 := Aside0.mk (show Kd.V (Kd.int .i64) 3 _ w.heap.size _ _ ((rd_T45 t246 a2).f1) from Kd.V_mk ul271_1 ge271_1)
       clear hva_ hvn_ hvc_ ge271_1 ul271_1
       have hv271_3 := hcc271 3 _ rfl
       rw [add_field _ _ 3 (by omega)] at hv271_3
       replace hv271_3 := Option.some.inj (hv271_3.symm.trans hx271_3)
       injection hv271_3 with hva_ hvn_ hvc_
       rw [hva_] at ge271_3
       rw [hvc_] at ul271_3
       have HL271_3 := Aside0.mk (show Kd.V k53 53 _ w.heap.size _ _ ((rd_T45 t246 a2).f3) from Kd.V_mk ul271_3 ge271_3)
       clear hva_ hvn_ hvc_ ge271_3 ul271_3
       clear hcc271 hce271
       have HR271_1 := Aside0.mk hi271_1
       have HC271_1 := Aside0.mk hl271_1
       clear hi271_1 hl271_1
       have HR271_3 := Aside0.mk hi271_3
       have HC271_3 := Aside0.mk hl271_3
       clear hi271_3 hl271_3
       replace p271 := eq_true p271
       replace q271 := eq_true q271
       have p272 : 0 ≤ (a2 : Int) := of_decide_eq_true (by first | (with_reducible assumption) | assumption)
       have q272 : a2 < (l1_1.length : Int) := of_decide_eq_true (by first | (with_reducible assumption) | assumption)
       obtain ⟨ad272, A272_1, c272_1, A272_3, c272_3, e272, hx272_0, hx272_1, hx272_2, hx272_3, hl272_1, hi272_1, hl272_3, hi272_3⟩ := at_T45 HR1_1.out a2 p272 q272
       have hw272_3 := hx272_3
       have hw272_2 := hx272_2
       have hw272_1 := hx272_1
       have hw272_0 := hx272_0
       obtain rfl : ad252 = ad272 := (by injection e272)
       replace hx272_0 := (HB.out.cell (World.block_lt_of_cell? w _ hx272_0)).trans hx272_0
       replace hx272_1 := (HB.out.cell (World.block_lt_of_cell? w _ hx272_1)).trans hx272_1
       replace hx272_2 := (HB.out.cell (World.block_lt_of_cell? w _ hx272_2)).trans hx272_2
       replace hx272_3 := (HB.out.cell (World.block_lt_of_cell? w _ hx272_3)).trans hx272_3
       have HR272_1 := Aside0.mk hi272_1
       have HC272_1 := Aside0.mk hl272_1
       clear hi272_1 hl272_1
       have HR272_3 := Aside0.mk hi272_3
       have HC272_3 := Aside0.mk hl272_3
       clear hi272_3 hl272_3
       replace p272 := eq_true p272
       replace q272 := eq_true q272
       refine start_ (n := 49) (S := fun w' => w'.cell? ⟨gb254, 0, none⟩ = some (.int .i64 ((rd_T39 (rd_L3 l0_1 a2) ((rd_T45 l1_1 a2).f0)).f0)) ∧ w'.cell? ⟨gb254, 1, none⟩ = some (.int .i64 ((rd_T39 (rd_L3 l0_1 a2) ((rd_T45 l1_1 a2).f0)).f1)) ∧ w'.cell? ⟨gb254, 2, none⟩ = some (.int .i64 ((rd_T39 (rd_L3 l0_1 a2) ((rd_T45 l1_1 a2).f0)).f2)) ∧ w'.cell? ⟨gb254, 3, none⟩ = some (.int .i64 ((rd_T39 (rd_L3 l0_1 a2) ((rd_T45 l1_1 a2).f0)).f3)) ∧ w'.cell? ⟨gb254, 4, none⟩ = some (.int .i64 ((rd_T39 (rd_L3 l0_1 a2) ((rd_T45 l1_1 a2).f0)).f4)) ∧ w'.cell? ⟨gb250, 0, none⟩ = some (.slice Ao50 t243.length co50) ∧ w'.cell? ⟨gb250, 1, none⟩ = some (.slice (some ad259) t246.length co54) ∧ w'.cell? ⟨gb238, 0, none⟩ = some (.slice A1_0 l1_0.length c1_0) ∧ w'.cell? ⟨gb238, 1, none⟩ = some (.slice (some ad252) l1_1.length c1_1) ∧ w'.cell? (ad259.add ((a2).toNat * 4)) = some (.int .i64 ((rd_T45 t246 a2).f0)) ∧ w'.cell? ⟨(ad259.add ((a2).toNat * 4)).block, (ad259.add ((a2).toNat * 4)).off + 1, none⟩ = some (.slice A271_1 ((rd_T45 t246 a2).f1).length c271_1) ∧ w'.cell? ⟨(ad259.add ((a2).toNat * 4)).block, (ad259.add ((a2).toNat * 4)).off + 2, none⟩ = some (.bool ((rd_T45 t246 a2).f2)) ∧ w'.cell? ⟨(ad259.add ((a2).toNat * 4)).block, (ad259.add ((a2).toNat * 4)).off + 3, none⟩ = some (.slice A271_3 ((rd_T45 t246 a2).f3).length c271_3) ∧ w'.cell? (ad252.add ((a2).toNat * 4)) = some (.int .i64 ((rd_T45 l1_1 a2).f0)) ∧ w'.cell? ⟨(ad252.add ((a2).toNat * 4)).block, (ad252.add ((a2).toNat * 4)).off + 1, none⟩ = some (.slice A272_1 ((rd_T45 l1_1 a2).f1).length c272_1) ∧ w'.cell? ⟨(ad252.add ((a2).toNat * 4)).block, (ad252.add ((a2).toNat * 4)).off + 2, none⟩ = some (.bool ((rd_T45 l1_1 a2).f2)) ∧ w'.cell? ⟨(ad252.add ((a2).toNat * 4)).block, (ad252.add ((a2).toNat * 4)).off + 3, none⟩ = some (.slice A272_3 ((rd_T45 l1_1 a2).f3).length c272_3)) (ds := []) (lb_ 49 0) (by kernel_rfl) rfl rfl ⟨(blk_cell BK254.out 0).trans rfl, (blk_cell BK254.out 1).trans rfl, (blk_cell BK254.out 2).trans rfl, (blk_cell BK254.out 3).trans rfl, (blk_cell BK254.out 4).trans rfl, (blk_cell BK250.out 0).trans rfl, (blk_cell BK250.out 1).trans rfl, (blk_cell BK238.out 0).trans rfl, (blk_cell BK238.out 1).trans rfl, hx271_0, hx271_1, hx271_2, hx271_3, ((HB.out.cell (World.block_lt_of_cell? w _ hw272_0)).trans hw272_0), ((HB.out.cell (World.block_lt_of_cell? w _ hw272_1)).trans hw272_1), ((HB.out.cell (World.block_lt_of_cell? w _ hw272_2)).trans hw272_2), ((HB.out.cell (World.block_lt_of_cell? w _ hw272_3)).trans hw272_3)⟩ (fun hHeld => ?_); refine with_tabW fencepostlaw10_ScReads.tab22 fencepostlaw10_ScReads.bits22 (fun HT_ HW_ => ?_)
       generalize wc.drew = w180 at HO_251000 HO_251001 HL259_1 HL259_3 BK237 BK238 BK250 BK254 HR259_1 HR259_3 HB HL271_1 HL271_3 HR271_1 HR271_3 HR272_1 HR272_3 hx271_0 hx271_1 hx271_2 hx271_3 hx272_0 hx272_1 hx272_2 hx272_3 hHeld ⊢
       refine pure_ (i := 0) (N := some 153) (v := ?_) (a' := ?_) (lb_ 49 1) rfl rfl (any_of HT_.out (by kernel_rfl)) (fun _ _ _ h => h) (Or.inl ⟨by rfl, ?_⟩) ?_ ?_; rotate_left; intro w'; go_simp; with_reducible rfl; rotate_left; simp only [Act.put, List.setIfInBounds_toArray, List.set_cons_zero, List.set_cons_succ, i64_w, i32_w]; rfl
       refine pure_ (i := 1) (N := some 154) (v := ?_) (a' := ?_) (lb_ 49 3) rfl rfl (any_of HT_.out (by kernel_rfl)) (fun _ _ _ h => h) (Or.inl ⟨by rfl, ?_⟩) ?_ ?_; rotate_left; intro w'; go_simp; with_reducible rfl; rotate_left; simp only [Act.put, List.setIfInBounds_toArray, List.set_cons_zero, List.set_cons_succ, i64_w, i32_w]; rfl
       refine pure_ (i := 2) (N := some 155) (v := ?_) (a' := ?_) (lb_ 49 7) rfl rfl (any_of HT_.out (by kernel_rfl)) (fun _ _ _ h => h) (Or.inl ⟨by rfl, ?_⟩) ?_ ?_; rotate_left; intro w'; go_simp; with_reducible rfl; rotate_left; simp only [Act.put, List.setIfInBounds_toArray, List.set_cons_zero, List.set_cons_succ, i64_w, i32_w]; rfl
       refine take_ (i := 3) (N := some 156) (v := ?_) (a' := ?_) (lb_ 49 15) rfl rfl (take_ofW HT_.out HW_.out (by kernel_rfl)) (fun _ _ _ h => h) (Or.inl ⟨by rfl, ?_⟩) hHeld ?_ ?_; rotate_left; rintro w' ⟨s0, s1, s2, s3, s4, s5, s6, s7, s8, s9, s10, s11, s12, s13, s14, s15, s16⟩; go_simp; with_reducible rfl; rotate_left; simp only [Act.put, List.setIfInBounds_toArray, List.set_cons_zero, List.set_cons_succ, i64_w, i32_w]; rfl
       refine pure_ (i := 4) (N := some 157) (v := ?_) (a' := ?_) (lb_ 49 31) rfl rfl (any_of HT_.out (by kernel_rfl)) (fun _ _ _ h => h) (Or.inl ⟨by rfl, ?_⟩) ?_ ?_; rotate_left; intro w'; go_simp; with_reducible rfl; rotate_left; simp only [Act.put, List.setIfInBounds_toArray, List.set_cons_zero, List.set_cons_succ, i64_w, i32_w]; rfl
       refine pure_ (i := 5) (N := some 158) (v := ?_) (a' := ?_) (lb_ 49 63) rfl rfl (any_of HT_.out (by kernel_rfl)) (fun _ _ _ h => h) (Or.inl ⟨by rfl, ?_⟩) ?_ ?_; rotate_left; intro w'; go_simp; with_reducible rfl; rotate_left; simp only [Act.put, List.setIfInBounds_toArray, List.set_cons_zero, List.set_cons_succ, i64_w, i32_w]; rfl
       refine pure_ (i := 6) (N := some 159) (v := undef) (a' := ?_) (lb_ 49 127) rfl rfl (any_of HT_.out (by kernel_rfl)) (fun _ _ _ h => h) (Or.inr ⟨by rfl, rfl⟩) ?_ ?_
       rotate_left
       ·simp only [Act.put, List.setIfInBounds_toArray, List.set_cons_zero, List.set_cons_succ, i64_w, i32_w]
        rfl
       refine pure_ (i := 7) (N := some 160) (v := undef) (a' := ?_) (lb_ 49 255) rfl rfl (any_of HT_.out (by kernel_rfl)) (fun _ _ _ h => h) (Or.inr ⟨by rfl, rfl⟩) ?_ ?_
       rotate_left
       ·simp only [Act.put, List.setIfInBounds_toArray, List.set_cons_zero, List.set_cons_succ, i64_w, i32_w]
        rfl
       refine pure_ (i := 8) (N := some 161) (v := undef) (a' := ?_) (lb_ 49 511) rfl rfl (any_of HT_.out (by kernel_rfl)) (fun _ _ _ h => h) (Or.inr ⟨by rfl, rfl⟩) ?_ ?_
       rotate_left
       ·simp only [Act.put, List.setIfInBounds_toArray, List.set_cons_zero, List.set_cons_succ, i64_w, i32_w]
        rfl
       refine pure_ (i := 9) (N := some 162) (v := undef) (a' := ?_) (lb_ 49 1023) rfl rfl (any_of HT_.out (by kernel_rfl)) (fun _ _ _ h => h) (Or.inr ⟨by rfl, rfl⟩) ?_ ?_
       rotate_left
       ·simp only [Act.put, List.setIfInBounds_toArray, List.set_cons_zero, List.set_cons_succ, i64_w, i32_w]
        rfl
       refine pure_ (i := 10) (N := some 163) (v := undef) (a' := ?_) (lb_ 49 2047) rfl rfl (any_of HT_.out (by kernel_rfl)) (fun _ _ _ h => h) (Or.inr ⟨by rfl, rfl⟩) ?_ ?_
       rotate_left
       ·simp only [Act.put, List.setIfInBounds_toArray, List.set_cons_zero, List.set_cons_succ, i64_w, i32_w]
        rfl
       refine pure_ (i := 11) (N := some 164) (v := undef) (a' := ?_) (lb_ 49 4095) rfl rfl (any_of HT_.out (by kernel_rfl)) (fun _ _ _ h => h) (Or.inr ⟨by rfl, rfl⟩) ?_ ?_
       rotate_left
       ·simp only [Act.put, List.setIfInBounds_toArray, List.set_cons_zero, List.set_cons_succ, i64_w, i32_w]
        rfl
       refine pure_ (i := 12) (N := some 165) (v := undef) (a' := ?_) (lb_ 49 8191) rfl rfl (any_of HT_.out (by kernel_rfl)) (fun _ _ _ h => h) (Or.inr ⟨by rfl, rfl⟩) ?_ ?_
       rotate_left
       ·simp only [Act.put, List.setIfInBounds_toArray, List.set_cons_zero, List.set_cons_succ, i64_w, i32_w]
        rfl
       refine pure_ (i := 13) (N := some 166) (v := undef) (a' := ?_) (lb_ 49 16383) rfl rfl (any_of HT_.out (by kernel_rfl)) (fun _ _ _ h => h) (Or.inr ⟨by rfl, rfl⟩) ?_ ?_
       rotate_left
       ·simp only [Act.put, List.setIfInBounds_toArray, List.set_cons_zero, List.set_cons_succ, i64_w, i32_w]
        rfl
       refine pure_ (i := 14) (N := some 167) (v := undef) (a' := ?_) (lb_ 49 32767) rfl rfl (any_of HT_.out (by kernel_rfl)) (fun _ _ _ h => h) (Or.inr ⟨by rfl, rfl⟩) ?_ ?_
       rotate_left
       ·simp only [Act.put, List.setIfInBounds_toArray, List.set_cons_zero, List.set_cons_succ, i64_w, i32_w]
        rfl
       refine pure_ (i := 15) (N := some 168) (v := undef) (a' := ?_) (lb_ 49 65535) rfl rfl (any_of HT_.out (by kernel_rfl)) (fun _ _ _ h => h) (Or.inr ⟨by rfl, rfl⟩) ?_ ?_
       rotate_left
       ·simp only [Act.put, List.setIfInBounds_toArray, List.set_cons_zero, List.set_cons_succ, i64_w, i32_w]
        rfl
       refine pure_ (i := 16) (N := some 169) (v := undef) (a' := ?_) (lb_ 49 131071) rfl rfl (any_of HT_.out (by kernel_rfl)) (fun _ _ _ h => h) (Or.inr ⟨by rfl, rfl⟩) ?_ ?_
       rotate_left
       ·simp only [Act.put, List.setIfInBounds_toArray, List.set_cons_zero, List.set_cons_succ, i64_w, i32_w]
        rfl
       refine pure_ (i := 17) (N := some 170) (v := undef) (a' := ?_) (lb_ 49 262143) rfl rfl (any_of HT_.out (by kernel_rfl)) (fun _ _ _ h => h) (Or.inr ⟨by rfl, rfl⟩) ?_ ?_
       rotate_left
       ·simp only [Act.put, List.setIfInBounds_toArray, List.set_cons_zero, List.set_cons_succ, i64_w, i32_w]
        rfl
       refine pure_ (i := 18) (N := some 171) (v := undef) (a' := ?_) (lb_ 49 524287) rfl rfl (any_of HT_.out (by kernel_rfl)) (fun _ _ _ h => h) (Or.inr ⟨by rfl, rfl⟩) ?_ ?_
       rotate_left
       ·simp only [Act.put, List.setIfInBounds_toArray, List.set_cons_zero, List.set_cons_succ, i64_w, i32_w]
        rfl
       refine pure_ (i := 19) (N := some 172) (v := undef) (a' := ?_) (lb_ 49 1048575) rfl rfl (any_of HT_.out (by kernel_rfl)) (fun _ _ _ h => h) (Or.inr ⟨by rfl, rfl⟩) ?_ ?_
       rotate_left
       ·simp only [Act.put, List.setIfInBounds_toArray, List.set_cons_zero, List.set_cons_succ, i64_w, i32_w]
        rfl
       refine pure_ (i := 20) (N := some 173) (v := undef) (a' := ?_) (lb_ 49 2097151) rfl rfl (any_of HT_.out (by kernel_rfl)) (fun _ _ _ h => h) (Or.inr ⟨by rfl, rfl⟩) ?_ ?_
       rotate_left
       ·simp only [Act.put, List.setIfInBounds_toArray, List.set_cons_zero, List.set_cons_succ, i64_w, i32_w]
        rfl
       refine pure_ (i := 21) (N := some 174) (v := undef) (a' := ?_) (lb_ 49 4194303) rfl rfl (any_of HT_.out (by kernel_rfl)) (fun _ _ _ h => h) (Or.inr ⟨by rfl, rfl⟩) ?_ ?_
       rotate_left
       ·simp only [Act.put, List.setIfInBounds_toArray, List.set_cons_zero, List.set_cons_succ, i64_w, i32_w]
        rfl
       refine pure_ (i := 22) (N := some 175) (v := undef) (a' := ?_) (lb_ 49 8388607) rfl rfl (any_of HT_.out (by kernel_rfl)) (fun _ _ _ h => h) (Or.inr ⟨by rfl, rfl⟩) ?_ ?_
       rotate_left
       ·simp only [Act.put, List.setIfInBounds_toArray, List.set_cons_zero, List.set_cons_succ, i64_w, i32_w]
        rfl
       refine pure_ (i := 23) (N := some 176) (v := undef) (a' := ?_) (lb_ 49 16777215) rfl rfl (any_of HT_.out (by kernel_rfl)) (fun _ _ _ h => h) (Or.inr ⟨by rfl, rfl⟩) ?_ ?_
       rotate_left
       ·simp only [Act.put, List.setIfInBounds_toArray, List.set_cons_zero, List.set_cons_succ, i64_w, i32_w]
        rfl
       refine pure_ (i := 24) (N := some 177) (v := undef) (a' := ?_) (lb_ 49 33554431) rfl rfl (any_of HT_.out (by kernel_rfl)) (fun _ _ _ h => h) (Or.inr ⟨by rfl, rfl⟩) ?_ ?_
       rotate_left
       ·simp only [Act.put, List.setIfInBounds_toArray, List.set_cons_zero, List.set_cons_succ, i64_w, i32_w]
        rfl
       refine pure_ (i := 25) (N := some 178) (v := undef) (a' := ?_) (lb_ 49 67108863) rfl rfl (any_of HT_.out (by kernel_rfl)) (fun _ _ _ h => h) (Or.inr ⟨by rfl, rfl⟩) ?_ ?_
       rotate_left
       ·simp only [Act.put, List.setIfInBounds_toArray, List.set_cons_zero, List.set_cons_succ, i64_w, i32_w]
        rfl
       refine pure_ (i := 26) (N := some 179) (v := ?_) (a' := ?_) (lb_ 49 134217727) rfl rfl (any_of HT_.out (by kernel_rfl)) (fun _ _ _ h => h) (Or.inl ⟨by rfl, ?_⟩) ?_ ?_; rotate_left; intro w'; go_simp; with_reducible rfl; rotate_left; simp only [Act.put, List.setIfInBounds_toArray, List.set_cons_zero, List.set_cons_succ, i64_w, i32_w]; rfl
       refine pure_ (i := 27) (N := some 180) (v := ?_) (a' := ?_) (lb_ 49 268435455) rfl rfl (any_of HT_.out (by kernel_rfl)) (fun _ _ _ h => h) (Or.inl ⟨by rfl, ?_⟩) ?_ ?_; rotate_left; intro w'; go_simp; with_reducible rfl; rotate_left; simp only [Act.put, List.setIfInBounds_toArray, List.set_cons_zero, List.set_cons_succ, i64_w, i32_w]; rfl
       refine pure_ (i := 28) (N := some 181) (v := ?_) (a' := ?_) (lb_ 49 536870911) rfl rfl (any_of HT_.out (by kernel_rfl)) (fun _ _ _ h => h) (Or.inl ⟨by rfl, ?_⟩) ?_ ?_; rotate_left; intro w'; go_simp; with_reducible rfl; rotate_left; simp only [Act.put, List.setIfInBounds_toArray, List.set_cons_zero, List.set_cons_succ, i64_w, i32_w]; rfl
       refine pure_ (i := 29) (N := some 182) (v := ?_) (a' := ?_) (lb_ 49 1073741823) rfl rfl (any_of HT_.out (by kernel_rfl)) (fun _ _ _ h => h) (Or.inl ⟨by rfl, ?_⟩) ?_ ?_; rotate_left; intro w'; go_simp; with_reducible rfl; rotate_left; simp only [Act.put, List.setIfInBounds_toArray, List.set_cons_zero, List.set_cons_succ, i64_w, i32_w]; rfl
       refine take_ (i := 30) (N := some 183) (v := ?_) (a' := ?_) (lb_ 49 2147483647) rfl rfl (take_ofW HT_.out HW_.out (by kernel_rfl)) (fun _ _ _ h => h) (Or.inl ⟨by rfl, ?_⟩) hHeld ?_ ?_; rotate_left; rintro w' ⟨s0, s1, s2, s3, s4, s5, s6, s7, s8, s9, s10, s11, s12, s13, s14, s15, s16⟩; go_simp; with_reducible rfl; rotate_left; simp only [Act.put, List.setIfInBounds_toArray, List.set_cons_zero, List.set_cons_succ, i64_w, i32_w]; rfl
       refine pure_ (i := 31) (N := some 184) (v := ?_) (a' := ?_) (lb_ 49 4294967295) rfl rfl (any_of HT_.out (by kernel_rfl)) (fun _ _ _ h => h) (Or.inl ⟨by rfl, ?_⟩) ?_ ?_; rotate_left; intro w'; go_simp; with_reducible rfl; rotate_left; simp only [Act.put, List.setIfInBounds_toArray, List.set_cons_zero, List.set_cons_succ, i64_w, i32_w]; rfl
       refine pure_ (i := 32) (N := some 185) (v := ?_) (a' := ?_) (lb_ 49 8589934591) rfl rfl (any_of HT_.out (by kernel_rfl)) (fun _ _ _ h => h) (Or.inl ⟨by rfl, ?_⟩) ?_ ?_; rotate_left; intro w'; go_simp; with_reducible rfl; rotate_left; simp only [Act.put, List.setIfInBounds_toArray, List.set_cons_zero, List.set_cons_succ, i64_w, i32_w]; rfl
       refine pure_ (i := 33) (N := some 186) (v := ?_) (a' := ?_) (lb_ 49 17179869183) rfl rfl (any_of HT_.out (by kernel_rfl)) (fun _ _ _ h => h) (Or.inl ⟨by rfl, ?_⟩) ?_ ?_; rotate_left; intro w'; go_simp; with_reducible rfl; rotate_left; simp only [Act.put, List.setIfInBounds_toArray, List.set_cons_zero, List.set_cons_succ, i64_w, i32_w]; rfl
       refine pure_ (i := 35) (N := some 188) (v := ?_) (a' := ?_) (lb_ 49 51539607551) rfl rfl (any_of HT_.out (by kernel_rfl)) (fun _ _ _ h => h) (Or.inl ⟨by rfl, ?_⟩) ?_ ?_; rotate_left; intro w'; go_simp; with_reducible rfl; rotate_left; simp only [Act.put, List.setIfInBounds_toArray, List.set_cons_zero, List.set_cons_succ, i64_w, i32_w]; rfl
       refine pure_ (i := 39) (N := some 192) (v := ?_) (a' := ?_) (lb_ 49 601295421439) rfl rfl (any_of HT_.out (by kernel_rfl)) (fun _ _ _ h => h) (Or.inl ⟨by rfl, ?_⟩) ?_ ?_; rotate_left; intro w'; go_simp; with_reducible rfl; rotate_left; simp only [Act.put, List.setIfInBounds_toArray, List.set_cons_zero, List.set_cons_succ, i64_w, i32_w]; rfl
       refine pure_ (i := 41) (N := some 194) (v := ?_) (a' := ?_) (lb_ 49 2800318676991) rfl rfl (any_of HT_.out (by kernel_rfl)) (fun _ _ _ h => h) (Or.inl ⟨by rfl, ?_⟩) ?_ ?_; rotate_left; intro w'; go_simp; with_reducible rfl; rotate_left; simp only [Act.put, List.setIfInBounds_toArray, List.set_cons_zero, List.set_cons_succ, i64_w, i32_w]; rfl
       refine take_ (i := 34) (N := some 187) (v := ?_) (a' := ?_) (lb_ 49 2817498546175) rfl rfl (take_ofW HT_.out HW_.out (by kernel_rfl)) (fun _ _ _ h => h) (Or.inl ⟨by rfl, ?_⟩) hHeld ?_ ?_; rotate_left; rintro w' ⟨s0, s1, s2, s3, s4, s5, s6, s7, s8, s9, s10, s11, s12, s13, s14, s15, s16⟩; go_simp; with_reducible rfl; rotate_left; simp only [Act.put, List.setIfInBounds_toArray, List.set_cons_zero, List.set_cons_succ, i64_w, i32_w]; rfl
       refine pure_ (i := 36) (N := some 189) (v := ?_) (a' := ?_) (lb_ 49 2886218022911) rfl rfl (any_of HT_.out (by kernel_rfl)) (fun _ _ _ h => h) (Or.inl ⟨by rfl, ?_⟩) ?_ ?_; rotate_left; intro w'; go_simp; with_reducible rfl; rotate_left; simp only [Act.put, List.setIfInBounds_toArray, List.set_cons_zero, List.set_cons_succ, i64_w, i32_w]; rfl
       refine pure_ (i := 37) (N := some 190) (v := ?_) (a' := ?_) (lb_ 49 3023656976383) rfl rfl (any_of HT_.out (by kernel_rfl)) (fun _ _ _ h => h) (Or.inl ⟨by rfl, ?_⟩) ?_ ?_; rotate_left; intro w'; go_simp; with_reducible rfl; rotate_left; simp only [Act.put, List.setIfInBounds_toArray, List.set_cons_zero, List.set_cons_succ, i64_w, i32_w]; rfl
       refine take_ (i := 38) (N := some 191) (v := ?_) (a' := ?_) (lb_ 49 3298534883327) rfl rfl (take_ofW HT_.out HW_.out (by kernel_rfl)) (fun _ _ _ h => h) (Or.inl ⟨by rfl, ?_⟩) hHeld ?_ ?_; rotate_left; rintro w' ⟨s0, s1, s2, s3, s4, s5, s6, s7, s8, s9, s10, s11, s12, s13, s14, s15, s16⟩; go_simp; with_reducible rfl; rotate_left; simp only [Act.put, List.setIfInBounds_toArray, List.set_cons_zero, List.set_cons_succ, i64_w, i32_w]; rfl
       refine take_ (i := 40) (N := some 193) (v := ?_) (a' := ?_) (lb_ 49 4398046511103) rfl rfl (take_ofW HT_.out HW_.out (by kernel_rfl)) (fun _ _ _ h => h) (Or.inl ⟨by rfl, ?_⟩) hHeld ?_ ?_; rotate_left; rintro w' ⟨s0, s1, s2, s3, s4, s5, s6, s7, s8, s9, s10, s11, s12, s13, s14, s15, s16⟩; go_simp; with_reducible rfl; rotate_left; simp only [Act.put, List.setIfInBounds_toArray, List.set_cons_zero, List.set_cons_succ, i64_w, i32_w]; rfl
       refine pure_ (i := 42) (N := some 195) (v := ?_) (a' := ?_) (lb_ 49 8796093022207) rfl rfl (any_of HT_.out (by kernel_rfl)) (fun _ _ _ h => h) (Or.inl ⟨by rfl, ?_⟩) ?_ ?_; rotate_left; intro w'; go_simp; with_reducible rfl; rotate_left; simp only [Act.put, List.setIfInBounds_toArray, List.set_cons_zero, List.set_cons_succ, i64_w, i32_w]; rfl
       refine pure_ (i := 43) (N := some 196) (v := ?_) (a' := ?_) (lb_ 49 17592186044415) rfl rfl (any_of HT_.out (by kernel_rfl)) (fun _ _ _ h => h) (Or.inl ⟨by rfl, ?_⟩) ?_ ?_; rotate_left; intro w'; go_simp; with_reducible rfl; rotate_left; simp only [Act.put, List.setIfInBounds_toArray, List.set_cons_zero, List.set_cons_succ, i64_w, i32_w]; rfl
       refine take_ (i := 44) (N := some 197) (v := ?_) (a' := ?_) (lb_ 49 35184372088831) rfl rfl (take_ofW HT_.out HW_.out (by kernel_rfl)) (fun _ _ _ h => h) (Or.inl ⟨by rfl, ?_⟩) hHeld ?_ ?_; rotate_left; rintro w' ⟨s0, s1, s2, s3, s4, s5, s6, s7, s8, s9, s10, s11, s12, s13, s14, s15, s16⟩; go_simp; with_reducible rfl; rotate_left; simp only [Act.put, List.setIfInBounds_toArray, List.set_cons_zero, List.set_cons_succ, i64_w, i32_w]; rfl
       refine pure_ (i := 45) (N := some 198) (v := ?_) (a' := ?_) (lb_ 49 70368744177663) rfl rfl (any_of HT_.out (by kernel_rfl)) (fun _ _ _ h => h) (Or.inl ⟨by rfl, ?_⟩) ?_ ?_; rotate_left; intro w'; go_simp; with_reducible rfl; rotate_left; simp only [Act.put, List.setIfInBounds_toArray, List.set_cons_zero, List.set_cons_succ, i64_w, i32_w]; rfl
       refine pure_ (i := 46) (N := some 199) (v := ?_) (a' := ?_) (lb_ 49 140737488355327) rfl rfl (any_of HT_.out (by kernel_rfl)) (fun _ _ _ h => h) (Or.inl ⟨by rfl, ?_⟩) ?_ ?_; rotate_left; intro w'; go_simp; with_reducible rfl; rotate_left; simp only [Act.put, List.setIfInBounds_toArray, List.set_cons_zero, List.set_cons_succ, i64_w, i32_w]; rfl
       refine pure_ (i := 47) (N := some 200) (v := ?_) (a' := ?_) (lb_ 49 281474976710655) rfl rfl (any_of HT_.out (by kernel_rfl)) (fun _ _ _ h => h) (Or.inl ⟨by rfl, ?_⟩) ?_ ?_; rotate_left; intro w'; go_simp; with_reducible rfl; rotate_left; simp only [Act.put, List.setIfInBounds_toArray, List.set_cons_zero, List.set_cons_succ, i64_w, i32_w]; rfl
       refine pure_ (i := 48) (N := some 8) (v := ?_) (a' := ?_) (lb_ 49 562949953421311) rfl rfl (any_of HT_.out (by kernel_rfl)) (fun _ _ _ h => h) (Or.inl ⟨by rfl, ?_⟩) ?_ ?_; rotate_left; intro w'; go_simp; with_reducible rfl; rotate_left; simp only [Act.put, List.setIfInBounds_toArray, List.set_cons_zero, List.set_cons_succ, i64_w, i32_w]; rfl
       refine done_ (done_of HT_.out (by kernel_rfl)) ?_
       try go_wp2
       go_ret
       exact ⟨by first | rfl | (simp [errW_none, errW_some] <;> rfl) | (simp only [← hji41]; first | rfl | (simp [errW_none, errW_some] <;> rfl)) | (simp [*, errW_none, errW_some] <;> rfl), by repeat (first | (with_reducible first | exact HB.out | apply below_alloc | apply pw_below_drewN | apply below_drew1 | refine below_set ?_ GE237.out | refine below_set ?_ GE238.out | refine below_set ?_ GE250.out | refine below_set ?_ GE254.out) | exact HB.out)⟩
      rw [if_pos c159] at H
      have c159b0 : (((rd_T39 (rd_L3 l0_1 a2) ((rd_T45 l1_1 a2).f0)).f0) == 7) = true := beq_iff_eq.mpr c159
      have c159b1 : (((rd_T39 (rd_L3 l0_1 a2) ((rd_T45 l1_1 a2).f0)).f0) != 7) = false := bne_eq_false_iff_eq.mpr c159
      clear c159
      by_cases c160 : a2 < (l1_1.length : Int)
      rotate_left
      ·rw [if_neg c160] at H
       exact absurd H (by simp)
      rw [if_pos c160] at H
      have c160b0 : decide (a2 < (l1_1.length : Int)) = true := decide_eq_true c160
      clear c160
      by_cases c161 : 0 ≤ ((rd_T39 (rd_L3 l0_1 a2) ((rd_T45 l1_1 a2).f0)).f1)
      rotate_left
      ·rw [if_neg c161] at H
       exact absurd H (by simp)
      rw [if_pos c161] at H
      have c161b0 : decide (0 ≤ ((rd_T39 (rd_L3 l0_1 a2) ((rd_T45 l1_1 a2).f0)).f1)) = true := decide_eq_true c161
      clear c161
      by_cases c162 : ((rd_T39 (rd_L3 l0_1 a2) ((rd_T45 l1_1 a2).f0)).f1) < (((rd_T45 l1_1 a2).f1).length : Int)
      rotate_left
      ·rw [if_neg c162] at H
       exact absurd H (by simp)
      rw [if_pos c162] at H
      have c162b0 : decide (((rd_T39 (rd_L3 l0_1 a2) ((rd_T45 l1_1 a2).f0)).f1) < (((rd_T45 l1_1 a2).f1).length : Int)) = true := decide_eq_true c162
      clear c162
      by_cases c163 : (((rd_T45 t246 a2).f2) == ((rd ((rd_T45 l1_1 a2).f1) ((rd_T39 (rd_L3 l0_1 a2) ((rd_T45 l1_1 a2).f0)).f1)) == ((rd_T39 (rd_L3 l0_1 a2) ((rd_T45 l1_1 a2).f0)).f3))) = true
      rotate_left
      ·rw [if_neg c163] at H
       have c163b0 : (((rd_T45 t246 a2).f2) == ((rd ((rd_T45 l1_1 a2).f1) ((rd_T39 (rd_L3 l0_1 a2) ((rd_T45 l1_1 a2).f0)).f1)) == ((rd_T39 (rd_L3 l0_1 a2) ((rd_T45 l1_1 a2).f0)).f3))) = false := by simpa using c163
       (try (have c163b1 : decide (((rd_T45 t246 a2).f2) = ((rd ((rd_T45 l1_1 a2).f1) ((rd_T39 (rd_L3 l0_1 a2) ((rd_T45 l1_1 a2).f0)).f1)) == ((rd_T39 (rd_L3 l0_1 a2) ((rd_T45 l1_1 a2).f0)).f3))) = false := by simpa using c163))
       (try (have c163b2 : (((rd_T45 t246 a2).f2) == ((rd ((rd_T45 l1_1 a2).f1) ((rd_T39 (rd_L3 l0_1 a2) ((rd_T45 l1_1 a2).f0)).f1)) == ((rd_T39 (rd_L3 l0_1 a2) ((rd_T45 l1_1 a2).f0)).f3))) = false := by simpa using c163))
       (try (have c163b3 : ¬ (((rd_T45 t246 a2).f2) = ((rd ((rd_T45 l1_1 a2).f1) ((rd_T39 (rd_L3 l0_1 a2) ((rd_T45 l1_1 a2).f0)).f1)) == ((rd_T39 (rd_L3 l0_1 a2) ((rd_T45 l1_1 a2).f0)).f3))) := by simpa using c163))
       clear c163
       exact absurd ((Option.some.inj H).trans HT.out) (by simp)
      rw [if_pos c163] at H
      have c163b0 : (((rd_T45 t246 a2).f2) == ((rd ((rd_T45 l1_1 a2).f1) ((rd_T39 (rd_L3 l0_1 a2) ((rd_T45 l1_1 a2).f0)).f1)) == ((rd_T39 (rd_L3 l0_1 a2) ((rd_T45 l1_1 a2).f0)).f3))) = true := c163
      (try (have c163b1 : decide (((rd_T45 t246 a2).f2) = ((rd ((rd_T45 l1_1 a2).f1) ((rd_T39 (rd_L3 l0_1 a2) ((rd_T45 l1_1 a2).f0)).f1)) == ((rd_T39 (rd_L3 l0_1 a2) ((rd_T45 l1_1 a2).f0)).f3))) = true := by simpa using c163))
      (try (have c163b2 : (((rd_T45 t246 a2).f2) == ((rd ((rd_T45 l1_1 a2).f1) ((rd_T39 (rd_L3 l0_1 a2) ((rd_T45 l1_1 a2).f0)).f1)) == ((rd_T39 (rd_L3 l0_1 a2) ((rd_T45 l1_1 a2).f0)).f3))) = true := by simpa using c163))
      clear c163
      obtain rfl := Option.some.inj H
      have hnb164 := NB250_237.out
      have hnc164 := NB237_250.out
      have hnb165 := NB250_238.out
      have hnc165 := NB238_250.out
      have hnb166 := NB250_254.out
      have hnc166 := NB254_250.out
      have hcz167_0 : wc.cell? ⟨gb250, 0, none⟩ = some (.slice Ao50 t243.length co50) := (blk_cell BK250.out 0).trans rfl
      have hcz167_1 : wc.cell? ⟨gb250, 1, none⟩ = some (.slice Ao54 t246.length co54) := (blk_cell BK250.out 1).trans rfl
      have hfz167_0 := blk_frozen BK250.out 0
      have hfz167_1 := blk_frozen BK250.out 1
      have p259 : 0 ≤ (a2 : Int) := of_decide_eq_true (by first | (with_reducible assumption) | assumption)
      have q259 : a2 < (t246.length : Int) := of_decide_eq_true (by first | (with_reducible assumption) | assumption)
      obtain ⟨ad259, A259_1, c259_1, A259_3, c259_3, e259, hx259_0, hx259_1, hx259_2, hx259_3, hl259_1, hi259_1, hl259_3, hi259_3⟩ := at_T45 (Kd.V_reads' HO_251001.out).2.2 a2 p259 q259
      cases e259
      obtain ⟨ce259, hce259, hMe259, hcc259⟩ := Kd.V_get HO_251001.out z45 a2 p259 (by first | exact q259 | exact of_decide_eq_true (by first | (with_reducible assumption) | assumption) | (have e_ := (Kd.V_reads' HO_251001.out).1; omega))
      obtain ⟨ua259_1, uc259_1, ua259_3, uc259_3, rfl, ul259_1, ge259_1, ul259_3, ge259_3⟩ := k45_openF hMe259
      have hv259_1 := hcc259 1 _ rfl
      rw [add_field _ _ 1 (by omega)] at hv259_1
      replace hv259_1 := Option.some.inj (hv259_1.symm.trans hx259_1)
      injection hv259_1 with hva_ hvn_ hvc_
      rw [hva_] at ge259_1
      rw [hvc_] at ul259_1
      have HL259_1 := Aside0.mk (show Kd.V (Kd.int .i64) 3 _ w.heap.size _ _ ((rd_T45 t246 a2).f1) from Kd.V_mk ul259_1 ge259_1)
      clear hva_ hvn_ hvc_ ge259_1 ul259_1
      have hv259_3 := hcc259 3 _ rfl
      rw [add_field _ _ 3 (by omega)] at hv259_3
      replace hv259_3 := Option.some.inj (hv259_3.symm.trans hx259_3)
      injection hv259_3 with hva_ hvn_ hvc_
      rw [hva_] at ge259_3
      rw [hvc_] at ul259_3
      have HL259_3 := Aside0.mk (show Kd.V k53 53 _ w.heap.size _ _ ((rd_T45 t246 a2).f3) from Kd.V_mk ul259_3 ge259_3)
      clear hva_ hvn_ hvc_ ge259_3 ul259_3
      clear hcc259 hce259
      have HR259_1 := Aside0.mk hi259_1
      have HC259_1 := Aside0.mk hl259_1
      clear hi259_1 hl259_1
      have HR259_3 := Aside0.mk hi259_3
      have HC259_3 := Aside0.mk hl259_3
      clear hi259_3 hl259_3
      replace p259 := eq_true p259
      replace q259 := eq_true q259
      have p260 : 0 ≤ (ji41 : Int) := of_decide_eq_true (by first | (with_reducible assumption) | assumption)
      have q260 : ji41 < (((rd_T45 t246 a2).f1).length : Int) := of_decide_eq_true (by first | (with_reducible assumption) | assumption)
      obtain ⟨ad260, e260, hx260_0⟩ := Kd.at_int (by repeat (first | (with_reducible exact HR259_1.out) | (with_reducible refine Kd.C_alloc ?_ _) | (with_reducible refine Kd.C_drewN ?_ _) | (with_reducible refine Kd.C_drew ?_) | exact HR259_1.out)) ji41 p260 q260
      cases e260
      replace p260 := eq_true p260
      replace q260 := eq_true q260
      have hnb168 := NB254_237.out
      have hnc168 := NB237_254.out
      have hnb169 := NB254_238.out
      have hnc169 := NB238_254.out
      have hcz170_0 : wc.cell? ⟨gb254, 0, none⟩ = some (.int .i64 ((rd_T39 (rd_L3 l0_1 a2) ((rd_T45 l1_1 a2).f0)).f0)) := (blk_cell BK254.out 0).trans rfl
      have hcz170_1 : wc.cell? ⟨gb254, 1, none⟩ = some (.int .i64 ((rd_T39 (rd_L3 l0_1 a2) ((rd_T45 l1_1 a2).f0)).f1)) := (blk_cell BK254.out 1).trans rfl
      have hcz170_2 : wc.cell? ⟨gb254, 2, none⟩ = some (.int .i64 ((rd_T39 (rd_L3 l0_1 a2) ((rd_T45 l1_1 a2).f0)).f2)) := (blk_cell BK254.out 2).trans rfl
      have hcz170_3 : wc.cell? ⟨gb254, 3, none⟩ = some (.int .i64 ((rd_T39 (rd_L3 l0_1 a2) ((rd_T45 l1_1 a2).f0)).f3)) := (blk_cell BK254.out 3).trans rfl
      have hcz170_4 : wc.cell? ⟨gb254, 4, none⟩ = some (.int .i64 ((rd_T39 (rd_L3 l0_1 a2) ((rd_T45 l1_1 a2).f0)).f4)) := (blk_cell BK254.out 4).trans rfl
      have hfz170_0 := blk_frozen BK254.out 0
      have hfz170_1 := blk_frozen BK254.out 1
      have hfz170_2 := blk_frozen BK254.out 2
      have hfz170_3 := blk_frozen BK254.out 3
      have hfz170_4 := blk_frozen BK254.out 4
      try go_wp2
      have n0_ := Aside0.mk (Kd.V_drew HO_251000.out)
      have n1_ := Aside0.mk (Kd.V_drew HO_251001.out)
      have n2_ := Aside0.mk (Kd.V_drew HL259_1.out)
      have n3_ := Aside0.mk (Kd.V_drew HL259_3.out)
      have n4_ := Aside0.mk (blk_drew BK237.out)
      have n5_ := Aside0.mk (blk_drew BK238.out)
      have n6_ := Aside0.mk (blk_drew BK250.out)
      have n7_ := Aside0.mk (blk_drew BK254.out)
      have n8_ := Aside0.mk (Kd.C_drew HR259_1.out)
      have n9_ := Aside0.mk (Kd.C_drew HR259_3.out)
      have n10_ := Aside0.mk (below_drew1 HB.out)
      clear HO_251000
      clear HO_251001
      clear HL259_1
      clear HL259_3
      clear BK237
      clear BK238
      clear BK250
      clear BK254
      clear HR259_1
      clear HR259_3
      clear HB
      have HO_251000 := n0_
      have HO_251001 := n1_
      have HL259_1 := n2_
      have HL259_3 := n3_
      have BK237 := n4_
      have BK238 := n5_
      have BK250 := n6_
      have BK254 := n7_
      have HR259_1 := n8_
      have HR259_3 := n9_
      have HB := n10_
      clear n0_ n1_ n2_ n3_ n4_ n5_ n6_ n7_ n8_ n9_ n10_
      have p268 : 0 ≤ (a2 : Int) := of_decide_eq_true (by first | (with_reducible assumption) | assumption)
      have q268 : a2 < (t246.length : Int) := of_decide_eq_true (by first | (with_reducible assumption) | assumption)
      obtain ⟨ad268, A268_1, c268_1, A268_3, c268_3, e268, hx268_0, hx268_1, hx268_2, hx268_3, hl268_1, hi268_1, hl268_3, hi268_3⟩ := at_T45 (Kd.V_reads' HO_251001.out).2.2 a2 p268 q268
      obtain rfl : ad259 = ad268 := (by injection e268)
      obtain ⟨ce268, hce268, hMe268, hcc268⟩ := Kd.V_get HO_251001.out z45 a2 p268 (by first | exact q268 | exact of_decide_eq_true (by first | (with_reducible assumption) | assumption) | (have e_ := (Kd.V_reads' HO_251001.out).1; omega))
      obtain ⟨ua268_1, uc268_1, ua268_3, uc268_3, rfl, ul268_1, ge268_1, ul268_3, ge268_3⟩ := k45_openF hMe268
      have hv268_1 := hcc268 1 _ rfl
      rw [add_field _ _ 1 (by omega)] at hv268_1
      replace hv268_1 := Option.some.inj (hv268_1.symm.trans hx268_1)
      injection hv268_1 with hva_ hvn_ hvc_
      rw [hva_] at ge268_1
      rw [hvc_] at ul268_1
      have HL268_1 := Aside0.mk (show Kd.V (Kd.int .i64) 3 _ w.heap.size _ _ ((rd_T45 t246 a2).f1) from Kd.V_mk ul268_1 ge268_1)
      clear hva_ hvn_ hvc_ ge268_1 ul268_1
      have hv268_3 := hcc268 3 _ rfl
      rw [add_field _ _ 3 (by omega)] at hv268_3
      replace hv268_3 := Option.some.inj (hv268_3.symm.trans hx268_3)
      injection hv268_3 with hva_ hvn_ hvc_
      rw [hva_] at ge268_3
      rw [hvc_] at ul268_3
      have HL268_3 := Aside0.mk (show Kd.V k53 53 _ w.heap.size _ _ ((rd_T45 t246 a2).f3) from Kd.V_mk ul268_3 ge268_3)
      clear hva_ hvn_ hvc_ ge268_3 ul268_3
      clear hcc268 hce268
      have HR268_1 := Aside0.mk hi268_1
      have HC268_1 := Aside0.mk hl268_1
      clear hi268_1 hl268_1
      have HR268_3 := Aside0.mk hi268_3
      have HC268_3 := Aside0.mk hl268_3
      clear hi268_3 hl268_3
      replace p268 := eq_true p268
      replace q268 := eq_true q268
      have p269 : 0 ≤ (a2 : Int) := of_decide_eq_true (by first | (with_reducible assumption) | assumption)
      have q269 : a2 < (l1_1.length : Int) := of_decide_eq_true (by first | (with_reducible assumption) | assumption)
      obtain ⟨ad269, A269_1, c269_1, A269_3, c269_3, e269, hx269_0, hx269_1, hx269_2, hx269_3, hl269_1, hi269_1, hl269_3, hi269_3⟩ := at_T45 HR1_1.out a2 p269 q269
      have hw269_3 := hx269_3
      have hw269_2 := hx269_2
      have hw269_1 := hx269_1
      have hw269_0 := hx269_0
      obtain rfl : ad252 = ad269 := (by injection e269)
      replace hx269_0 := (HB.out.cell (World.block_lt_of_cell? w _ hx269_0)).trans hx269_0
      replace hx269_1 := (HB.out.cell (World.block_lt_of_cell? w _ hx269_1)).trans hx269_1
      replace hx269_2 := (HB.out.cell (World.block_lt_of_cell? w _ hx269_2)).trans hx269_2
      replace hx269_3 := (HB.out.cell (World.block_lt_of_cell? w _ hx269_3)).trans hx269_3
      have HR269_1 := Aside0.mk hi269_1
      have HC269_1 := Aside0.mk hl269_1
      clear hi269_1 hl269_1
      have HR269_3 := Aside0.mk hi269_3
      have HC269_3 := Aside0.mk hl269_3
      clear hi269_3 hl269_3
      replace p269 := eq_true p269
      replace q269 := eq_true q269
      have p270 : 0 ≤ (((rd_T39 (rd_L3 l0_1 a2) ((rd_T45 l1_1 a2).f0)).f1) : Int) := of_decide_eq_true (by first | (with_reducible assumption) | assumption)
      have q270 : ((rd_T39 (rd_L3 l0_1 a2) ((rd_T45 l1_1 a2).f0)).f1) < (((rd_T45 l1_1 a2).f1).length : Int) := of_decide_eq_true (by first | (with_reducible assumption) | assumption)
      obtain ⟨ad270, e270, hx270_0⟩ := Kd.at_int HR269_1.out ((rd_T39 (rd_L3 l0_1 a2) ((rd_T45 l1_1 a2).f0)).f1) p270 q270
      have hw270_0 := hx270_0
      cases e270
      replace hx270_0 := (HB.out.cell (World.block_lt_of_cell? w _ hx270_0)).trans hx270_0
      replace p270 := eq_true p270
      replace q270 := eq_true q270
      refine start_ (n := 49) (S := fun w' => w'.cell? ⟨gb254, 0, none⟩ = some (.int .i64 ((rd_T39 (rd_L3 l0_1 a2) ((rd_T45 l1_1 a2).f0)).f0)) ∧ w'.cell? ⟨gb254, 1, none⟩ = some (.int .i64 ((rd_T39 (rd_L3 l0_1 a2) ((rd_T45 l1_1 a2).f0)).f1)) ∧ w'.cell? ⟨gb254, 2, none⟩ = some (.int .i64 ((rd_T39 (rd_L3 l0_1 a2) ((rd_T45 l1_1 a2).f0)).f2)) ∧ w'.cell? ⟨gb254, 3, none⟩ = some (.int .i64 ((rd_T39 (rd_L3 l0_1 a2) ((rd_T45 l1_1 a2).f0)).f3)) ∧ w'.cell? ⟨gb254, 4, none⟩ = some (.int .i64 ((rd_T39 (rd_L3 l0_1 a2) ((rd_T45 l1_1 a2).f0)).f4)) ∧ w'.cell? ⟨gb250, 0, none⟩ = some (.slice Ao50 t243.length co50) ∧ w'.cell? ⟨gb250, 1, none⟩ = some (.slice (some ad259) t246.length co54) ∧ w'.cell? ⟨gb238, 0, none⟩ = some (.slice A1_0 l1_0.length c1_0) ∧ w'.cell? ⟨gb238, 1, none⟩ = some (.slice (some ad252) l1_1.length c1_1) ∧ w'.cell? (ad259.add ((a2).toNat * 4)) = some (.int .i64 ((rd_T45 t246 a2).f0)) ∧ w'.cell? ⟨(ad259.add ((a2).toNat * 4)).block, (ad259.add ((a2).toNat * 4)).off + 1, none⟩ = some (.slice A268_1 ((rd_T45 t246 a2).f1).length c268_1) ∧ w'.cell? ⟨(ad259.add ((a2).toNat * 4)).block, (ad259.add ((a2).toNat * 4)).off + 2, none⟩ = some (.bool ((rd_T45 t246 a2).f2)) ∧ w'.cell? ⟨(ad259.add ((a2).toNat * 4)).block, (ad259.add ((a2).toNat * 4)).off + 3, none⟩ = some (.slice A268_3 ((rd_T45 t246 a2).f3).length c268_3) ∧ w'.cell? (ad252.add ((a2).toNat * 4)) = some (.int .i64 ((rd_T45 l1_1 a2).f0)) ∧ w'.cell? ⟨(ad252.add ((a2).toNat * 4)).block, (ad252.add ((a2).toNat * 4)).off + 1, none⟩ = some (.slice (some ad270) ((rd_T45 l1_1 a2).f1).length c269_1) ∧ w'.cell? ⟨(ad252.add ((a2).toNat * 4)).block, (ad252.add ((a2).toNat * 4)).off + 2, none⟩ = some (.bool ((rd_T45 l1_1 a2).f2)) ∧ w'.cell? ⟨(ad252.add ((a2).toNat * 4)).block, (ad252.add ((a2).toNat * 4)).off + 3, none⟩ = some (.slice A269_3 ((rd_T45 l1_1 a2).f3).length c269_3) ∧ w'.cell? (ad270.add (((rd_T39 (rd_L3 l0_1 a2) ((rd_T45 l1_1 a2).f0)).f1)).toNat) = some (.int .i64 (rd ((rd_T45 l1_1 a2).f1) ((rd_T39 (rd_L3 l0_1 a2) ((rd_T45 l1_1 a2).f0)).f1)))) (ds := []) (lb_ 49 0) (by kernel_rfl) rfl rfl ⟨(blk_cell BK254.out 0).trans rfl, (blk_cell BK254.out 1).trans rfl, (blk_cell BK254.out 2).trans rfl, (blk_cell BK254.out 3).trans rfl, (blk_cell BK254.out 4).trans rfl, (blk_cell BK250.out 0).trans rfl, (blk_cell BK250.out 1).trans rfl, (blk_cell BK238.out 0).trans rfl, (blk_cell BK238.out 1).trans rfl, hx268_0, hx268_1, hx268_2, hx268_3, ((HB.out.cell (World.block_lt_of_cell? w _ hw269_0)).trans hw269_0), ((HB.out.cell (World.block_lt_of_cell? w _ hw269_1)).trans hw269_1), ((HB.out.cell (World.block_lt_of_cell? w _ hw269_2)).trans hw269_2), ((HB.out.cell (World.block_lt_of_cell? w _ hw269_3)).trans hw269_3), ((HB.out.cell (World.block_lt_of_cell? w _ hw270_0)).trans hw270_0)⟩ (fun hHeld => ?_); refine with_tabW fencepostlaw10_ScReads.tab22 fencepostlaw10_ScReads.bits22 (fun HT_ HW_ => ?_)
      generalize wc.drew = w171 at HO_251000 HO_251001 HL259_1 HL259_3 BK237 BK238 BK250 BK254 HR259_1 HR259_3 HB HL268_1 HL268_3 HR268_1 HR268_3 HR269_1 HR269_3 hx268_0 hx268_1 hx268_2 hx268_3 hx269_0 hx269_1 hx269_2 hx269_3 hx270_0 hHeld ⊢
      refine pure_ (i := 0) (N := some 153) (v := ?_) (a' := ?_) (lb_ 49 1) rfl rfl (any_of HT_.out (by kernel_rfl)) (fun _ _ _ h => h) (Or.inl ⟨by rfl, ?_⟩) ?_ ?_; rotate_left; intro w'; go_simp; with_reducible rfl; rotate_left; simp only [Act.put, List.setIfInBounds_toArray, List.set_cons_zero, List.set_cons_succ, i64_w, i32_w]; rfl
      refine pure_ (i := 1) (N := some 154) (v := ?_) (a' := ?_) (lb_ 49 3) rfl rfl (any_of HT_.out (by kernel_rfl)) (fun _ _ _ h => h) (Or.inl ⟨by rfl, ?_⟩) ?_ ?_; rotate_left; intro w'; go_simp; with_reducible rfl; rotate_left; simp only [Act.put, List.setIfInBounds_toArray, List.set_cons_zero, List.set_cons_succ, i64_w, i32_w]; rfl
      refine pure_ (i := 2) (N := some 155) (v := ?_) (a' := ?_) (lb_ 49 7) rfl rfl (any_of HT_.out (by kernel_rfl)) (fun _ _ _ h => h) (Or.inl ⟨by rfl, ?_⟩) ?_ ?_; rotate_left; intro w'; go_simp; with_reducible rfl; rotate_left; simp only [Act.put, List.setIfInBounds_toArray, List.set_cons_zero, List.set_cons_succ, i64_w, i32_w]; rfl
      refine take_ (i := 3) (N := some 156) (v := ?_) (a' := ?_) (lb_ 49 15) rfl rfl (take_ofW HT_.out HW_.out (by kernel_rfl)) (fun _ _ _ h => h) (Or.inl ⟨by rfl, ?_⟩) hHeld ?_ ?_; rotate_left; rintro w' ⟨s0, s1, s2, s3, s4, s5, s6, s7, s8, s9, s10, s11, s12, s13, s14, s15, s16, s17⟩; go_simp; with_reducible rfl; rotate_left; simp only [Act.put, List.setIfInBounds_toArray, List.set_cons_zero, List.set_cons_succ, i64_w, i32_w]; rfl
      refine pure_ (i := 4) (N := some 157) (v := ?_) (a' := ?_) (lb_ 49 31) rfl rfl (any_of HT_.out (by kernel_rfl)) (fun _ _ _ h => h) (Or.inl ⟨by rfl, ?_⟩) ?_ ?_; rotate_left; intro w'; go_simp; with_reducible rfl; rotate_left; simp only [Act.put, List.setIfInBounds_toArray, List.set_cons_zero, List.set_cons_succ, i64_w, i32_w]; rfl
      refine pure_ (i := 5) (N := some 158) (v := ?_) (a' := ?_) (lb_ 49 63) rfl rfl (any_of HT_.out (by kernel_rfl)) (fun _ _ _ h => h) (Or.inl ⟨by rfl, ?_⟩) ?_ ?_; rotate_left; intro w'; go_simp; with_reducible rfl; rotate_left; simp only [Act.put, List.setIfInBounds_toArray, List.set_cons_zero, List.set_cons_succ, i64_w, i32_w]; rfl
      refine pure_ (i := 6) (N := some 159) (v := ?_) (a' := ?_) (lb_ 49 127) rfl rfl (any_of HT_.out (by kernel_rfl)) (fun _ _ _ h => h) (Or.inl ⟨by rfl, ?_⟩) ?_ ?_; rotate_left; intro w'; go_simp; with_reducible rfl; rotate_left; simp only [Act.put, List.setIfInBounds_toArray, List.set_cons_zero, List.set_cons_succ, i64_w, i32_w]; rfl
      refine pure_ (i := 8) (N := some 161) (v := ?_) (a' := ?_) (lb_ 49 383) rfl rfl (any_of HT_.out (by kernel_rfl)) (fun _ _ _ h => h) (Or.inl ⟨by rfl, ?_⟩) ?_ ?_; rotate_left; intro w'; go_simp; with_reducible rfl; rotate_left; simp only [Act.put, List.setIfInBounds_toArray, List.set_cons_zero, List.set_cons_succ, i64_w, i32_w]; rfl
      refine pure_ (i := 12) (N := some 165) (v := ?_) (a' := ?_) (lb_ 49 4479) rfl rfl (any_of HT_.out (by kernel_rfl)) (fun _ _ _ h => h) (Or.inl ⟨by rfl, ?_⟩) ?_ ?_; rotate_left; intro w'; go_simp; with_reducible rfl; rotate_left; simp only [Act.put, List.setIfInBounds_toArray, List.set_cons_zero, List.set_cons_succ, i64_w, i32_w]; rfl
      refine pure_ (i := 14) (N := some 167) (v := ?_) (a' := ?_) (lb_ 49 20863) rfl rfl (any_of HT_.out (by kernel_rfl)) (fun _ _ _ h => h) (Or.inl ⟨by rfl, ?_⟩) ?_ ?_; rotate_left; intro w'; go_simp; with_reducible rfl; rotate_left; simp only [Act.put, List.setIfInBounds_toArray, List.set_cons_zero, List.set_cons_succ, i64_w, i32_w]; rfl
      refine pure_ (i := 18) (N := some 171) (v := ?_) (a' := ?_) (lb_ 49 283007) rfl rfl (any_of HT_.out (by kernel_rfl)) (fun _ _ _ h => h) (Or.inl ⟨by rfl, ?_⟩) ?_ ?_; rotate_left; intro w'; go_simp; with_reducible rfl; rotate_left; simp only [Act.put, List.setIfInBounds_toArray, List.set_cons_zero, List.set_cons_succ, i64_w, i32_w]; rfl
      refine pure_ (i := 22) (N := some 175) (v := ?_) (a' := ?_) (lb_ 49 4477311) rfl rfl (any_of HT_.out (by kernel_rfl)) (fun _ _ _ h => h) (Or.inl ⟨by rfl, ?_⟩) ?_ ?_; rotate_left; intro w'; go_simp; with_reducible rfl; rotate_left; simp only [Act.put, List.setIfInBounds_toArray, List.set_cons_zero, List.set_cons_succ, i64_w, i32_w]; rfl
      refine take_ (i := 7) (N := some 160) (v := ?_) (a' := ?_) (lb_ 49 4477439) rfl rfl (take_ofW HT_.out HW_.out (by kernel_rfl)) (fun _ _ _ h => h) (Or.inl ⟨by rfl, ?_⟩) hHeld ?_ ?_; rotate_left; rintro w' ⟨s0, s1, s2, s3, s4, s5, s6, s7, s8, s9, s10, s11, s12, s13, s14, s15, s16, s17⟩; go_simp; with_reducible rfl; rotate_left; simp only [Act.put, List.setIfInBounds_toArray, List.set_cons_zero, List.set_cons_succ, i64_w, i32_w]; rfl
      refine pure_ (i := 9) (N := some 162) (v := ?_) (a' := ?_) (lb_ 49 4477951) rfl rfl (any_of HT_.out (by kernel_rfl)) (fun _ _ _ h => h) (Or.inl ⟨by rfl, ?_⟩) ?_ ?_; rotate_left; intro w'; go_simp; with_reducible rfl; rotate_left; simp only [Act.put, List.setIfInBounds_toArray, List.set_cons_zero, List.set_cons_succ, i64_w, i32_w]; rfl
      refine pure_ (i := 10) (N := some 163) (v := ?_) (a' := ?_) (lb_ 49 4478975) rfl rfl (any_of HT_.out (by kernel_rfl)) (fun _ _ _ h => h) (Or.inl ⟨by rfl, ?_⟩) ?_ ?_; rotate_left; intro w'; go_simp; with_reducible rfl; rotate_left; simp only [Act.put, List.setIfInBounds_toArray, List.set_cons_zero, List.set_cons_succ, i64_w, i32_w]; rfl
      refine take_ (i := 11) (N := some 164) (v := ?_) (a' := ?_) (lb_ 49 4481023) rfl rfl (take_ofW HT_.out HW_.out (by kernel_rfl)) (fun _ _ _ h => h) (Or.inl ⟨by rfl, ?_⟩) hHeld ?_ ?_; rotate_left; rintro w' ⟨s0, s1, s2, s3, s4, s5, s6, s7, s8, s9, s10, s11, s12, s13, s14, s15, s16, s17⟩; go_simp; with_reducible rfl; rotate_left; simp only [Act.put, List.setIfInBounds_toArray, List.set_cons_zero, List.set_cons_succ, i64_w, i32_w]; rfl
      refine take_ (i := 13) (N := some 166) (v := ?_) (a' := ?_) (lb_ 49 4489215) rfl rfl (take_ofW HT_.out HW_.out (by kernel_rfl)) (fun _ _ _ h => h) (Or.inl ⟨by rfl, ?_⟩) hHeld ?_ ?_; rotate_left; rintro w' ⟨s0, s1, s2, s3, s4, s5, s6, s7, s8, s9, s10, s11, s12, s13, s14, s15, s16, s17⟩; go_simp; with_reducible rfl; rotate_left; simp only [Act.put, List.setIfInBounds_toArray, List.set_cons_zero, List.set_cons_succ, i64_w, i32_w]; rfl
      refine pure_ (i := 15) (N := some 168) (v := ?_) (a' := ?_) (lb_ 49 4521983) rfl rfl (any_of HT_.out (by kernel_rfl)) (fun _ _ _ h => h) (Or.inl ⟨by rfl, ?_⟩) ?_ ?_; rotate_left; intro w'; go_simp; with_reducible rfl; rotate_left; simp only [Act.put, List.setIfInBounds_toArray, List.set_cons_zero, List.set_cons_succ, i64_w, i32_w]; rfl
      refine pure_ (i := 16) (N := some 169) (v := ?_) (a' := ?_) (lb_ 49 4587519) rfl rfl (any_of HT_.out (by kernel_rfl)) (fun _ _ _ h => h) (Or.inl ⟨by rfl, ?_⟩) ?_ ?_; rotate_left; intro w'; go_simp; with_reducible rfl; rotate_left; simp only [Act.put, List.setIfInBounds_toArray, List.set_cons_zero, List.set_cons_succ, i64_w, i32_w]; rfl
      refine take_ (i := 17) (N := some 170) (v := ?_) (a' := ?_) (lb_ 49 4718591) rfl rfl (take_ofW HT_.out HW_.out (by kernel_rfl)) (fun _ _ _ h => h) (Or.inl ⟨by rfl, ?_⟩) hHeld ?_ ?_; rotate_left; rintro w' ⟨s0, s1, s2, s3, s4, s5, s6, s7, s8, s9, s10, s11, s12, s13, s14, s15, s16, s17⟩; go_simp; with_reducible rfl; rotate_left; simp only [Act.put, List.setIfInBounds_toArray, List.set_cons_zero, List.set_cons_succ, i64_w, i32_w]; rfl
      refine take_ (i := 19) (N := some 172) (v := ?_) (a' := ?_) (lb_ 49 5242879) rfl rfl (take_ofW HT_.out HW_.out (by kernel_rfl)) (fun _ _ _ h => h) (Or.inl ⟨by rfl, ?_⟩) hHeld ?_ ?_; rotate_left; rintro w' ⟨s0, s1, s2, s3, s4, s5, s6, s7, s8, s9, s10, s11, s12, s13, s14, s15, s16, s17⟩; go_simp; with_reducible rfl; rotate_left; simp only [Act.put, List.setIfInBounds_toArray, List.set_cons_zero, List.set_cons_succ, i64_w, i32_w]; rfl
      refine pure_ (i := 20) (N := some 173) (v := ?_) (a' := ?_) (lb_ 49 6291455) rfl rfl (any_of HT_.out (by kernel_rfl)) (fun _ _ _ h => h) (Or.inl ⟨by rfl, ?_⟩) ?_ ?_; rotate_left; intro w'; go_simp; with_reducible rfl; rotate_left; simp only [Act.put, List.setIfInBounds_toArray, List.set_cons_zero, List.set_cons_succ, i64_w, i32_w]; rfl
      refine take_ (i := 21) (N := some 174) (v := ?_) (a' := ?_) (lb_ 49 8388607) rfl rfl (take_ofW HT_.out HW_.out (by kernel_rfl)) (fun _ _ _ h => h) (Or.inl ⟨by rfl, ?_⟩) hHeld ?_ ?_; rotate_left; rintro w' ⟨s0, s1, s2, s3, s4, s5, s6, s7, s8, s9, s10, s11, s12, s13, s14, s15, s16, s17⟩; go_simp; with_reducible rfl; rotate_left; simp only [Act.put, List.setIfInBounds_toArray, List.set_cons_zero, List.set_cons_succ, i64_w, i32_w]; rfl
      refine take_ (i := 23) (N := some 176) (v := ?_) (a' := ?_) (lb_ 49 16777215) rfl rfl (take_ofW HT_.out HW_.out (by kernel_rfl)) (fun _ _ _ h => h) (Or.inl ⟨by rfl, ?_⟩) hHeld ?_ ?_; rotate_left; rintro w' ⟨s0, s1, s2, s3, s4, s5, s6, s7, s8, s9, s10, s11, s12, s13, s14, s15, s16, s17⟩; go_simp; with_reducible rfl; rotate_left; simp only [Act.put, List.setIfInBounds_toArray, List.set_cons_zero, List.set_cons_succ, i64_w, i32_w]; rfl
      refine pure_ (i := 24) (N := some 177) (v := ?_) (a' := ?_) (lb_ 49 33554431) rfl rfl (any_of HT_.out (by kernel_rfl)) (fun _ _ _ h => h) (Or.inl ⟨by rfl, ?_⟩) ?_ ?_; rotate_left; intro w'; go_simp; with_reducible rfl; rotate_left; simp only [Act.put, List.setIfInBounds_toArray, List.set_cons_zero, List.set_cons_succ, i64_w, i32_w]; rfl
      refine pure_ (i := 25) (N := some 178) (v := ?_) (a' := ?_) (lb_ 49 67108863) rfl rfl (any_of HT_.out (by kernel_rfl)) (fun _ _ _ h => h) (Or.inl ⟨by rfl, ?_⟩) ?_ ?_; rotate_left; intro w'; go_simp; with_reducible rfl; rotate_left; simp only [Act.put, List.setIfInBounds_toArray, List.set_cons_zero, List.set_cons_succ, i64_w, i32_w]; rfl
      refine pure_ (i := 26) (N := some 179) (v := ?_) (a' := ?_) (lb_ 49 134217727) rfl rfl (any_of HT_.out (by kernel_rfl)) (fun _ _ _ h => h) (Or.inl ⟨by rfl, ?_⟩) ?_ ?_; rotate_left; intro w'; go_simp; with_reducible rfl; rotate_left; simp only [Act.put, List.setIfInBounds_toArray, List.set_cons_zero, List.set_cons_succ, i64_w, i32_w]; rfl
      refine pure_ (i := 27) (N := some 180) (v := ?_) (a' := ?_) (lb_ 49 268435455) rfl rfl (any_of HT_.out (by kernel_rfl)) (fun _ _ _ h => h) (Or.inl ⟨by rfl, ?_⟩) ?_ ?_; rotate_left; intro w'; go_simp; with_reducible rfl; rotate_left; simp only [Act.put, List.setIfInBounds_toArray, List.set_cons_zero, List.set_cons_succ, i64_w, i32_w]; rfl
      refine pure_ (i := 28) (N := some 181) (v := ?_) (a' := ?_) (lb_ 49 536870911) rfl rfl (any_of HT_.out (by kernel_rfl)) (fun _ _ _ h => h) (Or.inl ⟨by rfl, ?_⟩) ?_ ?_; rotate_left; intro w'; go_simp; with_reducible rfl; rotate_left; simp only [Act.put, List.setIfInBounds_toArray, List.set_cons_zero, List.set_cons_succ, i64_w, i32_w]; rfl
      refine pure_ (i := 29) (N := some 182) (v := ?_) (a' := ?_) (lb_ 49 1073741823) rfl rfl (any_of HT_.out (by kernel_rfl)) (fun _ _ _ h => h) (Or.inl ⟨by rfl, ?_⟩) ?_ ?_; rotate_left; intro w'; go_simp; with_reducible rfl; rotate_left; simp only [Act.put, List.setIfInBounds_toArray, List.set_cons_zero, List.set_cons_succ, i64_w, i32_w]; rfl
      refine take_ (i := 30) (N := some 183) (v := ?_) (a' := ?_) (lb_ 49 2147483647) rfl rfl (take_ofW HT_.out HW_.out (by kernel_rfl)) (fun _ _ _ h => h) (Or.inl ⟨by rfl, ?_⟩) hHeld ?_ ?_; rotate_left; rintro w' ⟨s0, s1, s2, s3, s4, s5, s6, s7, s8, s9, s10, s11, s12, s13, s14, s15, s16, s17⟩; go_simp; with_reducible rfl; rotate_left; simp only [Act.put, List.setIfInBounds_toArray, List.set_cons_zero, List.set_cons_succ, i64_w, i32_w]; rfl
      refine pure_ (i := 31) (N := some 184) (v := ?_) (a' := ?_) (lb_ 49 4294967295) rfl rfl (any_of HT_.out (by kernel_rfl)) (fun _ _ _ h => h) (Or.inl ⟨by rfl, ?_⟩) ?_ ?_; rotate_left; intro w'; go_simp; with_reducible rfl; rotate_left; simp only [Act.put, List.setIfInBounds_toArray, List.set_cons_zero, List.set_cons_succ, i64_w, i32_w]; rfl
      refine pure_ (i := 32) (N := some 185) (v := ?_) (a' := ?_) (lb_ 49 8589934591) rfl rfl (any_of HT_.out (by kernel_rfl)) (fun _ _ _ h => h) (Or.inl ⟨by rfl, ?_⟩) ?_ ?_; rotate_left; intro w'; go_simp; with_reducible rfl; rotate_left; simp only [Act.put, List.setIfInBounds_toArray, List.set_cons_zero, List.set_cons_succ, i64_w, i32_w]; rfl
      refine pure_ (i := 33) (N := some 186) (v := undef) (a' := ?_) (lb_ 49 17179869183) rfl rfl (any_of HT_.out (by kernel_rfl)) (fun _ _ _ h => h) (Or.inr ⟨by rfl, rfl⟩) ?_ ?_
      rotate_left
      ·simp only [Act.put, List.setIfInBounds_toArray, List.set_cons_zero, List.set_cons_succ, i64_w, i32_w]
       rfl
      refine pure_ (i := 34) (N := some 187) (v := undef) (a' := ?_) (lb_ 49 34359738367) rfl rfl (any_of HT_.out (by kernel_rfl)) (fun _ _ _ h => h) (Or.inr ⟨by rfl, rfl⟩) ?_ ?_
      rotate_left
      ·simp only [Act.put, List.setIfInBounds_toArray, List.set_cons_zero, List.set_cons_succ, i64_w, i32_w]
       rfl
      refine pure_ (i := 35) (N := some 188) (v := undef) (a' := ?_) (lb_ 49 68719476735) rfl rfl (any_of HT_.out (by kernel_rfl)) (fun _ _ _ h => h) (Or.inr ⟨by rfl, rfl⟩) ?_ ?_
      rotate_left
      ·simp only [Act.put, List.setIfInBounds_toArray, List.set_cons_zero, List.set_cons_succ, i64_w, i32_w]
       rfl
      refine pure_ (i := 36) (N := some 189) (v := undef) (a' := ?_) (lb_ 49 137438953471) rfl rfl (any_of HT_.out (by kernel_rfl)) (fun _ _ _ h => h) (Or.inr ⟨by rfl, rfl⟩) ?_ ?_
      rotate_left
      ·simp only [Act.put, List.setIfInBounds_toArray, List.set_cons_zero, List.set_cons_succ, i64_w, i32_w]
       rfl
      refine pure_ (i := 37) (N := some 190) (v := undef) (a' := ?_) (lb_ 49 274877906943) rfl rfl (any_of HT_.out (by kernel_rfl)) (fun _ _ _ h => h) (Or.inr ⟨by rfl, rfl⟩) ?_ ?_
      rotate_left
      ·simp only [Act.put, List.setIfInBounds_toArray, List.set_cons_zero, List.set_cons_succ, i64_w, i32_w]
       rfl
      refine pure_ (i := 38) (N := some 191) (v := undef) (a' := ?_) (lb_ 49 549755813887) rfl rfl (any_of HT_.out (by kernel_rfl)) (fun _ _ _ h => h) (Or.inr ⟨by rfl, rfl⟩) ?_ ?_
      rotate_left
      ·simp only [Act.put, List.setIfInBounds_toArray, List.set_cons_zero, List.set_cons_succ, i64_w, i32_w]
       rfl
      refine pure_ (i := 39) (N := some 192) (v := undef) (a' := ?_) (lb_ 49 1099511627775) rfl rfl (any_of HT_.out (by kernel_rfl)) (fun _ _ _ h => h) (Or.inr ⟨by rfl, rfl⟩) ?_ ?_
      rotate_left
      ·simp only [Act.put, List.setIfInBounds_toArray, List.set_cons_zero, List.set_cons_succ, i64_w, i32_w]
       rfl
      refine pure_ (i := 40) (N := some 193) (v := undef) (a' := ?_) (lb_ 49 2199023255551) rfl rfl (any_of HT_.out (by kernel_rfl)) (fun _ _ _ h => h) (Or.inr ⟨by rfl, rfl⟩) ?_ ?_
      rotate_left
      ·simp only [Act.put, List.setIfInBounds_toArray, List.set_cons_zero, List.set_cons_succ, i64_w, i32_w]
       rfl
      refine pure_ (i := 41) (N := some 194) (v := undef) (a' := ?_) (lb_ 49 4398046511103) rfl rfl (any_of HT_.out (by kernel_rfl)) (fun _ _ _ h => h) (Or.inr ⟨by rfl, rfl⟩) ?_ ?_
      rotate_left
      ·simp only [Act.put, List.setIfInBounds_toArray, List.set_cons_zero, List.set_cons_succ, i64_w, i32_w]
       rfl
      refine pure_ (i := 42) (N := some 195) (v := undef) (a' := ?_) (lb_ 49 8796093022207) rfl rfl (any_of HT_.out (by kernel_rfl)) (fun _ _ _ h => h) (Or.inr ⟨by rfl, rfl⟩) ?_ ?_
      rotate_left
      ·simp only [Act.put, List.setIfInBounds_toArray, List.set_cons_zero, List.set_cons_succ, i64_w, i32_w]
       rfl
      refine pure_ (i := 43) (N := some 196) (v := undef) (a' := ?_) (lb_ 49 17592186044415) rfl rfl (any_of HT_.out (by kernel_rfl)) (fun _ _ _ h => h) (Or.inr ⟨by rfl, rfl⟩) ?_ ?_
      rotate_left
      ·simp only [Act.put, List.setIfInBounds_toArray, List.set_cons_zero, List.set_cons_succ, i64_w, i32_w]
       rfl
      refine pure_ (i := 44) (N := some 197) (v := undef) (a' := ?_) (lb_ 49 35184372088831) rfl rfl (any_of HT_.out (by kernel_rfl)) (fun _ _ _ h => h) (Or.inr ⟨by rfl, rfl⟩) ?_ ?_
      rotate_left
      ·simp only [Act.put, List.setIfInBounds_toArray, List.set_cons_zero, List.set_cons_succ, i64_w, i32_w]
       rfl
      refine pure_ (i := 45) (N := some 198) (v := undef) (a' := ?_) (lb_ 49 70368744177663) rfl rfl (any_of HT_.out (by kernel_rfl)) (fun _ _ _ h => h) (Or.inr ⟨by rfl, rfl⟩) ?_ ?_
      rotate_left
      ·simp only [Act.put, List.setIfInBounds_toArray, List.set_cons_zero, List.set_cons_succ, i64_w, i32_w]
       rfl
      refine pure_ (i := 46) (N := some 199) (v := ?_) (a' := ?_) (lb_ 49 140737488355327) rfl rfl (any_of HT_.out (by kernel_rfl)) (fun _ _ _ h => h) (Or.inl ⟨by rfl, ?_⟩) ?_ ?_; rotate_left; intro w'; go_simp; with_reducible rfl; rotate_left; simp only [Act.put, List.setIfInBounds_toArray, List.set_cons_zero, List.set_cons_succ, i64_w, i32_w]; rfl
      refine pure_ (i := 47) (N := some 200) (v := ?_) (a' := ?_) (lb_ 49 281474976710655) rfl rfl (any_of HT_.out (by kernel_rfl)) (fun _ _ _ h => h) (Or.inl ⟨by rfl, ?_⟩) ?_ ?_; rotate_left; intro w'; go_simp; with_reducible rfl; rotate_left; simp only [Act.put, List.setIfInBounds_toArray, List.set_cons_zero, List.set_cons_succ, i64_w, i32_w]; rfl
      refine pure_ (i := 48) (N := some 8) (v := ?_) (a' := ?_) (lb_ 49 562949953421311) rfl rfl (any_of HT_.out (by kernel_rfl)) (fun _ _ _ h => h) (Or.inl ⟨by rfl, ?_⟩) ?_ ?_; rotate_left; intro w'; go_simp; with_reducible rfl; rotate_left; simp only [Act.put, List.setIfInBounds_toArray, List.set_cons_zero, List.set_cons_succ, i64_w, i32_w]; rfl
      refine done_ (done_of HT_.out (by kernel_rfl)) ?_
      try go_wp2
      go_ret
      exact ⟨by first | rfl | (simp [errW_none, errW_some] <;> rfl) | (simp only [← hji41]; first | rfl | (simp [errW_none, errW_some] <;> rfl)) | (simp [*, errW_none, errW_some] <;> rfl), by repeat (first | (with_reducible first | exact HB.out | apply below_alloc | apply pw_below_drewN | apply below_drew1 | refine below_set ?_ GE237.out | refine below_set ?_ GE238.out | refine below_set ?_ GE250.out | refine below_set ?_ GE254.out) | exact HB.out)⟩
end Go.Proofs.Ytdliojcpnkggnaa.Print
