-- Written by ownprint.py (this session's) with the kit's print.py: functions, contracts, rows; Lean checks it.
import Derived.Test.YtdliojcpnkggnaaPrint0
import Derived.Test.YtdliojcpnkggnaaPrint5
import Derived.Test.YtdliojcpnkggnaaPrint6
import Derived.Test.YtdliojcpnkggnaaPrint7
import Derived.Test.YtdliojcpnkggnaaPrint8
import Derived.Test.YtdliojcpnkggnaaPrint9
import Derived.Test.YtdliojcpnkggnaaHSq
import Derived.Test.YtdliojcpnkggnaaHHead10
import Derived.Test.YtdliojcpnkggnaaHScStep
namespace Go.Proofs.Ytdliojcpnkggnaa.Print
open Go.RowKit Go.Proofs.YtdliojcpnkggnaaW.PrintWords Go.Proofs.YtdliojcpnkggnaaW.PrintLast Go.Proofs.YtdliojcpnkggnaaW.PrintMore
attribute [local go_sem] max2_int min2_int max_two min_two max_three min_three max_four min_four   -- for this text's walks alone
set_option linter.unusedVariables false
set_option linter.unusedSimpArgs false
mutual
def fencepostlaw10_ScApart.j0 : Nat → Int → Bool → Bool → List Int → List (List (S39)) → List Int → List (S45) → Option (Bool)
 | 0, _, _, _, _, _, _, _ => none
 | k + 1, x2, x7, x28, x150000, x150001, x151000, x151001 => if x28 = true then (some x7) else ((sc_Step.f x150000 x150001 x151000 x151001 x2).bind fun bt155 => (if bt155.2.2 = true then ((fencepostref10_Right.f k x150000 x150001 bt155.1 bt155.2.1).bind fun t164 => (if t164 = true then (if x2 < 0 then (fencepostlaw10_ScApart.j1 k x2 x7 true x150000 x150001 x151000 x151001 bt155.1 bt155.2.1) else (fencepostlaw10_ScApart.j1 k x2 x7 (decide (x2 ≥ (x151001.length : Int))) x150000 x150001 x151000 x151001 bt155.1 bt155.2.1)) else (fencepostlaw10_ScApart.j1 k x2 x7 true x150000 x150001 x151000 x151001 bt155.1 bt155.2.1))) else (if x7 = true then ((fencepostref10_Same.f k bt155.1 bt155.2.1 x151000 x151001).bind fun t163 => (some t163)) else (some false))))
def fencepostlaw10_ScApart.j1 : Nat → Int → Bool → Bool → List Int → List (List (S39)) → List Int → List (S45) → List Int → List (S45) → Option (Bool)
 | 0, _, _, _, _, _, _, _, _, _ => none
 | k + 1, x2, x7, x59, x150000, x150001, x151000, x151001, x163000, x163001 => if x59 = true then (some false) else ((fencepostref10_At.f x150000 x150001 x151000 x151001 x2).bind fun bt165 => (fencepostlaw10_ScApart.l0 k x2 x7 0 x151000 x151001 x163000 x163001 bt165.1 bt165.2.1 bt165.2.2.1 bt165.2.2.2.1 bt165.2.2.2.2.1))
def fencepostlaw10_ScApart.l0 : Nat → Int → Bool → Int → List Int → List (S45) → List Int → List (S45) → Int → Int → Int → Int → Int → Option (Bool)
 | 0, _, _, _, _, _, _, _, _, _, _, _, _ => none
 | k + 1, x2, x7, x12, x151000, x151001, x163000, x163001, x172000, x172001, x172002, x172003, x172004 => if x12 < (x151001.length : Int) then (if x12 = x2 then (fencepostlaw10_ScApart.l0 k x2 x7 (wrap64 (x12 + 1)) x151000 x151001 x163000 x163001 x172000 x172001 x172002 x172003 x172004) else (if 0 ≤ x12 then (if x12 < (x163001.length : Int) then ((fencepostref10_SameTh.f k ((rd_T45 x163001 x12).f0) ((rd_T45 x163001 x12).f1) ((rd_T45 x163001 x12).f2) ((rd_T45 x163001 x12).f3) ((rd_T45 x151001 x12).f0) ((rd_T45 x151001 x12).f1) ((rd_T45 x151001 x12).f2) ((rd_T45 x151001 x12).f3)).bind fun t174 => (if t174 = true then (fencepostlaw10_ScApart.l0 k x2 x7 (wrap64 (x12 + 1)) x151000 x151001 x163000 x163001 x172000 x172001 x172002 x172003 x172004) else (some false))) else (none)) else (none))) else (if x172000 = 3 then (fencepostlaw10_ScApart.j3 k x2 x7 true x151000 x151001 x163000 x163001 x172000 x172001 x172002 x172003 x172004) else (if x172000 = 4 then (fencepostlaw10_ScApart.j3 k x2 x7 true x151000 x151001 x163000 x163001 x172000 x172001 x172002 x172003 x172004) else (fencepostlaw10_ScApart.j3 k x2 x7 (x172000 == 5) x151000 x151001 x163000 x163001 x172000 x172001 x172002 x172003 x172004)))
def fencepostlaw10_ScApart.j3 : Nat → Int → Bool → Bool → List Int → List (S45) → List Int → List (S45) → Int → Int → Int → Int → Int → Option (Bool)
 | 0, _, _, _, _, _, _, _, _, _, _, _, _ => none
 | k + 1, x2, x7, x13, x151000, x151001, x163000, x163001, x172000, x172001, x172002, x172003, x172004 => fencepostlaw10_ScApart.l1 k x2 x7 x13 0 x151000 x151001 x163000 x163001 x172000 x172001 x172002 x172003 x172004
def fencepostlaw10_ScApart.l1 : Nat → Int → Bool → Bool → Int → List Int → List (S45) → List Int → List (S45) → Int → Int → Int → Int → Int → Option (Bool)
 | 0, _, _, _, _, _, _, _, _, _, _, _, _, _ => none
 | k + 1, x2, x7, x13, x14, x151000, x151001, x163000, x163001, x172000, x172001, x172002, x172003, x172004 => if x14 < (x151000.length : Int) then (if 0 ≤ x14 then (if x14 < (x163000.length : Int) then (if (rd x163000 x14) = (rd x151000 x14) then (fencepostlaw10_ScApart.l1 k x2 x7 x13 (wrap64 (x14 + 1)) x151000 x151001 x163000 x163001 x172000 x172001 x172002 x172003 x172004) else (if x13 = true then (if x14 = x172002 then (fencepostlaw10_ScApart.l1 k x2 x7 x13 (wrap64 (x14 + 1)) x151000 x151001 x163000 x163001 x172000 x172001 x172002 x172003 x172004) else (some false)) else (some false))) else (none)) else (none)) else (if 0 ≤ x2 then (if x2 < (x163001.length : Int) then (if x2 < (x151001.length : Int) then (if x7 = true then ((fencepostref10_SameTh.f k ((rd_T45 x163001 x2).f0) ((rd_T45 x163001 x2).f1) ((rd_T45 x163001 x2).f2) ((rd_T45 x163001 x2).f3) ((rd_T45 x163001 x2).f0) ((rd_T45 x163001 x2).f1) ((rd_T45 x163001 x2).f2) ((rd_T45 x151001 x2).f3)).bind fun t181 => (some t181)) else (some false)) else (none)) else (none)) else (none))
end
def fencepostlaw10_ScApart.f (k : Nat) (l0_0 : List Int) (l0_1 : List (List (S39))) (l1_0 : List Int) (l1_1 : List (S45)) (a2 : Int) : Option (Bool) := (fencepostlaw10_head.f).bind fun t151 => ((fencepostlaw10_Great.f k l0_0 l0_1).bind fun t152 => (if t152 = true then (fencepostlaw10_ScApart.j0 k a2 t151 true l0_0 l0_1 l1_0 l1_1) else ((fencepostlaw10_Wide.f k l1_0 l1_1).bind fun t153 => (if t153 = true then (fencepostlaw10_ScApart.j0 k a2 t151 true l0_0 l0_1 l1_0 l1_1) else ((fencepostref10_Right.f k l0_0 l0_1 l1_0 l1_1).bind fun t154 => (fencepostlaw10_ScApart.j0 k a2 t151 (!t154) l0_0 l0_1 l1_0 l1_1))))))
theorem fencepostlaw10_ScApart.mono_l : ∀ k, (∀ y0 y1 y2 y3 y4 y5 y6, LeO (fencepostlaw10_ScApart.j0 k y0 y1 y2 y3 y4 y5 y6) (fencepostlaw10_ScApart.j0 (k + 1) y0 y1 y2 y3 y4 y5 y6)) ∧ (∀ y0 y1 y2 y3 y4 y5 y6 y7 y8, LeO (fencepostlaw10_ScApart.j1 k y0 y1 y2 y3 y4 y5 y6 y7 y8) (fencepostlaw10_ScApart.j1 (k + 1) y0 y1 y2 y3 y4 y5 y6 y7 y8)) ∧ (∀ y0 y1 y2 y3 y4 y5 y6 y7 y8 y9 y10 y11, LeO (fencepostlaw10_ScApart.l0 k y0 y1 y2 y3 y4 y5 y6 y7 y8 y9 y10 y11) (fencepostlaw10_ScApart.l0 (k + 1) y0 y1 y2 y3 y4 y5 y6 y7 y8 y9 y10 y11)) ∧ (∀ y0 y1 y2 y3 y4 y5 y6 y7 y8 y9 y10 y11, LeO (fencepostlaw10_ScApart.j3 k y0 y1 y2 y3 y4 y5 y6 y7 y8 y9 y10 y11) (fencepostlaw10_ScApart.j3 (k + 1) y0 y1 y2 y3 y4 y5 y6 y7 y8 y9 y10 y11)) ∧ (∀ y0 y1 y2 y3 y4 y5 y6 y7 y8 y9 y10 y11 y12, LeO (fencepostlaw10_ScApart.l1 k y0 y1 y2 y3 y4 y5 y6 y7 y8 y9 y10 y11 y12) (fencepostlaw10_ScApart.l1 (k + 1) y0 y1 y2 y3 y4 y5 y6 y7 y8 y9 y10 y11 y12))
 | 0 => ⟨fun _ _ _ _ _ _ _ r h => by simp [fencepostlaw10_ScApart.j0] at h, fun _ _ _ _ _ _ _ _ _ r h => by simp [fencepostlaw10_ScApart.j1] at h, fun _ _ _ _ _ _ _ _ _ _ _ _ r h => by simp [fencepostlaw10_ScApart.l0] at h, fun _ _ _ _ _ _ _ _ _ _ _ _ r h => by simp [fencepostlaw10_ScApart.j3] at h, fun _ _ _ _ _ _ _ _ _ _ _ _ _ r h => by simp [fencepostlaw10_ScApart.l1] at h⟩
 | k + 1 => by
  obtain ⟨ih0, ih1, ih2, ih3, ih4⟩ := fencepostlaw10_ScApart.mono_l k
  refine ⟨?_, ?_, ?_, ?_, ?_⟩
  ·intro y0 y1 y2 y3 y4 y5 y6
   unfold fencepostlaw10_ScApart.j0
   repeat' first
   | (with_reducible exact ih0 _ _ _ _ _ _ _)
   | (with_reducible exact ih1 _ _ _ _ _ _ _ _ _)
   | (with_reducible exact ih2 _ _ _ _ _ _ _ _ _ _ _ _)
   | (with_reducible exact ih3 _ _ _ _ _ _ _ _ _ _ _ _)
   | (with_reducible exact ih4 _ _ _ _ _ _ _ _ _ _ _ _ _)
   | (with_reducible exact fencepostlaw10_Great.mono _ _ _)
   | (with_reducible exact fencepostlaw10_Wide.mono _ _ _)
   | (with_reducible exact fencepostref10_Right.mono _ _ _ _ _)
   | (with_reducible exact fencepostref10_Same.mono _ _ _ _ _)
   | (with_reducible exact fencepostref10_SameTh.mono _ _ _ _ _ _ _ _ _)
   | (with_reducible exact LeO.refl _)
   | (with_reducible exact LeO.none _)
   | (with_reducible refine LeO.ite ?_ ?_)
   | (with_reducible refine LeO.bind ?_ (fun _ => ?_))
   | exact ih0 _ _ _ _ _ _ _
   | exact ih1 _ _ _ _ _ _ _ _ _
   | exact ih2 _ _ _ _ _ _ _ _ _ _ _ _
   | exact ih3 _ _ _ _ _ _ _ _ _ _ _ _
   | exact ih4 _ _ _ _ _ _ _ _ _ _ _ _ _
   | exact fencepostlaw10_Great.mono _ _ _
   | exact fencepostlaw10_Wide.mono _ _ _
   | exact fencepostref10_Right.mono _ _ _ _ _
   | exact fencepostref10_Same.mono _ _ _ _ _
   | exact fencepostref10_SameTh.mono _ _ _ _ _ _ _ _ _
   | exact LeO.none _
   | refine LeO.ite ?_ ?_
   | refine LeO.bind ?_ (fun _ => ?_)
  ·intro y0 y1 y2 y3 y4 y5 y6 y7 y8
   unfold fencepostlaw10_ScApart.j1
   repeat' first
   | (with_reducible exact ih0 _ _ _ _ _ _ _)
   | (with_reducible exact ih1 _ _ _ _ _ _ _ _ _)
   | (with_reducible exact ih2 _ _ _ _ _ _ _ _ _ _ _ _)
   | (with_reducible exact ih3 _ _ _ _ _ _ _ _ _ _ _ _)
   | (with_reducible exact ih4 _ _ _ _ _ _ _ _ _ _ _ _ _)
   | (with_reducible exact fencepostlaw10_Great.mono _ _ _)
   | (with_reducible exact fencepostlaw10_Wide.mono _ _ _)
   | (with_reducible exact fencepostref10_Right.mono _ _ _ _ _)
   | (with_reducible exact fencepostref10_Same.mono _ _ _ _ _)
   | (with_reducible exact fencepostref10_SameTh.mono _ _ _ _ _ _ _ _ _)
   | (with_reducible exact LeO.refl _)
   | (with_reducible exact LeO.none _)
   | (with_reducible refine LeO.ite ?_ ?_)
   | (with_reducible refine LeO.bind ?_ (fun _ => ?_))
   | exact ih0 _ _ _ _ _ _ _
   | exact ih1 _ _ _ _ _ _ _ _ _
   | exact ih2 _ _ _ _ _ _ _ _ _ _ _ _
   | exact ih3 _ _ _ _ _ _ _ _ _ _ _ _
   | exact ih4 _ _ _ _ _ _ _ _ _ _ _ _ _
   | exact fencepostlaw10_Great.mono _ _ _
   | exact fencepostlaw10_Wide.mono _ _ _
   | exact fencepostref10_Right.mono _ _ _ _ _
   | exact fencepostref10_Same.mono _ _ _ _ _
   | exact fencepostref10_SameTh.mono _ _ _ _ _ _ _ _ _
   | exact LeO.none _
   | refine LeO.ite ?_ ?_
   | refine LeO.bind ?_ (fun _ => ?_)
  ·intro y0 y1 y2 y3 y4 y5 y6 y7 y8 y9 y10 y11
   unfold fencepostlaw10_ScApart.l0
   repeat' first
   | (with_reducible exact ih0 _ _ _ _ _ _ _)
   | (with_reducible exact ih1 _ _ _ _ _ _ _ _ _)
   | (with_reducible exact ih2 _ _ _ _ _ _ _ _ _ _ _ _)
   | (with_reducible exact ih3 _ _ _ _ _ _ _ _ _ _ _ _)
   | (with_reducible exact ih4 _ _ _ _ _ _ _ _ _ _ _ _ _)
   | (with_reducible exact fencepostlaw10_Great.mono _ _ _)
   | (with_reducible exact fencepostlaw10_Wide.mono _ _ _)
   | (with_reducible exact fencepostref10_Right.mono _ _ _ _ _)
   | (with_reducible exact fencepostref10_Same.mono _ _ _ _ _)
   | (with_reducible exact fencepostref10_SameTh.mono _ _ _ _ _ _ _ _ _)
   | (with_reducible exact LeO.refl _)
   | (with_reducible exact LeO.none _)
   | (with_reducible refine LeO.ite ?_ ?_)
   | (with_reducible refine LeO.bind ?_ (fun _ => ?_))
   | exact ih0 _ _ _ _ _ _ _
   | exact ih1 _ _ _ _ _ _ _ _ _
   | exact ih2 _ _ _ _ _ _ _ _ _ _ _ _
   | exact ih3 _ _ _ _ _ _ _ _ _ _ _ _
   | exact ih4 _ _ _ _ _ _ _ _ _ _ _ _ _
   | exact fencepostlaw10_Great.mono _ _ _
   | exact fencepostlaw10_Wide.mono _ _ _
   | exact fencepostref10_Right.mono _ _ _ _ _
   | exact fencepostref10_Same.mono _ _ _ _ _
   | exact fencepostref10_SameTh.mono _ _ _ _ _ _ _ _ _
   | exact LeO.none _
   | refine LeO.ite ?_ ?_
   | refine LeO.bind ?_ (fun _ => ?_)
  ·intro y0 y1 y2 y3 y4 y5 y6 y7 y8 y9 y10 y11
   unfold fencepostlaw10_ScApart.j3
   repeat' first
   | (with_reducible exact ih0 _ _ _ _ _ _ _)
   | (with_reducible exact ih1 _ _ _ _ _ _ _ _ _)
   | (with_reducible exact ih2 _ _ _ _ _ _ _ _ _ _ _ _)
   | (with_reducible exact ih3 _ _ _ _ _ _ _ _ _ _ _ _)
   | (with_reducible exact ih4 _ _ _ _ _ _ _ _ _ _ _ _ _)
   | (with_reducible exact fencepostlaw10_Great.mono _ _ _)
   | (with_reducible exact fencepostlaw10_Wide.mono _ _ _)
   | (with_reducible exact fencepostref10_Right.mono _ _ _ _ _)
   | (with_reducible exact fencepostref10_Same.mono _ _ _ _ _)
   | (with_reducible exact fencepostref10_SameTh.mono _ _ _ _ _ _ _ _ _)
   | (with_reducible exact LeO.refl _)
   | (with_reducible exact LeO.none _)
   | (with_reducible refine LeO.ite ?_ ?_)
   | (with_reducible refine LeO.bind ?_ (fun _ => ?_))
   | exact ih0 _ _ _ _ _ _ _
   | exact ih1 _ _ _ _ _ _ _ _ _
   | exact ih2 _ _ _ _ _ _ _ _ _ _ _ _
   | exact ih3 _ _ _ _ _ _ _ _ _ _ _ _
   | exact ih4 _ _ _ _ _ _ _ _ _ _ _ _ _
   | exact fencepostlaw10_Great.mono _ _ _
   | exact fencepostlaw10_Wide.mono _ _ _
   | exact fencepostref10_Right.mono _ _ _ _ _
   | exact fencepostref10_Same.mono _ _ _ _ _
   | exact fencepostref10_SameTh.mono _ _ _ _ _ _ _ _ _
   | exact LeO.none _
   | refine LeO.ite ?_ ?_
   | refine LeO.bind ?_ (fun _ => ?_)
  ·intro y0 y1 y2 y3 y4 y5 y6 y7 y8 y9 y10 y11 y12
   unfold fencepostlaw10_ScApart.l1
   repeat' first
   | (with_reducible exact ih0 _ _ _ _ _ _ _)
   | (with_reducible exact ih1 _ _ _ _ _ _ _ _ _)
   | (with_reducible exact ih2 _ _ _ _ _ _ _ _ _ _ _ _)
   | (with_reducible exact ih3 _ _ _ _ _ _ _ _ _ _ _ _)
   | (with_reducible exact ih4 _ _ _ _ _ _ _ _ _ _ _ _ _)
   | (with_reducible exact fencepostlaw10_Great.mono _ _ _)
   | (with_reducible exact fencepostlaw10_Wide.mono _ _ _)
   | (with_reducible exact fencepostref10_Right.mono _ _ _ _ _)
   | (with_reducible exact fencepostref10_Same.mono _ _ _ _ _)
   | (with_reducible exact fencepostref10_SameTh.mono _ _ _ _ _ _ _ _ _)
   | (with_reducible exact LeO.refl _)
   | (with_reducible exact LeO.none _)
   | (with_reducible refine LeO.ite ?_ ?_)
   | (with_reducible refine LeO.bind ?_ (fun _ => ?_))
   | exact ih0 _ _ _ _ _ _ _
   | exact ih1 _ _ _ _ _ _ _ _ _
   | exact ih2 _ _ _ _ _ _ _ _ _ _ _ _
   | exact ih3 _ _ _ _ _ _ _ _ _ _ _ _
   | exact ih4 _ _ _ _ _ _ _ _ _ _ _ _ _
   | exact fencepostlaw10_Great.mono _ _ _
   | exact fencepostlaw10_Wide.mono _ _ _
   | exact fencepostref10_Right.mono _ _ _ _ _
   | exact fencepostref10_Same.mono _ _ _ _ _
   | exact fencepostref10_SameTh.mono _ _ _ _ _ _ _ _ _
   | exact LeO.none _
   | refine LeO.ite ?_ ?_
   | refine LeO.bind ?_ (fun _ => ?_)
theorem fencepostlaw10_ScApart.mono : ∀ a0 a1 a2 a3 a4 k, LeO (fencepostlaw10_ScApart.f k a0 a1 a2 a3 a4) (fencepostlaw10_ScApart.f (k + 1) a0 a1 a2 a3 a4) := by
 intro a0 a1 a2 a3 a4 k
 obtain ⟨ih0, ih1, ih2, ih3, ih4⟩ := fencepostlaw10_ScApart.mono_l k
 unfold fencepostlaw10_ScApart.f
 repeat' first
  | (with_reducible exact ih0 _ _ _ _ _ _ _)
  | (with_reducible exact ih1 _ _ _ _ _ _ _ _ _)
  | (with_reducible exact ih2 _ _ _ _ _ _ _ _ _ _ _ _)
  | (with_reducible exact ih3 _ _ _ _ _ _ _ _ _ _ _ _)
  | (with_reducible exact ih4 _ _ _ _ _ _ _ _ _ _ _ _ _)
  | (with_reducible exact fencepostlaw10_Great.mono _ _ _)
  | (with_reducible exact fencepostlaw10_Wide.mono _ _ _)
  | (with_reducible exact fencepostref10_Right.mono _ _ _ _ _)
  | (with_reducible exact fencepostref10_Same.mono _ _ _ _ _)
  | (with_reducible exact fencepostref10_SameTh.mono _ _ _ _ _ _ _ _ _)
  | (with_reducible exact LeO.refl _)
  | (with_reducible exact LeO.none _)
  | (with_reducible refine LeO.ite ?_ ?_)
  | (with_reducible refine LeO.bind ?_ (fun _ => ?_))
  | exact ih0 _ _ _ _ _ _ _
  | exact ih1 _ _ _ _ _ _ _ _ _
  | exact ih2 _ _ _ _ _ _ _ _ _ _ _ _
  | exact ih3 _ _ _ _ _ _ _ _ _ _ _ _
  | exact ih4 _ _ _ _ _ _ _ _ _ _ _ _ _
  | exact fencepostlaw10_Great.mono _ _ _
  | exact fencepostlaw10_Wide.mono _ _ _
  | exact fencepostref10_Right.mono _ _ _ _ _
  | exact fencepostref10_Same.mono _ _ _ _ _
  | exact fencepostref10_SameTh.mono _ _ _ _ _ _ _ _ _
  | exact LeO.none _
  | refine LeO.ite ?_ ?_
  | refine LeO.bind ?_ (fun _ => ?_)
def fencepostlaw10_ScApart.T13 : Bool × List (List Nat × List Nat) := (true, [([], []), ([], []), ([0, 1], [0, 1]), ([2], [2]), ([3], [3]), ([4, 3], [3, 4]), ([3], [3]), ([5, 6, 3], [3, 5, 6]), ([7, 3], [3, 7]), ([3], [3]), ([9, 3], [3, 9]), ([3], [3]), ([10, 11, 3], [3, 10, 11]), ([12, 3], [3, 12]), ([8, 13, 3, 3], [3, 8, 13]), ([14, 3], [3, 14]), ([3, 15], [3, 15])])
def fencepostlaw10_ScApart.B13 : List Nat := [0, 0, 3, 7, 15, 31, 15, 127, 255, 15, 527, 15, 3599, 7695, 16383, 32767, 65535]
theorem fencepostlaw10_ScApart.tab13 : rtab .any (opsOf Try.f4 13) = fencepostlaw10_ScApart.T13 := by kernel_rfl
theorem fencepostlaw10_ScApart.bits13 : waitsOk fencepostlaw10_ScApart.T13.2 fencepostlaw10_ScApart.B13 = true := by kernel_rfl
def fencepostlaw10_ScApart.T19 : Bool × List (List Nat × List Nat) := (true, [([], []), ([0], [0]), ([], []), ([1, 2], [1, 2]), ([3], [3]), ([], []), ([5], [5]), ([], []), ([6, 7], [6, 7]), ([8], [8]), ([4, 9], [4, 9]), ([10], [10]), ([11], [11]), ([12, 11], [11, 12]), ([13, 11, 11], [11, 13]), ([14], [14]), ([14], [14]), ([16, 14], [14, 16]), ([15, 17, 14], [14, 15, 17]), ([14, 18, 11], [11, 14, 18]), ([11, 19], [11, 19])])
def fencepostlaw10_ScApart.B19 : List Nat := [0, 1, 0, 7, 15, 0, 32, 0, 224, 480, 1023, 2047, 4095, 8191, 16383, 32767, 32767, 98303, 262143, 524287, 1048575]
theorem fencepostlaw10_ScApart.tab19 : rtab .any (opsOf Try.f4 19) = fencepostlaw10_ScApart.T19 := by kernel_rfl
theorem fencepostlaw10_ScApart.bits19 : waitsOk fencepostlaw10_ScApart.T19.2 fencepostlaw10_ScApart.B19 = true := by kernel_rfl
def fencepostlaw10_ScApart.T23 : Bool × List (List Nat × List Nat) := (true, [([], []), ([0], [0]), ([1], [1]), ([2, 1], [1, 2]), ([1], [1]), ([3, 4, 1], [1, 3, 4]), ([5, 1], [1, 5]), ([1], [1]), ([6, 7, 1, 1], [1, 6, 7]), ([1, 8], [1, 8]), ([9, 8, 0, 1, 2, 3, 4, 5, 6, 7, 8, 9], [9])])
def fencepostlaw10_ScApart.B23 : List Nat := [0, 1, 3, 7, 3, 31, 63, 3, 255, 511, 1023]
theorem fencepostlaw10_ScApart.tab23 : rtab .any (opsOf Try.f4 23) = fencepostlaw10_ScApart.T23 := by kernel_rfl
theorem fencepostlaw10_ScApart.bits23 : waitsOk fencepostlaw10_ScApart.T23.2 fencepostlaw10_ScApart.B23 = true := by kernel_rfl
set_option maxHeartbeats 8000000 in
set_option maxRecDepth 100000 in
theorem fencepostlaw10_ScApart.calls (k : Nat) (A0_0 : Option Addr) (c0_0 : Nat) (l0_0 : List Int) (A0_1 : Option Addr) (c0_1 : Nat) (l0_1 : List (List (S39))) (A1_0 : Option Addr) (c1_0 : Nat) (l1_0 : List Int) (A1_1 : Option Addr) (c1_1 : Nat) (l1_1 : List (S45)) (a2 : Int) (r : Bool) (w : World) (hr0_0 : Kd.C (Kd.int .i64) w A0_0 l0_0.length l0_0) (hc0_0 : l0_0.length ≤ c0_0) (hr0_1 : Kd.C (Kd.slice 39 k39) w A0_1 l0_1.length l0_1) (hc0_1 : l0_1.length ≤ c0_1) (hr1_0 : Kd.C (Kd.int .i64) w A1_0 l1_0.length l1_0) (hc1_0 : l1_0.length ≤ c1_0) (hr1_1 : Kd.C k45 w A1_1 l1_1.length l1_1) (hc1_1 : l1_1.length ≤ c1_1) (ht_ : r = true) (h : fencepostlaw10_ScApart.f k l0_0 l0_1 l1_0 l1_1 a2 = some r) :
 Calls Try.prog 4 #[.agg #[.slice A0_0 l0_0.length c0_0, .slice A0_1 l0_1.length c0_1], .agg #[.slice A1_0 l1_0.length c1_0, .slice A1_1 l1_1.length c1_1], .int .i64 a2] w fun e w' => e = .returned (.bool r) ∧ Below w.heap.size w w' := by
 have hu25 := Try.underlying25
 have hu28 := Try.underlying28
 have hu39 := Try.underlying39
 have hu45 := Try.underlying45
 have HR0_0 := Aside0.mk hr0_0
 have HC0_0 := Aside0.mk hc0_0
 clear hr0_0 hc0_0
 have HR0_1 := Aside0.mk hr0_1
 have HC0_1 := Aside0.mk hc0_1
 clear hr0_1 hc0_1
 have HR1_0 := Aside0.mk hr1_0
 have HC1_0 := Aside0.mk hc1_0
 clear hr1_0 hc1_0
 have HR1_1 := Aside0.mk hr1_1
 have HC1_1 := Aside0.mk hc1_1
 clear hr1_1 hc1_1
 have HB := Aside0.mk (Below.refl w.heap.size w)
 have HT := Aside0.mk ht_
 clear ht_
 have H : ((fencepostlaw10_head.f).bind fun t151 => ((fencepostlaw10_Great.f k l0_0 l0_1).bind fun t152 => (if t152 = true then (fencepostlaw10_ScApart.j0 k a2 t151 true l0_0 l0_1 l1_0 l1_1) else ((fencepostlaw10_Wide.f k l1_0 l1_1).bind fun t153 => (if t153 = true then (fencepostlaw10_ScApart.j0 k a2 t151 true l0_0 l0_1 l1_0 l1_1) else ((fencepostref10_Right.f k l0_0 l0_1 l1_0 l1_1).bind fun t154 => (fencepostlaw10_ScApart.j0 k a2 t151 (!t154) l0_0 l0_1 l1_0 l1_1))))))) = some r := h
 clear h
 replace H := Option.bind_eq_some_iff.mp H
 obtain ⟨t151, A40, H⟩ := H
 replace H : ((fencepostlaw10_Great.f k l0_0 l0_1).bind fun t152 => (if t152 = true then (fencepostlaw10_ScApart.j0 k a2 t151 true l0_0 l0_1 l1_0 l1_1) else ((fencepostlaw10_Wide.f k l1_0 l1_1).bind fun t153 => (if t153 = true then (fencepostlaw10_ScApart.j0 k a2 t151 true l0_0 l0_1 l1_0 l1_1) else ((fencepostref10_Right.f k l0_0 l0_1 l1_0 l1_1).bind fun t154 => (fencepostlaw10_ScApart.j0 k a2 t151 (!t154) l0_0 l0_1 l1_0 l1_1)))))) = some r := H
 have A4 := Aside0.mk A40
 clear A40
 have HC5 := Aside0.mk H
 clear H
 go_enter Try.func4, Try.ntmps4
 (try simp only [List.append_eq, List.cons_append, List.nil_append])
 go_upto_region 2 with (first | ((with_reducible refine gate_dst (N := 3) rfl ?_); (try (refine gate_guard (by rfl) ?_; dsimp only)); refine box_event ?hg (N := 3) ?hd (cs := #[.slice A0_0 l0_0.length c0_0, .slice A0_1 l0_1.length c0_1]) (t := 25) ?hr ?_; (case hd => rfl); (case hg => rfl); (case hr => first | (go_simp; done) | (go_simp; rfl)); intro gb149 hg w6 hbox hb; have n0_ := Aside0.mk (below_step (by repeat (first | (with_reducible first | exact HB.out | apply below_alloc | apply pw_below_drewN | apply below_drew1) | exact HB.out)) hb); have n1_ := Aside0.mk (hbox); have n2_ := Aside0.mk ((by rw [hg]; exact (below_size (by repeat (first | (with_reducible first | exact HB.out | apply below_alloc | apply pw_below_drewN | apply below_drew1) | exact HB.out))) : w.heap.size ≤ gb149)); have n3_ := Aside0.mk ((by rw [hg]; exact (below_size (by repeat (first | (with_reducible first | exact HB.out | apply below_alloc | apply pw_below_drewN | apply below_drew1) | exact HB.out))) : w.heap.size ≤ gb149)); clear HB; have HB := n0_; have BK149 := n1_; have GW149 := n2_; have GE149 := n3_; clear n0_ n1_ n2_ n3_; clear hb hbox hg) | ((with_reducible refine gate_dst (N := 4) rfl ?_); (try (refine gate_guard (by rfl) ?_; dsimp only)); refine box_event ?hg (N := 4) ?hd (cs := #[.slice A1_0 l1_0.length c1_0, .slice A1_1 l1_1.length c1_1]) (t := 28) ?hr ?_; (case hd => rfl); (case hg => rfl); (case hr => first | (go_simp; done) | (go_simp; rfl)); intro gb150 hg w7 hbox hb; have n0_ := Aside0.mk (blk_below (g := gb149) (o := .cells #[.slice A0_0 l0_0.length c0_0, .slice A0_1 l0_1.length c0_1] 25 (0, 0)) (by (with_reducible repeat (first | refine blk_drewN ?_ _ | refine blk_drew ?_ | refine blk_alloc ?_ _)); exact BK149.out) hb); have n1_ := Aside0.mk (below_step (by repeat (first | (with_reducible first | exact HB.out | apply below_alloc | apply pw_below_drewN | apply below_drew1 | refine below_set ?_ GE149.out) | exact HB.out)) hb); have n2_ := Aside0.mk (hbox); have n3_ := Aside0.mk ((by rw [hg]; exact (below_size (by repeat (first | (with_reducible first | exact HB.out | apply below_alloc | apply pw_below_drewN | apply below_drew1 | refine below_set ?_ GE149.out) | exact HB.out))) : w.heap.size ≤ gb150)); have n4_ := Aside0.mk ((by rw [hg]; exact (below_size (by repeat (first | (with_reducible first | exact HB.out | apply below_alloc | apply pw_below_drewN | apply below_drew1 | refine below_set ?_ GE149.out) | exact HB.out))) : w.heap.size ≤ gb150)); have n5_ := Aside0.mk ((by rw [hg]; exact Nat.ne_of_lt (blk_lt (g := gb149) (o := .cells #[.slice A0_0 l0_0.length c0_0, .slice A0_1 l0_1.length c0_1] 25 (0, 0)) (by (with_reducible repeat (first | refine blk_drewN ?_ _ | refine blk_drew ?_ | refine blk_alloc ?_ _)); exact BK149.out)) : gb149 ≠ gb150)); have n6_ := Aside0.mk ((by rw [hg]; exact Nat.ne_of_gt (blk_lt (g := gb149) (o := .cells #[.slice A0_0 l0_0.length c0_0, .slice A0_1 l0_1.length c0_1] 25 (0, 0)) (by (with_reducible repeat (first | refine blk_drewN ?_ _ | refine blk_drew ?_ | refine blk_alloc ?_ _)); exact BK149.out)) : gb150 ≠ gb149)); clear BK149; clear HB; have BK149 := n0_; have HB := n1_; have BK150 := n2_; have GW150 := n3_; have GE150 := n4_; have NB149_150 := n5_; have NB150_149 := n6_; clear n0_ n1_ n2_ n3_ n4_ n5_ n6_; clear hb hbox hg) | ((with_reducible refine gate_callee (f := 9) rfl ?_); refine goesL_ (some 16) rfl rfl Try.func9 (by kernel_rfl) rfl #[] rfl (by (try simp only [List.map_toArray, List.map_cons, List.map_nil]); first | done | rfl | (simp only [List.length_drop, List.length_take]; rfl)) ?_; (with_reducible refine (fencepostlaw10_head.calls  t151 _ A4.out).mono ?_); rintro e w8 ⟨rfl, hb⟩; refine ⟨_, rfl, ?_⟩; have n0_ := Aside0.mk (blk_below (g := gb149) (o := .cells #[.slice A0_0 l0_0.length c0_0, .slice A0_1 l0_1.length c0_1] 25 (0, 0)) (by (with_reducible repeat (first | refine blk_drewN ?_ _ | refine blk_drew ?_ | refine blk_alloc ?_ _)); exact BK149.out) hb); have n1_ := Aside0.mk (blk_below (g := gb150) (o := .cells #[.slice A1_0 l1_0.length c1_0, .slice A1_1 l1_1.length c1_1] 28 (0, 0)) (by (with_reducible repeat (first | refine blk_drewN ?_ _ | refine blk_drew ?_ | refine blk_alloc ?_ _)); exact BK150.out) hb); have n2_ := Aside0.mk (below_step (by repeat (first | (with_reducible first | exact HB.out | apply below_alloc | apply pw_below_drewN | apply below_drew1 | refine below_set ?_ GE149.out | refine below_set ?_ GE150.out) | exact HB.out)) hb); clear BK149; clear BK150; clear HB; have BK149 := n0_; have BK150 := n1_; have HB := n2_; clear n0_ n1_ n2_; (try clear hb); (try clear hb2); (try clear hk); (try clear hi)))
 (try simp only [Act.put, List.setIfInBounds_toArray, List.set_cons_zero, List.set_cons_succ])
 go_cut [28] (fun v28 wc => ∃ (kq : Nat) (x28_4 : Bool), v28 = .bool x28_4 ∧ Aside0 (fencepostlaw10_ScApart.j0 kq a2 t151 x28_4 l0_0 l0_1 l1_0 l1_1 = some r) ∧ Aside0 (kq ≤ k) ∧ Aside0 (wc.heap[gb149]? = some (.cells #[(.slice A0_0 l0_0.length c0_0), (.slice A0_1 l0_1.length c0_1)] 25 (0, 0))) ∧ Aside0 (wc.heap[gb150]? = some (.cells #[(.slice A1_0 l1_0.length c1_0), (.slice A1_1 l1_1.length c1_1)] 28 (0, 0))) ∧ Aside0 (Below w.heap.size w wc))
 case first =>
  have H := HC5.out
  clear HC5
  replace H := Option.bind_eq_some_iff.mp H
  obtain ⟨t152, A90, H⟩ := H
  replace H : (if t152 = true then (fencepostlaw10_ScApart.j0 k a2 t151 true l0_0 l0_1 l1_0 l1_1) else ((fencepostlaw10_Wide.f k l1_0 l1_1).bind fun t153 => (if t153 = true then (fencepostlaw10_ScApart.j0 k a2 t151 true l0_0 l0_1 l1_0 l1_1) else ((fencepostref10_Right.f k l0_0 l0_1 l1_0 l1_1).bind fun t154 => (fencepostlaw10_ScApart.j0 k a2 t151 (!t154) l0_0 l0_1 l1_0 l1_1))))) = some r := H
  have A9 := Aside0.mk A90
  clear A90
  by_cases c10 : t152 = true
  ·subst c10
   have H1 : (fencepostlaw10_ScApart.j0 k a2 t151 true l0_0 l0_1 l1_0 l1_1) = some r := by rw [if_pos rfl] at H; exact H
   clear H
   have H := H1
   clear H1
   have H' := Aside0.mk H
   clear H
   have hnb11 := NB149_150.out
   have hnc11 := NB150_149.out
   have hcz12_0 : w8.cell? ⟨gb149, 0, none⟩ = some (.slice A0_0 l0_0.length c0_0) := (blk_cell BK149.out 0).trans rfl
   have hcz12_1 : w8.cell? ⟨gb149, 1, none⟩ = some (.slice A0_1 l0_1.length c0_1) := (blk_cell BK149.out 1).trans rfl
   have hfz12_0 := blk_frozen BK149.out 0
   have hfz12_1 := blk_frozen BK149.out 1
   go_wp2_with (first | ((with_reducible refine gate_callee (f := 10) rfl ?_); refine goesL_ (some 18) rfl rfl Try.func10 (by kernel_rfl) rfl #[.agg #[.slice A0_0 l0_0.length c0_0, .slice A0_1 l0_1.length c0_1]] rfl (by (try simp only [List.map_toArray, List.map_cons, List.map_nil]); first | done | rfl | (simp only [List.length_drop, List.length_take]; rfl)) ?_; (with_reducible refine (fencepostlaw10_Great.calls k _ _ l0_0 _ _ l0_1 true _ ?side1 ?side2 ?side3 ?side4 A9.out).mono ?_); (case side1 => repeat (first | exact (Kd.C_below HR0_0.out HB.out) | (with_reducible refine Kd.C_alloc ?_ _) | (with_reducible refine Kd.C_drewN ?_ _) | (with_reducible refine Kd.C_drew ?_))); (case side2 => exact HC0_0.out); (case side3 => repeat (first | exact (Kd.C_below HR0_1.out HB.out) | (with_reducible refine Kd.C_alloc ?_ _) | (with_reducible refine Kd.C_drewN ?_ _) | (with_reducible refine Kd.C_drew ?_))); (case side4 => exact HC0_1.out); rintro e w13 ⟨rfl, hb⟩; refine ⟨_, rfl, ?_⟩; have n0_ := Aside0.mk (blk_below (g := gb149) (o := .cells #[.slice A0_0 l0_0.length c0_0, .slice A0_1 l0_1.length c0_1] 25 (0, 0)) (by (with_reducible repeat (first | refine blk_drewN ?_ _ | refine blk_drew ?_ | refine blk_alloc ?_ _)); exact BK149.out) hb); have n1_ := Aside0.mk (blk_below (g := gb150) (o := .cells #[.slice A1_0 l1_0.length c1_0, .slice A1_1 l1_1.length c1_1] 28 (0, 0)) (by (with_reducible repeat (first | refine blk_drewN ?_ _ | refine blk_drew ?_ | refine blk_alloc ?_ _)); exact BK150.out) hb); have n2_ := Aside0.mk (below_step (by repeat (first | (with_reducible first | exact HB.out | apply below_alloc | apply pw_below_drewN | apply below_drew1 | refine below_set ?_ GE149.out | refine below_set ?_ GE150.out) | exact HB.out)) hb); clear BK149; clear BK150; clear HB; have BK149 := n0_; have BK150 := n1_; have HB := n2_; clear n0_ n1_ n2_; (try clear hb); (try clear hb2); (try clear hk); (try clear hi)))
   go_meet
   case rel => exact ⟨_, (true), (by first | rfl | (simp; done) | (simp [*]; done)), H', ⟨by first | omega | exact Nat.le_refl _⟩, ⟨by (with_reducible repeat (first | refine blk_drewN ?_ _ | refine blk_drew ?_ | refine blk_alloc ?_ _)); exact BK149.out⟩, ⟨by (with_reducible repeat (first | refine blk_drewN ?_ _ | refine blk_drew ?_ | refine blk_alloc ?_ _)); exact BK150.out⟩, ⟨by repeat (first | (with_reducible first | exact HB.out | apply below_alloc | apply pw_below_drewN | apply below_drew1 | refine below_set ?_ GE149.out | refine below_set ?_ GE150.out) | exact HB.out)⟩⟩
  ·replace c10 := Bool.eq_false_iff.mpr c10
   subst c10
   have H1 : ((fencepostlaw10_Wide.f k l1_0 l1_1).bind fun t153 => (if t153 = true then (fencepostlaw10_ScApart.j0 k a2 t151 true l0_0 l0_1 l1_0 l1_1) else ((fencepostref10_Right.f k l0_0 l0_1 l1_0 l1_1).bind fun t154 => (fencepostlaw10_ScApart.j0 k a2 t151 (!t154) l0_0 l0_1 l1_0 l1_1)))) = some r := by rw [if_neg (show ¬ (false = true) by decide)] at H; exact H
   clear H
   have H := H1
   clear H1
   replace H := Option.bind_eq_some_iff.mp H
   obtain ⟨t153, A140, H⟩ := H
   replace H : (if t153 = true then (fencepostlaw10_ScApart.j0 k a2 t151 true l0_0 l0_1 l1_0 l1_1) else ((fencepostref10_Right.f k l0_0 l0_1 l1_0 l1_1).bind fun t154 => (fencepostlaw10_ScApart.j0 k a2 t151 (!t154) l0_0 l0_1 l1_0 l1_1))) = some r := H
   have A14 := Aside0.mk A140
   clear A140
   by_cases c15 : t153 = true
   ·subst c15
    have H1 : (fencepostlaw10_ScApart.j0 k a2 t151 true l0_0 l0_1 l1_0 l1_1) = some r := by rw [if_pos rfl] at H; exact H
    clear H
    have H := H1
    clear H1
    have H' := Aside0.mk H
    clear H
    have hnb16 := NB149_150.out
    have hnc16 := NB150_149.out
    have hcz17_0 : w8.cell? ⟨gb149, 0, none⟩ = some (.slice A0_0 l0_0.length c0_0) := (blk_cell BK149.out 0).trans rfl
    have hcz17_1 : w8.cell? ⟨gb149, 1, none⟩ = some (.slice A0_1 l0_1.length c0_1) := (blk_cell BK149.out 1).trans rfl
    have hfz17_0 := blk_frozen BK149.out 0
    have hfz17_1 := blk_frozen BK149.out 1
    go_wp2_with (first | ((with_reducible refine gate_callee (f := 10) rfl ?_); refine goesL_ (some 18) rfl rfl Try.func10 (by kernel_rfl) rfl #[.agg #[.slice A0_0 l0_0.length c0_0, .slice A0_1 l0_1.length c0_1]] rfl (by (try simp only [List.map_toArray, List.map_cons, List.map_nil]); first | done | rfl | (simp only [List.length_drop, List.length_take]; rfl)) ?_; (with_reducible refine (fencepostlaw10_Great.calls k _ _ l0_0 _ _ l0_1 false _ ?side1 ?side2 ?side3 ?side4 A9.out).mono ?_); (case side1 => repeat (first | exact (Kd.C_below HR0_0.out HB.out) | (with_reducible refine Kd.C_alloc ?_ _) | (with_reducible refine Kd.C_drewN ?_ _) | (with_reducible refine Kd.C_drew ?_))); (case side2 => exact HC0_0.out); (case side3 => repeat (first | exact (Kd.C_below HR0_1.out HB.out) | (with_reducible refine Kd.C_alloc ?_ _) | (with_reducible refine Kd.C_drewN ?_ _) | (with_reducible refine Kd.C_drew ?_))); (case side4 => exact HC0_1.out); rintro e w18 ⟨rfl, hb⟩; refine ⟨_, rfl, ?_⟩; have n0_ := Aside0.mk (blk_below (g := gb149) (o := .cells #[.slice A0_0 l0_0.length c0_0, .slice A0_1 l0_1.length c0_1] 25 (0, 0)) (by (with_reducible repeat (first | refine blk_drewN ?_ _ | refine blk_drew ?_ | refine blk_alloc ?_ _)); exact BK149.out) hb); have n1_ := Aside0.mk (blk_below (g := gb150) (o := .cells #[.slice A1_0 l1_0.length c1_0, .slice A1_1 l1_1.length c1_1] 28 (0, 0)) (by (with_reducible repeat (first | refine blk_drewN ?_ _ | refine blk_drew ?_ | refine blk_alloc ?_ _)); exact BK150.out) hb); have n2_ := Aside0.mk (below_step (by repeat (first | (with_reducible first | exact HB.out | apply below_alloc | apply pw_below_drewN | apply below_drew1 | refine below_set ?_ GE149.out | refine below_set ?_ GE150.out) | exact HB.out)) hb); clear BK149; clear BK150; clear HB; have BK149 := n0_; have BK150 := n1_; have HB := n2_; clear n0_ n1_ n2_; (try clear hb); (try clear hb2); (try clear hk); (try clear hi); have hcz19_0 : w18.cell? ⟨gb150, 0, none⟩ = some (.slice A1_0 l1_0.length c1_0) := (blk_cell BK150.out 0).trans rfl; have hcz19_1 : w18.cell? ⟨gb150, 1, none⟩ = some (.slice A1_1 l1_1.length c1_1) := (blk_cell BK150.out 1).trans rfl; have hfz19_0 := blk_frozen BK150.out 0; have hfz19_1 := blk_frozen BK150.out 1) | (go_at_call 11; (with_reducible refine (fencepostlaw10_Wide.calls k _ _ l1_0 _ _ l1_1 true _ ?side1 ?side2 ?side3 ?side4 A14.out).mono ?_); (case side1 => repeat (first | exact (Kd.C_below HR1_0.out HB.out) | (with_reducible refine Kd.C_alloc ?_ _) | (with_reducible refine Kd.C_drewN ?_ _) | (with_reducible refine Kd.C_drew ?_))); (case side2 => exact HC1_0.out); (case side3 => repeat (first | exact (Kd.C_below HR1_1.out HB.out) | (with_reducible refine Kd.C_alloc ?_ _) | (with_reducible refine Kd.C_drewN ?_ _) | (with_reducible refine Kd.C_drew ?_))); (case side4 => exact HC1_1.out); rintro e w20 ⟨rfl, hb⟩; have n0_ := Aside0.mk (blk_below (g := gb149) (o := .cells #[.slice A0_0 l0_0.length c0_0, .slice A0_1 l0_1.length c0_1] 25 (0, 0)) (by (with_reducible repeat (first | refine blk_drewN ?_ _ | refine blk_drew ?_ | refine blk_alloc ?_ _)); exact BK149.out) hb); have n1_ := Aside0.mk (blk_below (g := gb150) (o := .cells #[.slice A1_0 l1_0.length c1_0, .slice A1_1 l1_1.length c1_1] 28 (0, 0)) (by (with_reducible repeat (first | refine blk_drewN ?_ _ | refine blk_drew ?_ | refine blk_alloc ?_ _)); exact BK150.out) hb); have n2_ := Aside0.mk (below_step (by repeat (first | (with_reducible first | exact HB.out | apply below_alloc | apply pw_below_drewN | apply below_drew1 | refine below_set ?_ GE149.out | refine below_set ?_ GE150.out) | exact HB.out)) hb); clear BK149; clear BK150; clear HB; have BK149 := n0_; have BK150 := n1_; have HB := n2_; clear n0_ n1_ n2_; (try clear hb); (try clear hb2); (try clear hk); (try clear hi)))
    go_meet
    case rel => exact ⟨_, (true), (by first | rfl | (simp; done) | (simp [*]; done)), H', ⟨by first | omega | exact Nat.le_refl _⟩, ⟨by (with_reducible repeat (first | refine blk_drewN ?_ _ | refine blk_drew ?_ | refine blk_alloc ?_ _)); exact BK149.out⟩, ⟨by (with_reducible repeat (first | refine blk_drewN ?_ _ | refine blk_drew ?_ | refine blk_alloc ?_ _)); exact BK150.out⟩, ⟨by repeat (first | (with_reducible first | exact HB.out | apply below_alloc | apply pw_below_drewN | apply below_drew1 | refine below_set ?_ GE149.out | refine below_set ?_ GE150.out) | exact HB.out)⟩⟩
   ·replace c15 := Bool.eq_false_iff.mpr c15
    subst c15
    have H1 : ((fencepostref10_Right.f k l0_0 l0_1 l1_0 l1_1).bind fun t154 => (fencepostlaw10_ScApart.j0 k a2 t151 (!t154) l0_0 l0_1 l1_0 l1_1)) = some r := by rw [if_neg (show ¬ (false = true) by decide)] at H; exact H
    clear H
    have H := H1
    clear H1
    replace H := Option.bind_eq_some_iff.mp H
    obtain ⟨t154, A210, H⟩ := H
    replace H : (fencepostlaw10_ScApart.j0 k a2 t151 (!t154) l0_0 l0_1 l1_0 l1_1) = some r := H
    have A21 := Aside0.mk A210
    clear A210
    have H' := Aside0.mk H
    clear H
    have hnb22 := NB149_150.out
    have hnc22 := NB150_149.out
    have hcz23_0 : w8.cell? ⟨gb149, 0, none⟩ = some (.slice A0_0 l0_0.length c0_0) := (blk_cell BK149.out 0).trans rfl
    have hcz23_1 : w8.cell? ⟨gb149, 1, none⟩ = some (.slice A0_1 l0_1.length c0_1) := (blk_cell BK149.out 1).trans rfl
    have hfz23_0 := blk_frozen BK149.out 0
    have hfz23_1 := blk_frozen BK149.out 1
    go_wp2_with (first | ((with_reducible refine gate_callee (f := 10) rfl ?_); refine goesL_ (some 18) rfl rfl Try.func10 (by kernel_rfl) rfl #[.agg #[.slice A0_0 l0_0.length c0_0, .slice A0_1 l0_1.length c0_1]] rfl (by (try simp only [List.map_toArray, List.map_cons, List.map_nil]); first | done | rfl | (simp only [List.length_drop, List.length_take]; rfl)) ?_; (with_reducible refine (fencepostlaw10_Great.calls k _ _ l0_0 _ _ l0_1 false _ ?side1 ?side2 ?side3 ?side4 A9.out).mono ?_); (case side1 => repeat (first | exact (Kd.C_below HR0_0.out HB.out) | (with_reducible refine Kd.C_alloc ?_ _) | (with_reducible refine Kd.C_drewN ?_ _) | (with_reducible refine Kd.C_drew ?_))); (case side2 => exact HC0_0.out); (case side3 => repeat (first | exact (Kd.C_below HR0_1.out HB.out) | (with_reducible refine Kd.C_alloc ?_ _) | (with_reducible refine Kd.C_drewN ?_ _) | (with_reducible refine Kd.C_drew ?_))); (case side4 => exact HC0_1.out); rintro e w24 ⟨rfl, hb⟩; refine ⟨_, rfl, ?_⟩; have n0_ := Aside0.mk (blk_below (g := gb149) (o := .cells #[.slice A0_0 l0_0.length c0_0, .slice A0_1 l0_1.length c0_1] 25 (0, 0)) (by (with_reducible repeat (first | refine blk_drewN ?_ _ | refine blk_drew ?_ | refine blk_alloc ?_ _)); exact BK149.out) hb); have n1_ := Aside0.mk (blk_below (g := gb150) (o := .cells #[.slice A1_0 l1_0.length c1_0, .slice A1_1 l1_1.length c1_1] 28 (0, 0)) (by (with_reducible repeat (first | refine blk_drewN ?_ _ | refine blk_drew ?_ | refine blk_alloc ?_ _)); exact BK150.out) hb); have n2_ := Aside0.mk (below_step (by repeat (first | (with_reducible first | exact HB.out | apply below_alloc | apply pw_below_drewN | apply below_drew1 | refine below_set ?_ GE149.out | refine below_set ?_ GE150.out) | exact HB.out)) hb); clear BK149; clear BK150; clear HB; have BK149 := n0_; have BK150 := n1_; have HB := n2_; clear n0_ n1_ n2_; (try clear hb); (try clear hb2); (try clear hk); (try clear hi); have hcz25_0 : w24.cell? ⟨gb150, 0, none⟩ = some (.slice A1_0 l1_0.length c1_0) := (blk_cell BK150.out 0).trans rfl; have hcz25_1 : w24.cell? ⟨gb150, 1, none⟩ = some (.slice A1_1 l1_1.length c1_1) := (blk_cell BK150.out 1).trans rfl; have hfz25_0 := blk_frozen BK150.out 0; have hfz25_1 := blk_frozen BK150.out 1) | (go_at_call 11; (with_reducible refine (fencepostlaw10_Wide.calls k _ _ l1_0 _ _ l1_1 false _ ?side1 ?side2 ?side3 ?side4 A14.out).mono ?_); (case side1 => repeat (first | exact (Kd.C_below HR1_0.out HB.out) | (with_reducible refine Kd.C_alloc ?_ _) | (with_reducible refine Kd.C_drewN ?_ _) | (with_reducible refine Kd.C_drew ?_))); (case side2 => exact HC1_0.out); (case side3 => repeat (first | exact (Kd.C_below HR1_1.out HB.out) | (with_reducible refine Kd.C_alloc ?_ _) | (with_reducible refine Kd.C_drewN ?_ _) | (with_reducible refine Kd.C_drew ?_))); (case side4 => exact HC1_1.out); rintro e w26 ⟨rfl, hb⟩; have n0_ := Aside0.mk (blk_below (g := gb149) (o := .cells #[.slice A0_0 l0_0.length c0_0, .slice A0_1 l0_1.length c0_1] 25 (0, 0)) (by (with_reducible repeat (first | refine blk_drewN ?_ _ | refine blk_drew ?_ | refine blk_alloc ?_ _)); exact BK149.out) hb); have n1_ := Aside0.mk (blk_below (g := gb150) (o := .cells #[.slice A1_0 l1_0.length c1_0, .slice A1_1 l1_1.length c1_1] 28 (0, 0)) (by (with_reducible repeat (first | refine blk_drewN ?_ _ | refine blk_drew ?_ | refine blk_alloc ?_ _)); exact BK150.out) hb); have n2_ := Aside0.mk (below_step (by repeat (first | (with_reducible first | exact HB.out | apply below_alloc | apply pw_below_drewN | apply below_drew1 | refine below_set ?_ GE149.out | refine below_set ?_ GE150.out) | exact HB.out)) hb); clear BK149; clear BK150; clear HB; have BK149 := n0_; have BK150 := n1_; have HB := n2_; clear n0_ n1_ n2_; (try clear hb); (try clear hb2); (try clear hk); (try clear hi); have hcz27_0 : w26.cell? ⟨gb149, 0, none⟩ = some (.slice A0_0 l0_0.length c0_0) := (blk_cell BK149.out 0).trans rfl; have hcz27_1 : w26.cell? ⟨gb149, 1, none⟩ = some (.slice A0_1 l0_1.length c0_1) := (blk_cell BK149.out 1).trans rfl; have hfz27_0 := blk_frozen BK149.out 0; have hfz27_1 := blk_frozen BK149.out 1; have hcz28_0 : w26.cell? ⟨gb150, 0, none⟩ = some (.slice A1_0 l1_0.length c1_0) := (blk_cell BK150.out 0).trans rfl; have hcz28_1 : w26.cell? ⟨gb150, 1, none⟩ = some (.slice A1_1 l1_1.length c1_1) := (blk_cell BK150.out 1).trans rfl; have hfz28_0 := blk_frozen BK150.out 0; have hfz28_1 := blk_frozen BK150.out 1) | (go_at_call 13; (with_reducible refine (fencepostref10_Right.calls k _ _ l0_0 _ _ l0_1 _ _ l1_0 _ _ l1_1 t154 _ ?side1 ?side2 ?side3 ?side4 ?side5 ?side6 ?side7 ?side8 A21.out).mono ?_); (case side1 => repeat (first | exact (Kd.C_below HR0_0.out HB.out) | (with_reducible refine Kd.C_alloc ?_ _) | (with_reducible refine Kd.C_drewN ?_ _) | (with_reducible refine Kd.C_drew ?_))); (case side2 => exact HC0_0.out); (case side3 => repeat (first | exact (Kd.C_below HR0_1.out HB.out) | (with_reducible refine Kd.C_alloc ?_ _) | (with_reducible refine Kd.C_drewN ?_ _) | (with_reducible refine Kd.C_drew ?_))); (case side4 => exact HC0_1.out); (case side5 => repeat (first | exact (Kd.C_below HR1_0.out HB.out) | (with_reducible refine Kd.C_alloc ?_ _) | (with_reducible refine Kd.C_drewN ?_ _) | (with_reducible refine Kd.C_drew ?_))); (case side6 => exact HC1_0.out); (case side7 => repeat (first | exact (Kd.C_below HR1_1.out HB.out) | (with_reducible refine Kd.C_alloc ?_ _) | (with_reducible refine Kd.C_drewN ?_ _) | (with_reducible refine Kd.C_drew ?_))); (case side8 => exact HC1_1.out); rintro e w29 ⟨rfl, hb⟩; have n0_ := Aside0.mk (blk_below (g := gb149) (o := .cells #[.slice A0_0 l0_0.length c0_0, .slice A0_1 l0_1.length c0_1] 25 (0, 0)) (by (with_reducible repeat (first | refine blk_drewN ?_ _ | refine blk_drew ?_ | refine blk_alloc ?_ _)); exact BK149.out) hb); have n1_ := Aside0.mk (blk_below (g := gb150) (o := .cells #[.slice A1_0 l1_0.length c1_0, .slice A1_1 l1_1.length c1_1] 28 (0, 0)) (by (with_reducible repeat (first | refine blk_drewN ?_ _ | refine blk_drew ?_ | refine blk_alloc ?_ _)); exact BK150.out) hb); have n2_ := Aside0.mk (below_step (by repeat (first | (with_reducible first | exact HB.out | apply below_alloc | apply pw_below_drewN | apply below_drew1 | refine below_set ?_ GE149.out | refine below_set ?_ GE150.out) | exact HB.out)) hb); clear BK149; clear BK150; clear HB; have BK149 := n0_; have BK150 := n1_; have HB := n2_; clear n0_ n1_ n2_; (try clear hb); (try clear hb2); (try clear hk); (try clear hi)))
    go_meet
    case rel => exact ⟨_, (!t154), (by first | rfl | (simp; done) | (simp [*]; done)), H', ⟨by first | omega | exact Nat.le_refl _⟩, ⟨by (with_reducible repeat (first | refine blk_drewN ?_ _ | refine blk_drew ?_ | refine blk_alloc ?_ _)); exact BK149.out⟩, ⟨by (with_reducible repeat (first | refine blk_drewN ?_ _ | refine blk_drew ?_ | refine blk_alloc ?_ _)); exact BK150.out⟩, ⟨by repeat (first | (with_reducible first | exact HB.out | apply below_alloc | apply pw_below_drewN | apply below_drew1 | refine below_set ?_ GE149.out | refine below_set ?_ GE150.out) | exact HB.out)⟩⟩
 case rest =>
  clear HC5
  try clear c1
  try clear c2
  try clear p2
  try clear c4
  try clear c9
  try clear c10
  try clear c11
  try clear c15
  try clear c16
  try clear c22
  try clear hcz12_0
  try clear hcz12_1
  try clear hcz17_0
  try clear hcz17_1
  try clear hcz19_0
  try clear hcz19_1
  try clear hcz23_0
  try clear hcz23_1
  try clear hcz25_0
  try clear hcz25_1
  try clear hcz27_0
  try clear hcz27_1
  try clear hcz28_0
  try clear hcz28_1
  try clear hfz12_0
  try clear hfz12_1
  try clear hfz17_0
  try clear hfz17_1
  try clear hfz19_0
  try clear hfz19_1
  try clear hfz23_0
  try clear hfz23_1
  try clear hfz25_0
  try clear hfz25_1
  try clear hfz27_0
  try clear hfz27_1
  try clear hfz28_0
  try clear hfz28_1
  obtain ⟨kq, x28_4, rfl, HA, HJ4, BK149, BK150, HB⟩ := hcut
  cases kq with
  | zero => exact absurd HA.out (by simp [fencepostlaw10_ScApart.j0])
  | succ kj4 =>
   have H := HA.out
   clear HA
   simp only [fencepostlaw10_ScApart.j0] at H
   by_cases c30 : x28_4 = true
   ·subst c30
    have H1 : (some t151) = some r := by rw [if_pos rfl] at H; exact H
    clear H
    have H := H1
    clear H1
    obtain rfl := Option.some.inj H
    go_wp2
    go_ret
    exact ⟨by first | rfl | (simp [errW_none, errW_some] <;> rfl) | (simp [*, errW_none, errW_some] <;> rfl), by repeat (first | (with_reducible first | exact HB.out | apply below_alloc | apply pw_below_drewN | apply below_drew1 | refine below_set ?_ GE149.out | refine below_set ?_ GE150.out) | exact HB.out)⟩
   ·replace c30 := Bool.eq_false_iff.mpr c30
    subst c30
    have H1 : ((sc_Step.f l0_0 l0_1 l1_0 l1_1 a2).bind fun bt155 => (if bt155.2.2 = true then ((fencepostref10_Right.f kj4 l0_0 l0_1 bt155.1 bt155.2.1).bind fun t164 => (if t164 = true then (if a2 < 0 then (fencepostlaw10_ScApart.j1 kj4 a2 t151 true l0_0 l0_1 l1_0 l1_1 bt155.1 bt155.2.1) else (fencepostlaw10_ScApart.j1 kj4 a2 t151 (decide (a2 ≥ (l1_1.length : Int))) l0_0 l0_1 l1_0 l1_1 bt155.1 bt155.2.1)) else (fencepostlaw10_ScApart.j1 kj4 a2 t151 true l0_0 l0_1 l1_0 l1_1 bt155.1 bt155.2.1))) else (if t151 = true then ((fencepostref10_Same.f kj4 bt155.1 bt155.2.1 l1_0 l1_1).bind fun t163 => (some t163)) else (some false)))) = some r := by rw [if_neg (show ¬ (false = true) by decide)] at H; exact H
    clear H
    have H := H1
    clear H1
    replace H := Option.bind_eq_some_iff.mp H
    obtain ⟨⟨t155, t158, t161⟩, A310, H⟩ := H
    replace H : (if t161 = true then ((fencepostref10_Right.f kj4 l0_0 l0_1 t155 t158).bind fun t164 => (if t164 = true then (if a2 < 0 then (fencepostlaw10_ScApart.j1 kj4 a2 t151 true l0_0 l0_1 l1_0 l1_1 t155 t158) else (fencepostlaw10_ScApart.j1 kj4 a2 t151 (decide (a2 ≥ (l1_1.length : Int))) l0_0 l0_1 l1_0 l1_1 t155 t158)) else (fencepostlaw10_ScApart.j1 kj4 a2 t151 true l0_0 l0_1 l1_0 l1_1 t155 t158))) else (if t151 = true then ((fencepostref10_Same.f kj4 t155 t158 l1_0 l1_1).bind fun t163 => (some t163)) else (some false))) = some r := H
    have A31 := Aside0.mk A310
    clear A310
    by_cases c32 : t161 = true
    ·subst c32
     have H1 : ((fencepostref10_Right.f kj4 l0_0 l0_1 t155 t158).bind fun t164 => (if t164 = true then (if a2 < 0 then (fencepostlaw10_ScApart.j1 kj4 a2 t151 true l0_0 l0_1 l1_0 l1_1 t155 t158) else (fencepostlaw10_ScApart.j1 kj4 a2 t151 (decide (a2 ≥ (l1_1.length : Int))) l0_0 l0_1 l1_0 l1_1 t155 t158)) else (fencepostlaw10_ScApart.j1 kj4 a2 t151 true l0_0 l0_1 l1_0 l1_1 t155 t158))) = some r := by rw [if_pos rfl] at H; exact H
     clear H
     have H := H1
     clear H1
     have HC33 := Aside0.mk H
     clear H
     have hnb34 := NB149_150.out
     have hnc34 := NB150_149.out
     have hcz35_0 : wc.cell? ⟨gb149, 0, none⟩ = some (.slice A0_0 l0_0.length c0_0) := (blk_cell BK149.out 0).trans rfl
     have hcz35_1 : wc.cell? ⟨gb149, 1, none⟩ = some (.slice A0_1 l0_1.length c0_1) := (blk_cell BK149.out 1).trans rfl
     have hfz35_0 := blk_frozen BK149.out 0
     have hfz35_1 := blk_frozen BK149.out 1
     have hcz36_0 : wc.cell? ⟨gb150, 0, none⟩ = some (.slice A1_0 l1_0.length c1_0) := (blk_cell BK150.out 0).trans rfl
     have hcz36_1 : wc.cell? ⟨gb150, 1, none⟩ = some (.slice A1_1 l1_1.length c1_1) := (blk_cell BK150.out 1).trans rfl
     have hfz36_0 := blk_frozen BK150.out 0
     have hfz36_1 := blk_frozen BK150.out 1
     go_upto_region 7 with (first | ((with_reducible refine gate_callee (f := 17) rfl ?_); refine goesL_ (some 34) rfl rfl Try.func17 (by kernel_rfl) rfl #[.agg #[.slice A0_0 l0_0.length c0_0, .slice A0_1 l0_1.length c0_1], .agg #[.slice A1_0 l1_0.length c1_0, .slice A1_1 l1_1.length c1_1], .int .i64 a2] rfl (by (try simp only [List.map_toArray, List.map_cons, List.map_nil]); first | done | rfl | (simp only [List.length_drop, List.length_take]; rfl)) ?_; (with_reducible refine (sc_Step.calls _ _ l0_0 _ _ l0_1 _ _ l1_0 _ _ l1_1 a2 t155 t158 true _ ?side1 ?side2 ?side3 ?side4 ?side5 ?side6 ?side7 ?side8 A31.out).mono ?_); (case side1 => repeat (first | exact (Kd.C_below HR0_0.out HB.out) | (with_reducible refine Kd.C_alloc ?_ _) | (with_reducible refine Kd.C_drewN ?_ _) | (with_reducible refine Kd.C_drew ?_))); (case side2 => exact HC0_0.out); (case side3 => repeat (first | exact (Kd.C_below HR0_1.out HB.out) | (with_reducible refine Kd.C_alloc ?_ _) | (with_reducible refine Kd.C_drewN ?_ _) | (with_reducible refine Kd.C_drew ?_))); (case side4 => exact HC0_1.out); (case side5 => repeat (first | exact (Kd.C_below HR1_0.out HB.out) | (with_reducible refine Kd.C_alloc ?_ _) | (with_reducible refine Kd.C_drewN ?_ _) | (with_reducible refine Kd.C_drew ?_))); (case side6 => exact HC1_0.out); (case side7 => repeat (first | exact (Kd.C_below HR1_1.out HB.out) | (with_reducible refine Kd.C_alloc ?_ _) | (with_reducible refine Kd.C_drewN ?_ _) | (with_reducible refine Kd.C_drew ?_))); (case side8 => exact HC1_1.out); rintro e w37 ⟨v156, v159, rfl, ho0, ho1, hb⟩; refine ⟨_, rfl, ?_⟩; have n0_ := Aside0.mk (Kd.V_lower (Kd.V_mono (ok' := fun k_ => k_ ≠ gb149 ∧ k_ ≠ gb150) ho0 (fun k_ hk_ => ⟨(Kd.freshB (g := gb149) (o := .cells #[.slice A0_0 l0_0.length c0_0, .slice A0_1 l0_1.length c0_1] 25 (0, 0)) (by (with_reducible repeat (first | refine blk_drewN ?_ _ | refine blk_drew ?_ | refine blk_alloc ?_ _)); exact BK149.out) k_ hk_), (Kd.freshB (g := gb150) (o := .cells #[.slice A1_0 l1_0.length c1_0, .slice A1_1 l1_1.length c1_1] 28 (0, 0)) (by (with_reducible repeat (first | refine blk_drewN ?_ _ | refine blk_drew ?_ | refine blk_alloc ?_ _)); exact BK150.out) k_ hk_)⟩)) (below_size (by repeat (first | (with_reducible first | exact HB.out | apply below_alloc | apply pw_below_drewN | apply below_drew1 | refine below_set ?_ GE149.out | refine below_set ?_ GE150.out) | exact HB.out)))); have n1_ := Aside0.mk (Kd.V_lower (Kd.V_mono (ok' := fun k_ => k_ ≠ gb149 ∧ k_ ≠ gb150) ho1 (fun k_ hk_ => ⟨(Kd.freshB (g := gb149) (o := .cells #[.slice A0_0 l0_0.length c0_0, .slice A0_1 l0_1.length c0_1] 25 (0, 0)) (by (with_reducible repeat (first | refine blk_drewN ?_ _ | refine blk_drew ?_ | refine blk_alloc ?_ _)); exact BK149.out) k_ hk_), (Kd.freshB (g := gb150) (o := .cells #[.slice A1_0 l1_0.length c1_0, .slice A1_1 l1_1.length c1_1] 28 (0, 0)) (by (with_reducible repeat (first | refine blk_drewN ?_ _ | refine blk_drew ?_ | refine blk_alloc ?_ _)); exact BK150.out) k_ hk_)⟩)) (below_size (by repeat (first | (with_reducible first | exact HB.out | apply below_alloc | apply pw_below_drewN | apply below_drew1 | refine below_set ?_ GE149.out | refine below_set ?_ GE150.out) | exact HB.out)))); have n2_ := Aside0.mk (blk_below (g := gb149) (o := .cells #[.slice A0_0 l0_0.length c0_0, .slice A0_1 l0_1.length c0_1] 25 (0, 0)) (by (with_reducible repeat (first | refine blk_drewN ?_ _ | refine blk_drew ?_ | refine blk_alloc ?_ _)); exact BK149.out) hb); have n3_ := Aside0.mk (blk_below (g := gb150) (o := .cells #[.slice A1_0 l1_0.length c1_0, .slice A1_1 l1_1.length c1_1] 28 (0, 0)) (by (with_reducible repeat (first | refine blk_drewN ?_ _ | refine blk_drew ?_ | refine blk_alloc ?_ _)); exact BK150.out) hb); have n4_ := Aside0.mk (below_step (by repeat (first | (with_reducible first | exact HB.out | apply below_alloc | apply pw_below_drewN | apply below_drew1 | refine below_set ?_ GE149.out | refine below_set ?_ GE150.out) | exact HB.out)) hb); clear BK149; clear BK150; clear HB; have HO157 := n0_; have HO160 := n1_; have BK149 := n2_; have BK150 := n3_; have HB := n4_; clear n0_ n1_ n2_ n3_ n4_; (try clear hb); (try clear hb2); (try clear hk); (try clear hi); (try clear ho0); (try clear ho1)) | ((with_reducible refine gate_dst (N := 8) rfl ?_); (try (refine gate_guard (by rfl) ?_; dsimp only)); refine box_event ?hg (N := 8) ?hd (cs := #[.slice none 0 0, .slice none 0 0]) (t := 28) ?hr ?_; (case hd => rfl); (case hg => rfl); (case hr => first | (go_simp; done) | (go_simp; rfl)); intro gb162 hg w38 hbox hb; have n0_ := Aside0.mk (Kd.V_below (Kd.V_elderB (by (with_reducible repeat (first | apply Kd.V_alloc | apply Kd.V_drewN | apply Kd.V_drew)); exact HO157.out) gb162 (Nat.le_of_eq hg.symm)) hb); have n1_ := Aside0.mk (Kd.V_below (Kd.V_elderB (by (with_reducible repeat (first | apply Kd.V_alloc | apply Kd.V_drewN | apply Kd.V_drew)); exact HO160.out) gb162 (Nat.le_of_eq hg.symm)) hb); have n2_ := Aside0.mk (blk_below (g := gb149) (o := .cells #[.slice A0_0 l0_0.length c0_0, .slice A0_1 l0_1.length c0_1] 25 (0, 0)) (by (with_reducible repeat (first | refine blk_drewN ?_ _ | refine blk_drew ?_ | refine blk_alloc ?_ _)); exact BK149.out) hb); have n3_ := Aside0.mk (blk_below (g := gb150) (o := .cells #[.slice A1_0 l1_0.length c1_0, .slice A1_1 l1_1.length c1_1] 28 (0, 0)) (by (with_reducible repeat (first | refine blk_drewN ?_ _ | refine blk_drew ?_ | refine blk_alloc ?_ _)); exact BK150.out) hb); have n4_ := Aside0.mk (below_step (by repeat (first | (with_reducible first | exact HB.out | apply below_alloc | apply pw_below_drewN | apply below_drew1 | refine below_set ?_ GE149.out | refine below_set ?_ GE150.out) | exact HB.out)) hb); have n5_ := Aside0.mk (hbox); have n6_ := Aside0.mk ((by rw [hg]; exact (below_size (by repeat (first | (with_reducible first | exact HB.out | apply below_alloc | apply pw_below_drewN | apply below_drew1 | refine below_set ?_ GE149.out | refine below_set ?_ GE150.out) | exact HB.out))) : w.heap.size ≤ gb162)); have n7_ := Aside0.mk ((by rw [hg]; exact (below_size (by repeat (first | (with_reducible first | exact HB.out | apply below_alloc | apply pw_below_drewN | apply below_drew1 | refine below_set ?_ GE149.out | refine below_set ?_ GE150.out) | exact HB.out))) : w.heap.size ≤ gb162)); have n8_ := Aside0.mk ((by rw [hg]; exact Nat.ne_of_lt (blk_lt (g := gb149) (o := .cells #[.slice A0_0 l0_0.length c0_0, .slice A0_1 l0_1.length c0_1] 25 (0, 0)) (by (with_reducible repeat (first | refine blk_drewN ?_ _ | refine blk_drew ?_ | refine blk_alloc ?_ _)); exact BK149.out)) : gb149 ≠ gb162)); have n9_ := Aside0.mk ((by rw [hg]; exact Nat.ne_of_gt (blk_lt (g := gb149) (o := .cells #[.slice A0_0 l0_0.length c0_0, .slice A0_1 l0_1.length c0_1] 25 (0, 0)) (by (with_reducible repeat (first | refine blk_drewN ?_ _ | refine blk_drew ?_ | refine blk_alloc ?_ _)); exact BK149.out)) : gb162 ≠ gb149)); have n10_ := Aside0.mk ((by rw [hg]; exact Nat.ne_of_lt (blk_lt (g := gb150) (o := .cells #[.slice A1_0 l1_0.length c1_0, .slice A1_1 l1_1.length c1_1] 28 (0, 0)) (by (with_reducible repeat (first | refine blk_drewN ?_ _ | refine blk_drew ?_ | refine blk_alloc ?_ _)); exact BK150.out)) : gb150 ≠ gb162)); have n11_ := Aside0.mk ((by rw [hg]; exact Nat.ne_of_gt (blk_lt (g := gb150) (o := .cells #[.slice A1_0 l1_0.length c1_0, .slice A1_1 l1_1.length c1_1] 28 (0, 0)) (by (with_reducible repeat (first | refine blk_drewN ?_ _ | refine blk_drew ?_ | refine blk_alloc ?_ _)); exact BK150.out)) : gb162 ≠ gb150)); clear HO157; clear HO160; clear BK149; clear BK150; clear HB; have HO157 := n0_; have HO160 := n1_; have BK149 := n2_; have BK150 := n3_; have HB := n4_; have BK162 := n5_; have GW162 := n6_; have GE162 := n7_; have NB149_162 := n8_; have NB162_149 := n9_; have NB150_162 := n10_; have NB162_150 := n11_; clear n0_ n1_ n2_ n3_ n4_ n5_ n6_ n7_ n8_ n9_ n10_ n11_; clear hb hbox hg; obtain ⟨Ao39, co39, eo39⟩ := Kd.V_slice HO157.out; subst eo39; have hnb40 := NB162_149.out; have hnc40 := NB149_162.out; have hnb41 := NB162_150.out; have hnc41 := NB150_162.out; have hcz42_0 : w38.cell? ⟨gb162, 0, none⟩ = some (.slice none 0 0) := (blk_cell BK162.out 0).trans rfl; have hcz42_1 : w38.cell? ⟨gb162, 1, none⟩ = some (.slice none 0 0) := (blk_cell BK162.out 1).trans rfl; have hfz42_0 := blk_frozen BK162.out 0; have hfz42_1 := blk_frozen BK162.out 1; obtain ⟨Ao43, co43, eo43⟩ := Kd.V_slice HO160.out; subst eo43))
     (try simp only [Act.put, List.setIfInBounds_toArray, List.set_cons_zero, List.set_cons_succ])
     go_cut [59] (fun v59 wc => ∃ (kq : Nat) (x59_32 : Bool), v59 = .bool x59_32 ∧ Aside0 (fencepostlaw10_ScApart.j1 kq a2 t151 x59_32 l0_0 l0_1 l1_0 l1_1 t155 t158 = some r) ∧ Aside0 (kq ≤ kj4) ∧ Aside0 (Kd.V (Kd.int .i64) 3 wc w.heap.size (fun k_ => k_ ≠ gb149 ∧ k_ ≠ gb150 ∧ k_ ≠ gb162) (.slice Ao39 t155.length co39) t155) ∧ Aside0 (Kd.V k45 45 wc w.heap.size (fun k_ => k_ ≠ gb149 ∧ k_ ≠ gb150 ∧ k_ ≠ gb162) (.slice Ao43 t158.length co43) t158) ∧ Aside0 (wc.heap[gb149]? = some (.cells #[(.slice A0_0 l0_0.length c0_0), (.slice A0_1 l0_1.length c0_1)] 25 (0, 0))) ∧ Aside0 (wc.heap[gb150]? = some (.cells #[(.slice A1_0 l1_0.length c1_0), (.slice A1_1 l1_1.length c1_1)] 28 (0, 0))) ∧ Aside0 (wc.heap[gb162]? = some (.cells #[(.slice Ao39 t155.length co39), (.slice Ao43 t158.length co43)] 28 (0, 0))) ∧ Aside0 (Below w.heap.size w wc))
     case first =>
      have H := HC33.out
      clear HC33
      replace H := Option.bind_eq_some_iff.mp H
      obtain ⟨t164, A440, H⟩ := H
      replace H : (if t164 = true then (if a2 < 0 then (fencepostlaw10_ScApart.j1 kj4 a2 t151 true l0_0 l0_1 l1_0 l1_1 t155 t158) else (fencepostlaw10_ScApart.j1 kj4 a2 t151 (decide (a2 ≥ (l1_1.length : Int))) l0_0 l0_1 l1_0 l1_1 t155 t158)) else (fencepostlaw10_ScApart.j1 kj4 a2 t151 true l0_0 l0_1 l1_0 l1_1 t155 t158)) = some r := H
      have A44 := Aside0.mk A440
      clear A440
      by_cases c45 : t164 = true
      ·subst c45
       have H1 : (if a2 < 0 then (fencepostlaw10_ScApart.j1 kj4 a2 t151 true l0_0 l0_1 l1_0 l1_1 t155 t158) else (fencepostlaw10_ScApart.j1 kj4 a2 t151 (decide (a2 ≥ (l1_1.length : Int))) l0_0 l0_1 l1_0 l1_1 t155 t158)) = some r := by rw [if_pos rfl] at H; exact H
       clear H
       have H := H1
       clear H1
       by_cases c46 : a2 < 0
       ·rw [if_pos c46] at H
        have c46b0 : decide (a2 < 0) = true := decide_eq_true c46
        clear c46
        (first | rw [c46b0] | (simp only [i64_w, i32_w]; rw [c46b0]) | skip)
        have H' := Aside0.mk H
        clear H
        have hnb47 := NB149_150.out
        have hnc47 := NB150_149.out
        have hnb48 := NB149_162.out
        have hnc48 := NB162_149.out
        have hcz49_0 : w38.cell? ⟨gb149, 0, none⟩ = some (.slice A0_0 l0_0.length c0_0) := (blk_cell BK149.out 0).trans rfl
        have hcz49_1 : w38.cell? ⟨gb149, 1, none⟩ = some (.slice A0_1 l0_1.length c0_1) := (blk_cell BK149.out 1).trans rfl
        have hfz49_0 := blk_frozen BK149.out 0
        have hfz49_1 := blk_frozen BK149.out 1
        have hnb50 := NB162_150.out
        have hnc50 := NB150_162.out
        have hcz51_0 : w38.cell? ⟨gb162, 0, none⟩ = some (.slice none 0 0) := (blk_cell BK162.out 0).trans rfl
        have hcz51_1 : w38.cell? ⟨gb162, 1, none⟩ = some (.slice none 0 0) := (blk_cell BK162.out 1).trans rfl
        have hfz51_0 := blk_frozen BK162.out 0
        have hfz51_1 := blk_frozen BK162.out 1
        go_wp2_with (first | ((with_reducible refine gate_callee (f := 13) rfl ?_); refine goesL_ (some 47) rfl rfl Try.func13 (by kernel_rfl) rfl #[.agg #[.slice A0_0 l0_0.length c0_0, .slice A0_1 l0_1.length c0_1], .agg #[.slice Ao39 t155.length co39, .slice Ao43 t158.length co43]] rfl (by (try simp only [List.map_toArray, List.map_cons, List.map_nil]); first | done | rfl | (simp only [List.length_drop, List.length_take]; rfl)) ?_; (with_reducible refine (fencepostref10_Right.calls kj4 _ _ l0_0 _ _ l0_1 _ _ t155 _ _ t158 true _ ?side1 ?side2 ?side3 ?side4 ?side5 ?side6 ?side7 ?side8 A44.out).mono ?_); (case side1 => exact Kd.C_below HR0_0.out (by repeat (first | (with_reducible first | exact HB.out | apply below_alloc | apply pw_below_drewN | apply below_drew1 | refine below_set ?_ GE149.out | refine below_set ?_ GE150.out | refine below_set ?_ GE162.out) | exact HB.out))); (case side2 => exact HC0_0.out); (case side3 => exact Kd.C_below HR0_1.out (by repeat (first | (with_reducible first | exact HB.out | apply below_alloc | apply pw_below_drewN | apply below_drew1 | refine below_set ?_ GE149.out | refine below_set ?_ GE150.out | refine below_set ?_ GE162.out) | exact HB.out))); (case side4 => exact HC0_1.out); (case side5 => refine (Kd.V_reads' (e := 3) (base := w.heap.size) (ok := fun k_ => ((k_ ≠ gb149 ∧ k_ ≠ gb150) ∧ k_ ≠ gb162)) (n := t155.length) (c := co39) ?_).2.2; exact (by (with_reducible repeat (first | apply Kd.V_alloc | apply Kd.V_drewN | apply Kd.V_drew)); exact (Kd.V_mono (Kd.V_far (p := ⟨gb162, 1, none⟩) (Kd.V_far (p := ⟨gb162, 0, none⟩) (Kd.V_mono HO157.out (fun k_ hk => (⟨hk, hk.2⟩ : _ ∧ k_ ≠ gb162))) (fun _ hk => hk.2) (.slice Ao39 t155.length co39)) (fun _ hk => hk.2) (.slice Ao43 t158.length co43)) (fun _ h_ => h_.1)))); (case side6 => exact (Kd.V_reads' HO157.out).2.1); (case side7 => refine (Kd.V_reads' (e := 45) (base := w.heap.size) (ok := fun k_ => ((k_ ≠ gb149 ∧ k_ ≠ gb150) ∧ k_ ≠ gb162)) (n := t158.length) (c := co43) ?_).2.2; exact (by (with_reducible repeat (first | apply Kd.V_alloc | apply Kd.V_drewN | apply Kd.V_drew)); exact (Kd.V_mono (Kd.V_far (p := ⟨gb162, 1, none⟩) (Kd.V_far (p := ⟨gb162, 0, none⟩) (Kd.V_mono HO160.out (fun k_ hk => (⟨hk, hk.2⟩ : _ ∧ k_ ≠ gb162))) (fun _ hk => hk.2) (.slice Ao39 t155.length co39)) (fun _ hk => hk.2) (.slice Ao43 t158.length co43)) (fun _ h_ => h_.1)))); (case side8 => exact (Kd.V_reads' HO160.out).2.1); rintro e w52 ⟨rfl, hb⟩; refine ⟨_, rfl, ?_⟩; have n0_ := Aside0.mk (Kd.V_below (by (with_reducible repeat (first | apply Kd.V_alloc | apply Kd.V_drewN | apply Kd.V_drew)); exact (Kd.V_mono (Kd.V_far (p := ⟨gb162, 1, none⟩) (Kd.V_far (p := ⟨gb162, 0, none⟩) (Kd.V_mono HO157.out (fun k_ hk => (⟨hk, hk.2⟩ : _ ∧ k_ ≠ gb162))) (fun _ hk => hk.2) (.slice Ao39 t155.length co39)) (fun _ hk => hk.2) (.slice Ao43 t158.length co43)) (fun _ h_ => h_.1))) hb); have n1_ := Aside0.mk (Kd.V_below (by (with_reducible repeat (first | apply Kd.V_alloc | apply Kd.V_drewN | apply Kd.V_drew)); exact (Kd.V_mono (Kd.V_far (p := ⟨gb162, 1, none⟩) (Kd.V_far (p := ⟨gb162, 0, none⟩) (Kd.V_mono HO160.out (fun k_ hk => (⟨hk, hk.2⟩ : _ ∧ k_ ≠ gb162))) (fun _ hk => hk.2) (.slice Ao39 t155.length co39)) (fun _ hk => hk.2) (.slice Ao43 t158.length co43)) (fun _ h_ => h_.1))) hb); have n2_ := Aside0.mk (blk_below (g := gb149) (o := .cells #[.slice A0_0 l0_0.length c0_0, .slice A0_1 l0_1.length c0_1] 25 (0, 0)) (by (with_reducible repeat (first | refine blk_drewN ?_ _ | refine blk_drew ?_ | refine blk_alloc ?_ _)); refine blk_far ?_ NB149_162.out _; (with_reducible repeat (first | refine blk_drewN ?_ _ | refine blk_drew ?_ | refine blk_alloc ?_ _)); refine blk_far ?_ NB149_162.out _; (with_reducible repeat (first | refine blk_drewN ?_ _ | refine blk_drew ?_ | refine blk_alloc ?_ _)); exact BK149.out) hb); have n3_ := Aside0.mk (blk_below (g := gb150) (o := .cells #[.slice A1_0 l1_0.length c1_0, .slice A1_1 l1_1.length c1_1] 28 (0, 0)) (by (with_reducible repeat (first | refine blk_drewN ?_ _ | refine blk_drew ?_ | refine blk_alloc ?_ _)); refine blk_far ?_ NB150_162.out _; (with_reducible repeat (first | refine blk_drewN ?_ _ | refine blk_drew ?_ | refine blk_alloc ?_ _)); refine blk_far ?_ NB150_162.out _; (with_reducible repeat (first | refine blk_drewN ?_ _ | refine blk_drew ?_ | refine blk_alloc ?_ _)); exact BK150.out) hb); have n4_ := Aside0.mk (blk_below (g := gb162) (o := .cells #[.slice Ao39 t155.length co39, .slice Ao43 t158.length co43] 28 (0, 0)) (by (with_reducible repeat (first | refine blk_drewN ?_ _ | refine blk_drew ?_ | refine blk_alloc ?_ _)); refine blk_put (cs := #[.slice Ao39 t155.length co39, .slice none 0 0]) ?_ 1 _ rfl; (with_reducible repeat (first | refine blk_drewN ?_ _ | refine blk_drew ?_ | refine blk_alloc ?_ _)); refine blk_put (cs := #[.slice none 0 0, .slice none 0 0]) ?_ 0 _ rfl; (with_reducible repeat (first | refine blk_drewN ?_ _ | refine blk_drew ?_ | refine blk_alloc ?_ _)); exact BK162.out) hb); have n5_ := Aside0.mk (below_step (by repeat (first | (with_reducible first | exact HB.out | apply below_alloc | apply pw_below_drewN | apply below_drew1 | refine below_set ?_ GE149.out | refine below_set ?_ GE150.out | refine below_set ?_ GE162.out) | exact HB.out)) hb); clear HO157; clear HO160; clear BK149; clear BK150; clear BK162; clear HB; have HO157 := n0_; have HO160 := n1_; have BK149 := n2_; have BK150 := n3_; have BK162 := n4_; have HB := n5_; clear n0_ n1_ n2_ n3_ n4_ n5_; (try clear hb); (try clear hb2); (try clear hk); (try clear hi)))
        go_meet
        case rel => exact ⟨_, (true), (by first | rfl | (simp; done) | (simp [*]; done)), H', ⟨by have := HJ4.out; first | omega | exact Nat.le_refl _⟩, ⟨by (with_reducible repeat (first | apply Kd.V_alloc | apply Kd.V_drewN | apply Kd.V_drew)); exact Kd.V_mono HO157.out (fun _ hk => ⟨hk.1.1, ⟨hk.1.2, hk.2⟩⟩)⟩, ⟨by (with_reducible repeat (first | apply Kd.V_alloc | apply Kd.V_drewN | apply Kd.V_drew)); exact Kd.V_mono HO160.out (fun _ hk => ⟨hk.1.1, ⟨hk.1.2, hk.2⟩⟩)⟩, ⟨by (with_reducible repeat (first | refine blk_drewN ?_ _ | refine blk_drew ?_ | refine blk_alloc ?_ _)); exact BK149.out⟩, ⟨by (with_reducible repeat (first | refine blk_drewN ?_ _ | refine blk_drew ?_ | refine blk_alloc ?_ _)); exact BK150.out⟩, ⟨by (with_reducible repeat (first | refine blk_drewN ?_ _ | refine blk_drew ?_ | refine blk_alloc ?_ _)); exact BK162.out⟩, ⟨by repeat (first | (with_reducible first | exact HB.out | apply below_alloc | apply pw_below_drewN | apply below_drew1 | refine below_set ?_ GE149.out | refine below_set ?_ GE150.out | refine below_set ?_ GE162.out) | exact HB.out)⟩⟩
       ·rw [if_neg c46] at H
        have c46b0 : decide (a2 < 0) = false := decide_eq_false c46
        clear c46
        (first | rw [c46b0] | (simp only [i64_w, i32_w]; rw [c46b0]) | skip)
        have H' := Aside0.mk H
        clear H
        have hnb53 := NB149_150.out
        have hnc53 := NB150_149.out
        have hnb54 := NB149_162.out
        have hnc54 := NB162_149.out
        have hcz55_0 : w38.cell? ⟨gb149, 0, none⟩ = some (.slice A0_0 l0_0.length c0_0) := (blk_cell BK149.out 0).trans rfl
        have hcz55_1 : w38.cell? ⟨gb149, 1, none⟩ = some (.slice A0_1 l0_1.length c0_1) := (blk_cell BK149.out 1).trans rfl
        have hfz55_0 := blk_frozen BK149.out 0
        have hfz55_1 := blk_frozen BK149.out 1
        have hnb56 := NB162_150.out
        have hnc56 := NB150_162.out
        have hcz57_0 : w38.cell? ⟨gb162, 0, none⟩ = some (.slice none 0 0) := (blk_cell BK162.out 0).trans rfl
        have hcz57_1 : w38.cell? ⟨gb162, 1, none⟩ = some (.slice none 0 0) := (blk_cell BK162.out 1).trans rfl
        have hfz57_0 := blk_frozen BK162.out 0
        have hfz57_1 := blk_frozen BK162.out 1
        go_wp2_with (first | ((with_reducible refine gate_callee (f := 13) rfl ?_); refine goesL_ (some 47) rfl rfl Try.func13 (by kernel_rfl) rfl #[.agg #[.slice A0_0 l0_0.length c0_0, .slice A0_1 l0_1.length c0_1], .agg #[.slice Ao39 t155.length co39, .slice Ao43 t158.length co43]] rfl (by (try simp only [List.map_toArray, List.map_cons, List.map_nil]); first | done | rfl | (simp only [List.length_drop, List.length_take]; rfl)) ?_; (with_reducible refine (fencepostref10_Right.calls kj4 _ _ l0_0 _ _ l0_1 _ _ t155 _ _ t158 true _ ?side1 ?side2 ?side3 ?side4 ?side5 ?side6 ?side7 ?side8 A44.out).mono ?_); (case side1 => exact Kd.C_below HR0_0.out (by repeat (first | (with_reducible first | exact HB.out | apply below_alloc | apply pw_below_drewN | apply below_drew1 | refine below_set ?_ GE149.out | refine below_set ?_ GE150.out | refine below_set ?_ GE162.out) | exact HB.out))); (case side2 => exact HC0_0.out); (case side3 => exact Kd.C_below HR0_1.out (by repeat (first | (with_reducible first | exact HB.out | apply below_alloc | apply pw_below_drewN | apply below_drew1 | refine below_set ?_ GE149.out | refine below_set ?_ GE150.out | refine below_set ?_ GE162.out) | exact HB.out))); (case side4 => exact HC0_1.out); (case side5 => refine (Kd.V_reads' (e := 3) (base := w.heap.size) (ok := fun k_ => ((k_ ≠ gb149 ∧ k_ ≠ gb150) ∧ k_ ≠ gb162)) (n := t155.length) (c := co39) ?_).2.2; exact (by (with_reducible repeat (first | apply Kd.V_alloc | apply Kd.V_drewN | apply Kd.V_drew)); exact (Kd.V_mono (Kd.V_far (p := ⟨gb162, 1, none⟩) (Kd.V_far (p := ⟨gb162, 0, none⟩) (Kd.V_mono HO157.out (fun k_ hk => (⟨hk, hk.2⟩ : _ ∧ k_ ≠ gb162))) (fun _ hk => hk.2) (.slice Ao39 t155.length co39)) (fun _ hk => hk.2) (.slice Ao43 t158.length co43)) (fun _ h_ => h_.1)))); (case side6 => exact (Kd.V_reads' HO157.out).2.1); (case side7 => refine (Kd.V_reads' (e := 45) (base := w.heap.size) (ok := fun k_ => ((k_ ≠ gb149 ∧ k_ ≠ gb150) ∧ k_ ≠ gb162)) (n := t158.length) (c := co43) ?_).2.2; exact (by (with_reducible repeat (first | apply Kd.V_alloc | apply Kd.V_drewN | apply Kd.V_drew)); exact (Kd.V_mono (Kd.V_far (p := ⟨gb162, 1, none⟩) (Kd.V_far (p := ⟨gb162, 0, none⟩) (Kd.V_mono HO160.out (fun k_ hk => (⟨hk, hk.2⟩ : _ ∧ k_ ≠ gb162))) (fun _ hk => hk.2) (.slice Ao39 t155.length co39)) (fun _ hk => hk.2) (.slice Ao43 t158.length co43)) (fun _ h_ => h_.1)))); (case side8 => exact (Kd.V_reads' HO160.out).2.1); rintro e w58 ⟨rfl, hb⟩; refine ⟨_, rfl, ?_⟩; have n0_ := Aside0.mk (Kd.V_below (by (with_reducible repeat (first | apply Kd.V_alloc | apply Kd.V_drewN | apply Kd.V_drew)); exact (Kd.V_mono (Kd.V_far (p := ⟨gb162, 1, none⟩) (Kd.V_far (p := ⟨gb162, 0, none⟩) (Kd.V_mono HO157.out (fun k_ hk => (⟨hk, hk.2⟩ : _ ∧ k_ ≠ gb162))) (fun _ hk => hk.2) (.slice Ao39 t155.length co39)) (fun _ hk => hk.2) (.slice Ao43 t158.length co43)) (fun _ h_ => h_.1))) hb); have n1_ := Aside0.mk (Kd.V_below (by (with_reducible repeat (first | apply Kd.V_alloc | apply Kd.V_drewN | apply Kd.V_drew)); exact (Kd.V_mono (Kd.V_far (p := ⟨gb162, 1, none⟩) (Kd.V_far (p := ⟨gb162, 0, none⟩) (Kd.V_mono HO160.out (fun k_ hk => (⟨hk, hk.2⟩ : _ ∧ k_ ≠ gb162))) (fun _ hk => hk.2) (.slice Ao39 t155.length co39)) (fun _ hk => hk.2) (.slice Ao43 t158.length co43)) (fun _ h_ => h_.1))) hb); have n2_ := Aside0.mk (blk_below (g := gb149) (o := .cells #[.slice A0_0 l0_0.length c0_0, .slice A0_1 l0_1.length c0_1] 25 (0, 0)) (by (with_reducible repeat (first | refine blk_drewN ?_ _ | refine blk_drew ?_ | refine blk_alloc ?_ _)); refine blk_far ?_ NB149_162.out _; (with_reducible repeat (first | refine blk_drewN ?_ _ | refine blk_drew ?_ | refine blk_alloc ?_ _)); refine blk_far ?_ NB149_162.out _; (with_reducible repeat (first | refine blk_drewN ?_ _ | refine blk_drew ?_ | refine blk_alloc ?_ _)); exact BK149.out) hb); have n3_ := Aside0.mk (blk_below (g := gb150) (o := .cells #[.slice A1_0 l1_0.length c1_0, .slice A1_1 l1_1.length c1_1] 28 (0, 0)) (by (with_reducible repeat (first | refine blk_drewN ?_ _ | refine blk_drew ?_ | refine blk_alloc ?_ _)); refine blk_far ?_ NB150_162.out _; (with_reducible repeat (first | refine blk_drewN ?_ _ | refine blk_drew ?_ | refine blk_alloc ?_ _)); refine blk_far ?_ NB150_162.out _; (with_reducible repeat (first | refine blk_drewN ?_ _ | refine blk_drew ?_ | refine blk_alloc ?_ _)); exact BK150.out) hb); have n4_ := Aside0.mk (blk_below (g := gb162) (o := .cells #[.slice Ao39 t155.length co39, .slice Ao43 t158.length co43] 28 (0, 0)) (by (with_reducible repeat (first | refine blk_drewN ?_ _ | refine blk_drew ?_ | refine blk_alloc ?_ _)); refine blk_put (cs := #[.slice Ao39 t155.length co39, .slice none 0 0]) ?_ 1 _ rfl; (with_reducible repeat (first | refine blk_drewN ?_ _ | refine blk_drew ?_ | refine blk_alloc ?_ _)); refine blk_put (cs := #[.slice none 0 0, .slice none 0 0]) ?_ 0 _ rfl; (with_reducible repeat (first | refine blk_drewN ?_ _ | refine blk_drew ?_ | refine blk_alloc ?_ _)); exact BK162.out) hb); have n5_ := Aside0.mk (below_step (by repeat (first | (with_reducible first | exact HB.out | apply below_alloc | apply pw_below_drewN | apply below_drew1 | refine below_set ?_ GE149.out | refine below_set ?_ GE150.out | refine below_set ?_ GE162.out) | exact HB.out)) hb); clear HO157; clear HO160; clear BK149; clear BK150; clear BK162; clear HB; have HO157 := n0_; have HO160 := n1_; have BK149 := n2_; have BK150 := n3_; have BK162 := n4_; have HB := n5_; clear n0_ n1_ n2_ n3_ n4_ n5_; (try clear hb); (try clear hb2); (try clear hk); (try clear hi); have hcz59_0 : w58.cell? ⟨gb150, 0, none⟩ = some (.slice A1_0 l1_0.length c1_0) := (blk_cell BK150.out 0).trans rfl; have hcz59_1 : w58.cell? ⟨gb150, 1, none⟩ = some (.slice A1_1 l1_1.length c1_1) := (blk_cell BK150.out 1).trans rfl; have hfz59_0 := blk_frozen BK150.out 0; have hfz59_1 := blk_frozen BK150.out 1))
        go_meet
        case rel => exact ⟨_, (decide (a2 ≥ (l1_1.length : Int))), (by first | rfl | (simp; done) | (simp [*]; done)), H', ⟨by have := HJ4.out; first | omega | exact Nat.le_refl _⟩, ⟨by (with_reducible repeat (first | apply Kd.V_alloc | apply Kd.V_drewN | apply Kd.V_drew)); exact Kd.V_mono HO157.out (fun _ hk => ⟨hk.1.1, ⟨hk.1.2, hk.2⟩⟩)⟩, ⟨by (with_reducible repeat (first | apply Kd.V_alloc | apply Kd.V_drewN | apply Kd.V_drew)); exact Kd.V_mono HO160.out (fun _ hk => ⟨hk.1.1, ⟨hk.1.2, hk.2⟩⟩)⟩, ⟨by (with_reducible repeat (first | refine blk_drewN ?_ _ | refine blk_drew ?_ | refine blk_alloc ?_ _)); exact BK149.out⟩, ⟨by (with_reducible repeat (first | refine blk_drewN ?_ _ | refine blk_drew ?_ | refine blk_alloc ?_ _)); exact BK150.out⟩, ⟨by (with_reducible repeat (first | refine blk_drewN ?_ _ | refine blk_drew ?_ | refine blk_alloc ?_ _)); exact BK162.out⟩, ⟨by repeat (first | (with_reducible first | exact HB.out | apply below_alloc | apply pw_below_drewN | apply below_drew1 | refine below_set ?_ GE149.out | refine below_set ?_ GE150.out | refine below_set ?_ GE162.out) | exact HB.out)⟩⟩
      ·replace c45 := Bool.eq_false_iff.mpr c45
       subst c45
       have H1 : (fencepostlaw10_ScApart.j1 kj4 a2 t151 true l0_0 l0_1 l1_0 l1_1 t155 t158) = some r := by rw [if_neg (show ¬ (false = true) by decide)] at H; exact H
       clear H
       have H := H1
       clear H1
       have H' := Aside0.mk H
       clear H
       have hnb60 := NB149_150.out
       have hnc60 := NB150_149.out
       have hnb61 := NB149_162.out
       have hnc61 := NB162_149.out
       have hcz62_0 : w38.cell? ⟨gb149, 0, none⟩ = some (.slice A0_0 l0_0.length c0_0) := (blk_cell BK149.out 0).trans rfl
       have hcz62_1 : w38.cell? ⟨gb149, 1, none⟩ = some (.slice A0_1 l0_1.length c0_1) := (blk_cell BK149.out 1).trans rfl
       have hfz62_0 := blk_frozen BK149.out 0
       have hfz62_1 := blk_frozen BK149.out 1
       have hnb63 := NB162_150.out
       have hnc63 := NB150_162.out
       have hcz64_0 : w38.cell? ⟨gb162, 0, none⟩ = some (.slice none 0 0) := (blk_cell BK162.out 0).trans rfl
       have hcz64_1 : w38.cell? ⟨gb162, 1, none⟩ = some (.slice none 0 0) := (blk_cell BK162.out 1).trans rfl
       have hfz64_0 := blk_frozen BK162.out 0
       have hfz64_1 := blk_frozen BK162.out 1
       go_wp2_with (first | ((with_reducible refine gate_callee (f := 13) rfl ?_); refine goesL_ (some 47) rfl rfl Try.func13 (by kernel_rfl) rfl #[.agg #[.slice A0_0 l0_0.length c0_0, .slice A0_1 l0_1.length c0_1], .agg #[.slice Ao39 t155.length co39, .slice Ao43 t158.length co43]] rfl (by (try simp only [List.map_toArray, List.map_cons, List.map_nil]); first | done | rfl | (simp only [List.length_drop, List.length_take]; rfl)) ?_; (with_reducible refine (fencepostref10_Right.calls kj4 _ _ l0_0 _ _ l0_1 _ _ t155 _ _ t158 false _ ?side1 ?side2 ?side3 ?side4 ?side5 ?side6 ?side7 ?side8 A44.out).mono ?_); (case side1 => exact Kd.C_below HR0_0.out (by repeat (first | (with_reducible first | exact HB.out | apply below_alloc | apply pw_below_drewN | apply below_drew1 | refine below_set ?_ GE149.out | refine below_set ?_ GE150.out | refine below_set ?_ GE162.out) | exact HB.out))); (case side2 => exact HC0_0.out); (case side3 => exact Kd.C_below HR0_1.out (by repeat (first | (with_reducible first | exact HB.out | apply below_alloc | apply pw_below_drewN | apply below_drew1 | refine below_set ?_ GE149.out | refine below_set ?_ GE150.out | refine below_set ?_ GE162.out) | exact HB.out))); (case side4 => exact HC0_1.out); (case side5 => refine (Kd.V_reads' (e := 3) (base := w.heap.size) (ok := fun k_ => ((k_ ≠ gb149 ∧ k_ ≠ gb150) ∧ k_ ≠ gb162)) (n := t155.length) (c := co39) ?_).2.2; exact (by (with_reducible repeat (first | apply Kd.V_alloc | apply Kd.V_drewN | apply Kd.V_drew)); exact (Kd.V_mono (Kd.V_far (p := ⟨gb162, 1, none⟩) (Kd.V_far (p := ⟨gb162, 0, none⟩) (Kd.V_mono HO157.out (fun k_ hk => (⟨hk, hk.2⟩ : _ ∧ k_ ≠ gb162))) (fun _ hk => hk.2) (.slice Ao39 t155.length co39)) (fun _ hk => hk.2) (.slice Ao43 t158.length co43)) (fun _ h_ => h_.1)))); (case side6 => exact (Kd.V_reads' HO157.out).2.1); (case side7 => refine (Kd.V_reads' (e := 45) (base := w.heap.size) (ok := fun k_ => ((k_ ≠ gb149 ∧ k_ ≠ gb150) ∧ k_ ≠ gb162)) (n := t158.length) (c := co43) ?_).2.2; exact (by (with_reducible repeat (first | apply Kd.V_alloc | apply Kd.V_drewN | apply Kd.V_drew)); exact (Kd.V_mono (Kd.V_far (p := ⟨gb162, 1, none⟩) (Kd.V_far (p := ⟨gb162, 0, none⟩) (Kd.V_mono HO160.out (fun k_ hk => (⟨hk, hk.2⟩ : _ ∧ k_ ≠ gb162))) (fun _ hk => hk.2) (.slice Ao39 t155.length co39)) (fun _ hk => hk.2) (.slice Ao43 t158.length co43)) (fun _ h_ => h_.1)))); (case side8 => exact (Kd.V_reads' HO160.out).2.1); rintro e w65 ⟨rfl, hb⟩; refine ⟨_, rfl, ?_⟩; have n0_ := Aside0.mk (Kd.V_below (by (with_reducible repeat (first | apply Kd.V_alloc | apply Kd.V_drewN | apply Kd.V_drew)); exact (Kd.V_mono (Kd.V_far (p := ⟨gb162, 1, none⟩) (Kd.V_far (p := ⟨gb162, 0, none⟩) (Kd.V_mono HO157.out (fun k_ hk => (⟨hk, hk.2⟩ : _ ∧ k_ ≠ gb162))) (fun _ hk => hk.2) (.slice Ao39 t155.length co39)) (fun _ hk => hk.2) (.slice Ao43 t158.length co43)) (fun _ h_ => h_.1))) hb); have n1_ := Aside0.mk (Kd.V_below (by (with_reducible repeat (first | apply Kd.V_alloc | apply Kd.V_drewN | apply Kd.V_drew)); exact (Kd.V_mono (Kd.V_far (p := ⟨gb162, 1, none⟩) (Kd.V_far (p := ⟨gb162, 0, none⟩) (Kd.V_mono HO160.out (fun k_ hk => (⟨hk, hk.2⟩ : _ ∧ k_ ≠ gb162))) (fun _ hk => hk.2) (.slice Ao39 t155.length co39)) (fun _ hk => hk.2) (.slice Ao43 t158.length co43)) (fun _ h_ => h_.1))) hb); have n2_ := Aside0.mk (blk_below (g := gb149) (o := .cells #[.slice A0_0 l0_0.length c0_0, .slice A0_1 l0_1.length c0_1] 25 (0, 0)) (by (with_reducible repeat (first | refine blk_drewN ?_ _ | refine blk_drew ?_ | refine blk_alloc ?_ _)); refine blk_far ?_ NB149_162.out _; (with_reducible repeat (first | refine blk_drewN ?_ _ | refine blk_drew ?_ | refine blk_alloc ?_ _)); refine blk_far ?_ NB149_162.out _; (with_reducible repeat (first | refine blk_drewN ?_ _ | refine blk_drew ?_ | refine blk_alloc ?_ _)); exact BK149.out) hb); have n3_ := Aside0.mk (blk_below (g := gb150) (o := .cells #[.slice A1_0 l1_0.length c1_0, .slice A1_1 l1_1.length c1_1] 28 (0, 0)) (by (with_reducible repeat (first | refine blk_drewN ?_ _ | refine blk_drew ?_ | refine blk_alloc ?_ _)); refine blk_far ?_ NB150_162.out _; (with_reducible repeat (first | refine blk_drewN ?_ _ | refine blk_drew ?_ | refine blk_alloc ?_ _)); refine blk_far ?_ NB150_162.out _; (with_reducible repeat (first | refine blk_drewN ?_ _ | refine blk_drew ?_ | refine blk_alloc ?_ _)); exact BK150.out) hb); have n4_ := Aside0.mk (blk_below (g := gb162) (o := .cells #[.slice Ao39 t155.length co39, .slice Ao43 t158.length co43] 28 (0, 0)) (by (with_reducible repeat (first | refine blk_drewN ?_ _ | refine blk_drew ?_ | refine blk_alloc ?_ _)); refine blk_put (cs := #[.slice Ao39 t155.length co39, .slice none 0 0]) ?_ 1 _ rfl; (with_reducible repeat (first | refine blk_drewN ?_ _ | refine blk_drew ?_ | refine blk_alloc ?_ _)); refine blk_put (cs := #[.slice none 0 0, .slice none 0 0]) ?_ 0 _ rfl; (with_reducible repeat (first | refine blk_drewN ?_ _ | refine blk_drew ?_ | refine blk_alloc ?_ _)); exact BK162.out) hb); have n5_ := Aside0.mk (below_step (by repeat (first | (with_reducible first | exact HB.out | apply below_alloc | apply pw_below_drewN | apply below_drew1 | refine below_set ?_ GE149.out | refine below_set ?_ GE150.out | refine below_set ?_ GE162.out) | exact HB.out)) hb); clear HO157; clear HO160; clear BK149; clear BK150; clear BK162; clear HB; have HO157 := n0_; have HO160 := n1_; have BK149 := n2_; have BK150 := n3_; have BK162 := n4_; have HB := n5_; clear n0_ n1_ n2_ n3_ n4_ n5_; (try clear hb); (try clear hb2); (try clear hk); (try clear hi)))
       go_meet
       case rel => exact ⟨_, (true), (by first | rfl | (simp; done) | (simp [*]; done)), H', ⟨by have := HJ4.out; first | omega | exact Nat.le_refl _⟩, ⟨by (with_reducible repeat (first | apply Kd.V_alloc | apply Kd.V_drewN | apply Kd.V_drew)); exact Kd.V_mono HO157.out (fun _ hk => ⟨hk.1.1, ⟨hk.1.2, hk.2⟩⟩)⟩, ⟨by (with_reducible repeat (first | apply Kd.V_alloc | apply Kd.V_drewN | apply Kd.V_drew)); exact Kd.V_mono HO160.out (fun _ hk => ⟨hk.1.1, ⟨hk.1.2, hk.2⟩⟩)⟩, ⟨by (with_reducible repeat (first | refine blk_drewN ?_ _ | refine blk_drew ?_ | refine blk_alloc ?_ _)); exact BK149.out⟩, ⟨by (with_reducible repeat (first | refine blk_drewN ?_ _ | refine blk_drew ?_ | refine blk_alloc ?_ _)); exact BK150.out⟩, ⟨by (with_reducible repeat (first | refine blk_drewN ?_ _ | refine blk_drew ?_ | refine blk_alloc ?_ _)); exact BK162.out⟩, ⟨by repeat (first | (with_reducible first | exact HB.out | apply below_alloc | apply pw_below_drewN | apply below_drew1 | refine below_set ?_ GE149.out | refine below_set ?_ GE150.out | refine below_set ?_ GE162.out) | exact HB.out)⟩⟩
     case rest =>
      clear HC33
      try clear c1
      try clear c2
      try clear p2
      try clear c3
      try clear c4
      try clear c5
      try clear c6
      try clear c9
      try clear c10
      try clear c11
      try clear c13
      try clear c15
      try clear c16
      try clear c17
      try clear c22
      try clear c30
      try clear c32
      try clear c34
      try clear c40
      try clear c41
      try clear c45
      try clear c46
      try clear c46b0
      try clear c47
      try clear c48
      try clear c50
      try clear c53
      try clear c54
      try clear c56
      try clear c60
      try clear c61
      try clear c63
      try clear hcz12_0
      try clear hcz12_1
      try clear hcz17_0
      try clear hcz17_1
      try clear hcz19_0
      try clear hcz19_1
      try clear hcz23_0
      try clear hcz23_1
      try clear hcz25_0
      try clear hcz25_1
      try clear hcz27_0
      try clear hcz27_1
      try clear hcz28_0
      try clear hcz28_1
      try clear hcz35_0
      try clear hcz35_1
      try clear hcz36_0
      try clear hcz36_1
      try clear hcz42_0
      try clear hcz42_1
      try clear hcz49_0
      try clear hcz49_1
      try clear hcz51_0
      try clear hcz51_1
      try clear hcz55_0
      try clear hcz55_1
      try clear hcz57_0
      try clear hcz57_1
      try clear hcz59_0
      try clear hcz59_1
      try clear hcz62_0
      try clear hcz62_1
      try clear hcz64_0
      try clear hcz64_1
      try clear hfz12_0
      try clear hfz12_1
      try clear hfz17_0
      try clear hfz17_1
      try clear hfz19_0
      try clear hfz19_1
      try clear hfz23_0
      try clear hfz23_1
      try clear hfz25_0
      try clear hfz25_1
      try clear hfz27_0
      try clear hfz27_1
      try clear hfz28_0
      try clear hfz28_1
      try clear hfz35_0
      try clear hfz35_1
      try clear hfz36_0
      try clear hfz36_1
      try clear hfz42_0
      try clear hfz42_1
      try clear hfz49_0
      try clear hfz49_1
      try clear hfz51_0
      try clear hfz51_1
      try clear hfz55_0
      try clear hfz55_1
      try clear hfz57_0
      try clear hfz57_1
      try clear hfz59_0
      try clear hfz59_1
      try clear hfz62_0
      try clear hfz62_1
      try clear hfz64_0
      try clear hfz64_1
      try clear p2
      obtain ⟨kq, x59_32, rfl, HA, HJ32, HO_163000, HO_163001, BK149, BK150, BK162, HB⟩ := hcut
      cases kq with
      | zero => exact absurd HA.out (by simp [fencepostlaw10_ScApart.j1])
      | succ kj32 =>
       have H := HA.out
       clear HA
       simp only [fencepostlaw10_ScApart.j1] at H
       by_cases c66 : x59_32 = true
       ·subst c66
        have H1 : (some false) = some r := by rw [if_pos rfl] at H; exact H
        clear H
        have H := H1
        clear H1
        exact absurd ((Option.some.inj H).trans HT.out) (by simp)
       ·replace c66 := Bool.eq_false_iff.mpr c66
        subst c66
        have H1 : ((fencepostref10_At.f l0_0 l0_1 l1_0 l1_1 a2).bind fun bt165 => (fencepostlaw10_ScApart.l0 kj32 a2 t151 0 l1_0 l1_1 t155 t158 bt165.1 bt165.2.1 bt165.2.2.1 bt165.2.2.2.1 bt165.2.2.2.2.1)) = some r := by rw [if_neg (show ¬ (false = true) by decide)] at H; exact H
        clear H
        have H := H1
        clear H1
        replace H := Option.bind_eq_some_iff.mp H
        obtain ⟨⟨t165, t166, t167, t168, t169, t170⟩, A670, H⟩ := H
        replace H : (fencepostlaw10_ScApart.l0 kj32 a2 t151 0 l1_0 l1_1 t155 t158 t165 t166 t167 t168 t169) = some r := H
        have A67 := Aside0.mk A670
        clear A670
        have H' := Aside0.mk H
        clear H
        have hnb68 := NB149_150.out
        have hnc68 := NB150_149.out
        have hnb69 := NB149_162.out
        have hnc69 := NB162_149.out
        have hcz70_0 : wc.cell? ⟨gb149, 0, none⟩ = some (.slice A0_0 l0_0.length c0_0) := (blk_cell BK149.out 0).trans rfl
        have hcz70_1 : wc.cell? ⟨gb149, 1, none⟩ = some (.slice A0_1 l0_1.length c0_1) := (blk_cell BK149.out 1).trans rfl
        have hfz70_0 := blk_frozen BK149.out 0
        have hfz70_1 := blk_frozen BK149.out 1
        have hnb71 := NB150_162.out
        have hnc71 := NB162_150.out
        have hcz72_0 : wc.cell? ⟨gb150, 0, none⟩ = some (.slice A1_0 l1_0.length c1_0) := (blk_cell BK150.out 0).trans rfl
        have hcz72_1 : wc.cell? ⟨gb150, 1, none⟩ = some (.slice A1_1 l1_1.length c1_1) := (blk_cell BK150.out 1).trans rfl
        have hfz72_0 := blk_frozen BK150.out 0
        have hfz72_1 := blk_frozen BK150.out 1
        go_wp2_with (first | ((with_reducible refine gate_callee (f := 19) rfl ?_); refine goesL_ (some 64) rfl rfl Try.func19 (by kernel_rfl) rfl #[.agg #[.slice A0_0 l0_0.length c0_0, .slice A0_1 l0_1.length c0_1], .agg #[.slice A1_0 l1_0.length c1_0, .slice A1_1 l1_1.length c1_1], .int .i64 a2] rfl (by (try simp only [List.map_toArray, List.map_cons, List.map_nil]); first | done | rfl | (simp only [List.length_drop, List.length_take]; rfl)) ?_; (with_reducible refine (fencepostref10_At.calls _ _ l0_0 _ _ l0_1 _ _ l1_0 _ _ l1_1 a2 t165 t166 t167 t168 t169 t170 _ ?side1 ?side2 ?side3 ?side4 ?side5 ?side6 ?side7 ?side8 A67.out).mono ?_); (case side1 => repeat (first | exact (Kd.C_below HR0_0.out HB.out) | (with_reducible refine Kd.C_alloc ?_ _) | (with_reducible refine Kd.C_drewN ?_ _) | (with_reducible refine Kd.C_drew ?_))); (case side2 => exact HC0_0.out); (case side3 => repeat (first | exact (Kd.C_below HR0_1.out HB.out) | (with_reducible refine Kd.C_alloc ?_ _) | (with_reducible refine Kd.C_drewN ?_ _) | (with_reducible refine Kd.C_drew ?_))); (case side4 => exact HC0_1.out); (case side5 => repeat (first | exact (Kd.C_below HR1_0.out HB.out) | (with_reducible refine Kd.C_alloc ?_ _) | (with_reducible refine Kd.C_drewN ?_ _) | (with_reducible refine Kd.C_drew ?_))); (case side6 => exact HC1_0.out); (case side7 => repeat (first | exact (Kd.C_below HR1_1.out HB.out) | (with_reducible refine Kd.C_alloc ?_ _) | (with_reducible refine Kd.C_drewN ?_ _) | (with_reducible refine Kd.C_drew ?_))); (case side8 => exact HC1_1.out); rintro e w73 ⟨rfl, hb⟩; refine ⟨_, rfl, ?_⟩; have n0_ := Aside0.mk (Kd.V_below (by (with_reducible repeat (first | apply Kd.V_alloc | apply Kd.V_drewN | apply Kd.V_drew)); exact HO_163000.out) hb); have n1_ := Aside0.mk (Kd.V_below (by (with_reducible repeat (first | apply Kd.V_alloc | apply Kd.V_drewN | apply Kd.V_drew)); exact HO_163001.out) hb); have n2_ := Aside0.mk (blk_below (g := gb149) (o := .cells #[.slice A0_0 l0_0.length c0_0, .slice A0_1 l0_1.length c0_1] 25 (0, 0)) (by (with_reducible repeat (first | refine blk_drewN ?_ _ | refine blk_drew ?_ | refine blk_alloc ?_ _)); exact BK149.out) hb); have n3_ := Aside0.mk (blk_below (g := gb150) (o := .cells #[.slice A1_0 l1_0.length c1_0, .slice A1_1 l1_1.length c1_1] 28 (0, 0)) (by (with_reducible repeat (first | refine blk_drewN ?_ _ | refine blk_drew ?_ | refine blk_alloc ?_ _)); exact BK150.out) hb); have n4_ := Aside0.mk (blk_below (g := gb162) (o := .cells #[.slice Ao39 t155.length co39, .slice Ao43 t158.length co43] 28 (0, 0)) (by (with_reducible repeat (first | refine blk_drewN ?_ _ | refine blk_drew ?_ | refine blk_alloc ?_ _)); exact BK162.out) hb); have n5_ := Aside0.mk (below_step (by repeat (first | (with_reducible first | exact HB.out | apply below_alloc | apply pw_below_drewN | apply below_drew1 | refine below_set ?_ GE149.out | refine below_set ?_ GE150.out | refine below_set ?_ GE162.out) | exact HB.out)) hb); clear HO_163000; clear HO_163001; clear BK149; clear BK150; clear BK162; clear HB; have HO_163000 := n0_; have HO_163001 := n1_; have BK149 := n2_; have BK150 := n3_; have BK162 := n4_; have HB := n5_; clear n0_ n1_ n2_ n3_ n4_ n5_; (try clear hb); (try clear hb2); (try clear hk); (try clear hi)) | ((with_reducible refine gate_dst (N := 10) rfl ?_); (try (refine gate_guard (by rfl) ?_; dsimp only)); refine box_event ?hg (N := 10) ?hd (cs := #[.int .i64 0, .int .i64 0, .int .i64 0, .int .i64 0, .int .i64 0]) (t := 39) ?hr ?_; (case hd => rfl); (case hg => rfl); (case hr => first | (go_simp; done) | (go_simp; rfl)); intro gb171 hg w74 hbox hb; have n0_ := Aside0.mk (Kd.V_below (Kd.V_elderB (by (with_reducible repeat (first | apply Kd.V_alloc | apply Kd.V_drewN | apply Kd.V_drew)); exact HO_163000.out) gb171 (Nat.le_of_eq hg.symm)) hb); have n1_ := Aside0.mk (Kd.V_below (Kd.V_elderB (by (with_reducible repeat (first | apply Kd.V_alloc | apply Kd.V_drewN | apply Kd.V_drew)); exact HO_163001.out) gb171 (Nat.le_of_eq hg.symm)) hb); have n2_ := Aside0.mk (blk_below (g := gb149) (o := .cells #[.slice A0_0 l0_0.length c0_0, .slice A0_1 l0_1.length c0_1] 25 (0, 0)) (by (with_reducible repeat (first | refine blk_drewN ?_ _ | refine blk_drew ?_ | refine blk_alloc ?_ _)); exact BK149.out) hb); have n3_ := Aside0.mk (blk_below (g := gb150) (o := .cells #[.slice A1_0 l1_0.length c1_0, .slice A1_1 l1_1.length c1_1] 28 (0, 0)) (by (with_reducible repeat (first | refine blk_drewN ?_ _ | refine blk_drew ?_ | refine blk_alloc ?_ _)); exact BK150.out) hb); have n4_ := Aside0.mk (blk_below (g := gb162) (o := .cells #[.slice Ao39 t155.length co39, .slice Ao43 t158.length co43] 28 (0, 0)) (by (with_reducible repeat (first | refine blk_drewN ?_ _ | refine blk_drew ?_ | refine blk_alloc ?_ _)); exact BK162.out) hb); have n5_ := Aside0.mk (below_step (by repeat (first | (with_reducible first | exact HB.out | apply below_alloc | apply pw_below_drewN | apply below_drew1 | refine below_set ?_ GE149.out | refine below_set ?_ GE150.out | refine below_set ?_ GE162.out) | exact HB.out)) hb); have n6_ := Aside0.mk (hbox); have n7_ := Aside0.mk ((by rw [hg]; exact (below_size (by repeat (first | (with_reducible first | exact HB.out | apply below_alloc | apply pw_below_drewN | apply below_drew1 | refine below_set ?_ GE149.out | refine below_set ?_ GE150.out | refine below_set ?_ GE162.out) | exact HB.out))) : w.heap.size ≤ gb171)); have n8_ := Aside0.mk ((by rw [hg]; exact (below_size (by repeat (first | (with_reducible first | exact HB.out | apply below_alloc | apply pw_below_drewN | apply below_drew1 | refine below_set ?_ GE149.out | refine below_set ?_ GE150.out | refine below_set ?_ GE162.out) | exact HB.out))) : w.heap.size ≤ gb171)); have n9_ := Aside0.mk ((by rw [hg]; exact Nat.ne_of_lt (blk_lt (g := gb149) (o := .cells #[.slice A0_0 l0_0.length c0_0, .slice A0_1 l0_1.length c0_1] 25 (0, 0)) (by (with_reducible repeat (first | refine blk_drewN ?_ _ | refine blk_drew ?_ | refine blk_alloc ?_ _)); exact BK149.out)) : gb149 ≠ gb171)); have n10_ := Aside0.mk ((by rw [hg]; exact Nat.ne_of_gt (blk_lt (g := gb149) (o := .cells #[.slice A0_0 l0_0.length c0_0, .slice A0_1 l0_1.length c0_1] 25 (0, 0)) (by (with_reducible repeat (first | refine blk_drewN ?_ _ | refine blk_drew ?_ | refine blk_alloc ?_ _)); exact BK149.out)) : gb171 ≠ gb149)); have n11_ := Aside0.mk ((by rw [hg]; exact Nat.ne_of_lt (blk_lt (g := gb150) (o := .cells #[.slice A1_0 l1_0.length c1_0, .slice A1_1 l1_1.length c1_1] 28 (0, 0)) (by (with_reducible repeat (first | refine blk_drewN ?_ _ | refine blk_drew ?_ | refine blk_alloc ?_ _)); exact BK150.out)) : gb150 ≠ gb171)); have n12_ := Aside0.mk ((by rw [hg]; exact Nat.ne_of_gt (blk_lt (g := gb150) (o := .cells #[.slice A1_0 l1_0.length c1_0, .slice A1_1 l1_1.length c1_1] 28 (0, 0)) (by (with_reducible repeat (first | refine blk_drewN ?_ _ | refine blk_drew ?_ | refine blk_alloc ?_ _)); exact BK150.out)) : gb171 ≠ gb150)); have n13_ := Aside0.mk ((by rw [hg]; exact Nat.ne_of_lt (blk_lt (g := gb162) (o := .cells #[.slice Ao39 t155.length co39, .slice Ao43 t158.length co43] 28 (0, 0)) (by (with_reducible repeat (first | refine blk_drewN ?_ _ | refine blk_drew ?_ | refine blk_alloc ?_ _)); exact BK162.out)) : gb162 ≠ gb171)); have n14_ := Aside0.mk ((by rw [hg]; exact Nat.ne_of_gt (blk_lt (g := gb162) (o := .cells #[.slice Ao39 t155.length co39, .slice Ao43 t158.length co43] 28 (0, 0)) (by (with_reducible repeat (first | refine blk_drewN ?_ _ | refine blk_drew ?_ | refine blk_alloc ?_ _)); exact BK162.out)) : gb171 ≠ gb162)); clear HO_163000; clear HO_163001; clear BK149; clear BK150; clear BK162; clear HB; have HO_163000 := n0_; have HO_163001 := n1_; have BK149 := n2_; have BK150 := n3_; have BK162 := n4_; have HB := n5_; have BK171 := n6_; have GW171 := n7_; have GE171 := n8_; have NB149_171 := n9_; have NB171_149 := n10_; have NB150_171 := n11_; have NB171_150 := n12_; have NB162_171 := n13_; have NB171_162 := n14_; clear n0_ n1_ n2_ n3_ n4_ n5_ n6_ n7_ n8_ n9_ n10_ n11_ n12_ n13_ n14_; clear hb hbox hg; have hnb75 := NB171_149.out; have hnc75 := NB149_171.out; have hnb76 := NB171_150.out; have hnc76 := NB150_171.out; have hnb77 := NB171_162.out; have hnc77 := NB162_171.out; have hcz78_0 : w74.cell? ⟨gb171, 0, none⟩ = some (.int .i64 0) := (blk_cell BK171.out 0).trans rfl; have hcz78_1 : w74.cell? ⟨gb171, 1, none⟩ = some (.int .i64 0) := (blk_cell BK171.out 1).trans rfl; have hcz78_2 : w74.cell? ⟨gb171, 2, none⟩ = some (.int .i64 0) := (blk_cell BK171.out 2).trans rfl; have hcz78_3 : w74.cell? ⟨gb171, 3, none⟩ = some (.int .i64 0) := (blk_cell BK171.out 3).trans rfl; have hcz78_4 : w74.cell? ⟨gb171, 4, none⟩ = some (.int .i64 0) := (blk_cell BK171.out 4).trans rfl; have hfz78_0 := blk_frozen BK171.out 0; have hfz78_1 := blk_frozen BK171.out 1; have hfz78_2 := blk_frozen BK171.out 2; have hfz78_3 := blk_frozen BK171.out 3; have hfz78_4 := blk_frozen BK171.out 4))
        go_loopg [12] kj32 (fun kq v12 w' => ∃ (x12_3 : Int), v12 = .int .i64 x12_3 ∧ Aside0 (fencepostlaw10_ScApart.l0 kq a2 t151 x12_3 l1_0 l1_1 t155 t158 t165 t166 t167 t168 t169 = some r) ∧ Aside0 (kq ≤ kj32) ∧ Aside0 (Kd.V (Kd.int .i64) 3 w' w.heap.size (fun k_ => k_ ≠ gb149 ∧ k_ ≠ gb150 ∧ k_ ≠ gb162 ∧ k_ ≠ gb171) (.slice Ao39 t155.length co39) t155) ∧ Aside0 (Kd.V k45 45 w' w.heap.size (fun k_ => k_ ≠ gb149 ∧ k_ ≠ gb150 ∧ k_ ≠ gb162 ∧ k_ ≠ gb171) (.slice Ao43 t158.length co43) t158) ∧ Aside0 (w'.heap[gb149]? = some (.cells #[(.slice A0_0 l0_0.length c0_0), (.slice A0_1 l0_1.length c0_1)] 25 (0, 0))) ∧ Aside0 (w'.heap[gb150]? = some (.cells #[(.slice A1_0 l1_0.length c1_0), (.slice A1_1 l1_1.length c1_1)] 28 (0, 0))) ∧ Aside0 (w'.heap[gb162]? = some (.cells #[(.slice Ao39 t155.length co39), (.slice Ao43 t158.length co43)] 28 (0, 0))) ∧ Aside0 (w'.heap[gb171]? = some (.cells #[.int .i64 t165, .int .i64 t166, .int .i64 t167, .int .i64 t168, .int .i64 t169] 39 (0, 0))) ∧ Aside0 (Below w.heap.size w w'))
        case atStart => exact ⟨(0), (by first | rfl | (simp; done) | (simp [*]; done)), H', ⟨Nat.le_refl _⟩, ⟨by (with_reducible repeat (first | apply Kd.V_alloc | apply Kd.V_drewN | apply Kd.V_drew)); exact Kd.V_mono (Kd.V_far (p := ⟨gb171, 4, none⟩) (Kd.V_far (p := ⟨gb171, 3, none⟩) (Kd.V_far (p := ⟨gb171, 2, none⟩) (Kd.V_far (p := ⟨gb171, 1, none⟩) (Kd.V_far (p := ⟨gb171, 0, none⟩) (Kd.V_mono HO_163000.out (fun k_ hk => (⟨hk, hk.2⟩ : _ ∧ k_ ≠ gb171))) (fun _ hk => hk.2) (.int .i64 t165)) (fun _ hk => hk.2) (.int .i64 t166)) (fun _ hk => hk.2) (.int .i64 t167)) (fun _ hk => hk.2) (.int .i64 t168)) (fun _ hk => hk.2) (.int .i64 t169)) (fun _ hk => ⟨hk.1.1.1, ⟨hk.1.1.2.1, ⟨hk.1.1.2.2, hk.1.2⟩⟩⟩)⟩, ⟨by (with_reducible repeat (first | apply Kd.V_alloc | apply Kd.V_drewN | apply Kd.V_drew)); exact Kd.V_mono (Kd.V_far (p := ⟨gb171, 4, none⟩) (Kd.V_far (p := ⟨gb171, 3, none⟩) (Kd.V_far (p := ⟨gb171, 2, none⟩) (Kd.V_far (p := ⟨gb171, 1, none⟩) (Kd.V_far (p := ⟨gb171, 0, none⟩) (Kd.V_mono HO_163001.out (fun k_ hk => (⟨hk, hk.2⟩ : _ ∧ k_ ≠ gb171))) (fun _ hk => hk.2) (.int .i64 t165)) (fun _ hk => hk.2) (.int .i64 t166)) (fun _ hk => hk.2) (.int .i64 t167)) (fun _ hk => hk.2) (.int .i64 t168)) (fun _ hk => hk.2) (.int .i64 t169)) (fun _ hk => ⟨hk.1.1.1, ⟨hk.1.1.2.1, ⟨hk.1.1.2.2, hk.1.2⟩⟩⟩)⟩, ⟨by (with_reducible repeat (first | refine blk_drewN ?_ _ | refine blk_drew ?_ | refine blk_alloc ?_ _)); refine blk_far ?_ NB149_171.out _; (with_reducible repeat (first | refine blk_drewN ?_ _ | refine blk_drew ?_ | refine blk_alloc ?_ _)); refine blk_far ?_ NB149_171.out _; (with_reducible repeat (first | refine blk_drewN ?_ _ | refine blk_drew ?_ | refine blk_alloc ?_ _)); refine blk_far ?_ NB149_171.out _; (with_reducible repeat (first | refine blk_drewN ?_ _ | refine blk_drew ?_ | refine blk_alloc ?_ _)); refine blk_far ?_ NB149_171.out _; (with_reducible repeat (first | refine blk_drewN ?_ _ | refine blk_drew ?_ | refine blk_alloc ?_ _)); refine blk_far ?_ NB149_171.out _; (with_reducible repeat (first | refine blk_drewN ?_ _ | refine blk_drew ?_ | refine blk_alloc ?_ _)); exact BK149.out⟩, ⟨by (with_reducible repeat (first | refine blk_drewN ?_ _ | refine blk_drew ?_ | refine blk_alloc ?_ _)); refine blk_far ?_ NB150_171.out _; (with_reducible repeat (first | refine blk_drewN ?_ _ | refine blk_drew ?_ | refine blk_alloc ?_ _)); refine blk_far ?_ NB150_171.out _; (with_reducible repeat (first | refine blk_drewN ?_ _ | refine blk_drew ?_ | refine blk_alloc ?_ _)); refine blk_far ?_ NB150_171.out _; (with_reducible repeat (first | refine blk_drewN ?_ _ | refine blk_drew ?_ | refine blk_alloc ?_ _)); refine blk_far ?_ NB150_171.out _; (with_reducible repeat (first | refine blk_drewN ?_ _ | refine blk_drew ?_ | refine blk_alloc ?_ _)); refine blk_far ?_ NB150_171.out _; (with_reducible repeat (first | refine blk_drewN ?_ _ | refine blk_drew ?_ | refine blk_alloc ?_ _)); exact BK150.out⟩, ⟨by (with_reducible repeat (first | refine blk_drewN ?_ _ | refine blk_drew ?_ | refine blk_alloc ?_ _)); refine blk_far ?_ NB162_171.out _; (with_reducible repeat (first | refine blk_drewN ?_ _ | refine blk_drew ?_ | refine blk_alloc ?_ _)); refine blk_far ?_ NB162_171.out _; (with_reducible repeat (first | refine blk_drewN ?_ _ | refine blk_drew ?_ | refine blk_alloc ?_ _)); refine blk_far ?_ NB162_171.out _; (with_reducible repeat (first | refine blk_drewN ?_ _ | refine blk_drew ?_ | refine blk_alloc ?_ _)); refine blk_far ?_ NB162_171.out _; (with_reducible repeat (first | refine blk_drewN ?_ _ | refine blk_drew ?_ | refine blk_alloc ?_ _)); refine blk_far ?_ NB162_171.out _; (with_reducible repeat (first | refine blk_drewN ?_ _ | refine blk_drew ?_ | refine blk_alloc ?_ _)); exact BK162.out⟩, ⟨by (with_reducible repeat (first | refine blk_drewN ?_ _ | refine blk_drew ?_ | refine blk_alloc ?_ _)); refine blk_put (cs := #[.int .i64 t165, .int .i64 t166, .int .i64 t167, .int .i64 t168, .int .i64 0]) ?_ 4 _ rfl; (with_reducible repeat (first | refine blk_drewN ?_ _ | refine blk_drew ?_ | refine blk_alloc ?_ _)); refine blk_put (cs := #[.int .i64 t165, .int .i64 t166, .int .i64 t167, .int .i64 0, .int .i64 0]) ?_ 3 _ rfl; (with_reducible repeat (first | refine blk_drewN ?_ _ | refine blk_drew ?_ | refine blk_alloc ?_ _)); refine blk_put (cs := #[.int .i64 t165, .int .i64 t166, .int .i64 0, .int .i64 0, .int .i64 0]) ?_ 2 _ rfl; (with_reducible repeat (first | refine blk_drewN ?_ _ | refine blk_drew ?_ | refine blk_alloc ?_ _)); refine blk_put (cs := #[.int .i64 t165, .int .i64 0, .int .i64 0, .int .i64 0, .int .i64 0]) ?_ 1 _ rfl; (with_reducible repeat (first | refine blk_drewN ?_ _ | refine blk_drew ?_ | refine blk_alloc ?_ _)); refine blk_put (cs := #[.int .i64 0, .int .i64 0, .int .i64 0, .int .i64 0, .int .i64 0]) ?_ 0 _ rfl; (with_reducible repeat (first | refine blk_drewN ?_ _ | refine blk_drew ?_ | refine blk_alloc ?_ _)); exact BK171.out⟩, ⟨by repeat (first | (with_reducible first | exact HB.out | apply below_alloc | apply pw_below_drewN | apply below_drew1 | refine below_set ?_ GE149.out | refine below_set ?_ GE150.out | refine below_set ?_ GE162.out | refine below_set ?_ GE171.out) | exact HB.out)⟩⟩
        case round =>
         clear H'
         try clear c1
         try clear c2
         try clear p2
         try clear c3
         try clear c4
         try clear c5
         try clear c6
         try clear c7
         try clear c9
         try clear c10
         try clear c11
         try clear c13
         try clear c15
         try clear c16
         try clear c17
         try clear c19
         try clear c22
         try clear c30
         try clear c32
         try clear c34
         try clear c40
         try clear c41
         try clear c45
         try clear c46
         try clear c46b0
         try clear c47
         try clear c48
         try clear c50
         try clear c53
         try clear c54
         try clear c56
         try clear c60
         try clear c61
         try clear c63
         try clear c66
         try clear c68
         try clear c69
         try clear c71
         try clear c75
         try clear c76
         try clear c77
         try clear hcz12_0
         try clear hcz12_1
         try clear hcz17_0
         try clear hcz17_1
         try clear hcz19_0
         try clear hcz19_1
         try clear hcz23_0
         try clear hcz23_1
         try clear hcz25_0
         try clear hcz25_1
         try clear hcz27_0
         try clear hcz27_1
         try clear hcz28_0
         try clear hcz28_1
         try clear hcz35_0
         try clear hcz35_1
         try clear hcz36_0
         try clear hcz36_1
         try clear hcz42_0
         try clear hcz42_1
         try clear hcz49_0
         try clear hcz49_1
         try clear hcz51_0
         try clear hcz51_1
         try clear hcz55_0
         try clear hcz55_1
         try clear hcz57_0
         try clear hcz57_1
         try clear hcz59_0
         try clear hcz59_1
         try clear hcz62_0
         try clear hcz62_1
         try clear hcz64_0
         try clear hcz64_1
         try clear hcz70_0
         try clear hcz70_1
         try clear hcz72_0
         try clear hcz72_1
         try clear hcz78_0
         try clear hcz78_1
         try clear hcz78_2
         try clear hcz78_3
         try clear hcz78_4
         try clear hfz12_0
         try clear hfz12_1
         try clear hfz17_0
         try clear hfz17_1
         try clear hfz19_0
         try clear hfz19_1
         try clear hfz23_0
         try clear hfz23_1
         try clear hfz25_0
         try clear hfz25_1
         try clear hfz27_0
         try clear hfz27_1
         try clear hfz28_0
         try clear hfz28_1
         try clear hfz35_0
         try clear hfz35_1
         try clear hfz36_0
         try clear hfz36_1
         try clear hfz42_0
         try clear hfz42_1
         try clear hfz49_0
         try clear hfz49_1
         try clear hfz51_0
         try clear hfz51_1
         try clear hfz55_0
         try clear hfz55_1
         try clear hfz57_0
         try clear hfz57_1
         try clear hfz59_0
         try clear hfz59_1
         try clear hfz62_0
         try clear hfz62_1
         try clear hfz64_0
         try clear hfz64_1
         try clear hfz70_0
         try clear hfz70_1
         try clear hfz72_0
         try clear hfz72_1
         try clear hfz78_0
         try clear hfz78_1
         try clear hfz78_2
         try clear hfz78_3
         try clear hfz78_4
         try clear p2
         obtain ⟨x12_3, rfl, HA, HK3, HO_163000, HO_163001, BK149, BK150, BK162, BK171, HB⟩ := hrel
         cases gk with
         | zero => exact absurd HA.out (by simp [fencepostlaw10_ScApart.l0])
         | succ k3 =>
          have H := HA.out
          clear HA
          simp only [fencepostlaw10_ScApart.l0] at H
          by_cases c79 : x12_3 < (l1_1.length : Int)
          ·rw [if_pos c79] at H
           have c79b0 : decide (x12_3 < (l1_1.length : Int)) = true := decide_eq_true c79
           clear c79
           by_cases c80 : x12_3 = a2
           ·rw [if_pos c80] at H
            have c80b0 : (x12_3 == a2) = true := beq_iff_eq.mpr c80
            have c80b1 : (x12_3 != a2) = false := bne_eq_false_iff_eq.mpr c80
            clear c80
            have H' := Aside0.mk H
            clear H
            have hnb81 := NB150_149.out
            have hnc81 := NB149_150.out
            have hnb82 := NB150_162.out
            have hnc82 := NB162_150.out
            have hnb83 := NB150_171.out
            have hnc83 := NB171_150.out
            have hcz84_0 : wr.cell? ⟨gb150, 0, none⟩ = some (.slice A1_0 l1_0.length c1_0) := (blk_cell BK150.out 0).trans rfl
            have hcz84_1 : wr.cell? ⟨gb150, 1, none⟩ = some (.slice A1_1 l1_1.length c1_1) := (blk_cell BK150.out 1).trans rfl
            have hfz84_0 := blk_frozen BK150.out 0
            have hfz84_1 := blk_frozen BK150.out 1
            try go_wp2
            have n0_ := Aside0.mk (Kd.V_drew HO_163000.out)
            have n1_ := Aside0.mk (Kd.V_drew HO_163001.out)
            have n2_ := Aside0.mk (blk_drew BK149.out)
            have n3_ := Aside0.mk (blk_drew BK150.out)
            have n4_ := Aside0.mk (blk_drew BK162.out)
            have n5_ := Aside0.mk (blk_drew BK171.out)
            have n6_ := Aside0.mk (below_drew1 HB.out)
            clear HO_163000
            clear HO_163001
            clear BK149
            clear BK150
            clear BK162
            clear BK171
            clear HB
            have HO_163000 := n0_
            have HO_163001 := n1_
            have BK149 := n2_
            have BK150 := n3_
            have BK162 := n4_
            have BK171 := n5_
            have HB := n6_
            clear n0_ n1_ n2_ n3_ n4_ n5_ n6_
            refine start_ (n := 17) (S := fun w' => True) (ds := []) #[false, false, false, false, false, false, false, false, false, false, false, false, false, false, false, false, false] (by kernel_rfl) rfl rfl trivial (fun hHeld => ?_); refine with_tabW fencepostlaw10_ScApart.tab13 fencepostlaw10_ScApart.bits13 (fun HT_ HW_ => ?_)
            generalize wr.drew = w85 at HO_163000 HO_163001 BK149 BK150 BK162 BK171 HB hHeld ⊢
            refine pure_ (i := 0) (N := some 74) (v := ?_) (a' := ?_) #[true, false, false, false, false, false, false, false, false, false, false, false, false, false, false, false, false] rfl rfl (any_of HT_.out (by kernel_rfl)) (fun _ _ _ h => h) (Or.inl ⟨by rfl, ?_⟩) ?_ ?_
            rotate_left
            ·intro w'
             go_simp
             with_reducible rfl
            rotate_left
            ·simp only [Act.put, List.setIfInBounds_toArray, List.set_cons_zero, List.set_cons_succ, i64_w, i32_w]
             rfl
            refine pure_ (i := 1) (N := some 75) (v := ?_) (a' := ?_) #[true, true, false, false, false, false, false, false, false, false, false, false, false, false, false, false, false] rfl rfl (any_of HT_.out (by kernel_rfl)) (fun _ _ _ h => h) (Or.inl ⟨by rfl, ?_⟩) ?_ ?_
            rotate_left
            ·intro w'
             go_simp
             with_reducible rfl
            rotate_left
            ·simp only [Act.put, List.setIfInBounds_toArray, List.set_cons_zero, List.set_cons_succ, i64_w, i32_w]
             rfl
            refine pure_ (i := 2) (N := some 76) (v := ?_) (a' := ?_) #[true, true, true, false, false, false, false, false, false, false, false, false, false, false, false, false, false] rfl rfl (any_of HT_.out (by kernel_rfl)) (fun _ _ _ h => h) (Or.inl ⟨by rfl, ?_⟩) ?_ ?_
            rotate_left
            ·intro w'
             go_simp
             with_reducible rfl
            rotate_left
            ·simp only [Act.put, List.setIfInBounds_toArray, List.set_cons_zero, List.set_cons_succ, i64_w, i32_w]
             rfl
            refine pure_ (i := 3) (N := some 77) (v := ?_) (a' := ?_) #[true, true, true, true, false, false, false, false, false, false, false, false, false, false, false, false, false] rfl rfl (any_of HT_.out (by kernel_rfl)) (fun _ _ _ h => h) (Or.inl ⟨by rfl, ?_⟩) ?_ ?_
            rotate_left
            ·intro w'
             go_simp
             with_reducible rfl
            rotate_left
            ·simp only [Act.put, List.setIfInBounds_toArray, List.set_cons_zero, List.set_cons_succ, i64_w, i32_w]
             rfl
            refine pure_ (i := 4) (N := some 78) (v := undef) (a' := ?_) #[true, true, true, true, true, false, false, false, false, false, false, false, false, false, false, false, false] rfl rfl (any_of HT_.out (by kernel_rfl)) (fun _ _ _ h => h) (Or.inr ⟨by rfl, rfl⟩) ?_ ?_
            rotate_left
            ·simp only [Act.put, List.setIfInBounds_toArray, List.set_cons_zero, List.set_cons_succ, i64_w, i32_w]
             rfl
            refine pure_ (i := 5) (N := some 79) (v := undef) (a' := ?_) #[true, true, true, true, true, true, false, false, false, false, false, false, false, false, false, false, false] rfl rfl (any_of HT_.out (by kernel_rfl)) (fun _ _ _ h => h) (Or.inr ⟨by rfl, rfl⟩) ?_ ?_
            rotate_left
            ·simp only [Act.put, List.setIfInBounds_toArray, List.set_cons_zero, List.set_cons_succ, i64_w, i32_w]
             rfl
            refine pure_ (i := 6) (N := some 80) (v := undef) (a' := ?_) #[true, true, true, true, true, true, true, false, false, false, false, false, false, false, false, false, false] rfl rfl (any_of HT_.out (by kernel_rfl)) (fun _ _ _ h => h) (Or.inr ⟨by rfl, rfl⟩) ?_ ?_
            rotate_left
            ·simp only [Act.put, List.setIfInBounds_toArray, List.set_cons_zero, List.set_cons_succ, i64_w, i32_w]
             rfl
            refine pure_ (i := 7) (N := some 81) (v := undef) (a' := ?_) #[true, true, true, true, true, true, true, true, false, false, false, false, false, false, false, false, false] rfl rfl (any_of HT_.out (by kernel_rfl)) (fun _ _ _ h => h) (Or.inr ⟨by rfl, rfl⟩) ?_ ?_
            rotate_left
            ·simp only [Act.put, List.setIfInBounds_toArray, List.set_cons_zero, List.set_cons_succ, i64_w, i32_w]
             rfl
            refine pure_ (i := 8) (N := some 82) (v := undef) (a' := ?_) #[true, true, true, true, true, true, true, true, true, false, false, false, false, false, false, false, false] rfl rfl (any_of HT_.out (by kernel_rfl)) (fun _ _ _ h => h) (Or.inr ⟨by rfl, rfl⟩) ?_ ?_
            rotate_left
            ·simp only [Act.put, List.setIfInBounds_toArray, List.set_cons_zero, List.set_cons_succ, i64_w, i32_w]
             rfl
            refine pure_ (i := 9) (N := some 83) (v := undef) (a' := ?_) #[true, true, true, true, true, true, true, true, true, true, false, false, false, false, false, false, false] rfl rfl (any_of HT_.out (by kernel_rfl)) (fun _ _ _ h => h) (Or.inr ⟨by rfl, rfl⟩) ?_ ?_
            rotate_left
            ·simp only [Act.put, List.setIfInBounds_toArray, List.set_cons_zero, List.set_cons_succ, i64_w, i32_w]
             rfl
            refine pure_ (i := 10) (N := some 84) (v := undef) (a' := ?_) #[true, true, true, true, true, true, true, true, true, true, true, false, false, false, false, false, false] rfl rfl (any_of HT_.out (by kernel_rfl)) (fun _ _ _ h => h) (Or.inr ⟨by rfl, rfl⟩) ?_ ?_
            rotate_left
            ·simp only [Act.put, List.setIfInBounds_toArray, List.set_cons_zero, List.set_cons_succ, i64_w, i32_w]
             rfl
            refine pure_ (i := 11) (N := some 85) (v := undef) (a' := ?_) #[true, true, true, true, true, true, true, true, true, true, true, true, false, false, false, false, false] rfl rfl (any_of HT_.out (by kernel_rfl)) (fun _ _ _ h => h) (Or.inr ⟨by rfl, rfl⟩) ?_ ?_
            rotate_left
            ·simp only [Act.put, List.setIfInBounds_toArray, List.set_cons_zero, List.set_cons_succ, i64_w, i32_w]
             rfl
            refine pure_ (i := 12) (N := some 86) (v := undef) (a' := ?_) #[true, true, true, true, true, true, true, true, true, true, true, true, true, false, false, false, false] rfl rfl (any_of HT_.out (by kernel_rfl)) (fun _ _ _ h => h) (Or.inr ⟨by rfl, rfl⟩) ?_ ?_
            rotate_left
            ·simp only [Act.put, List.setIfInBounds_toArray, List.set_cons_zero, List.set_cons_succ, i64_w, i32_w]
             rfl
            refine pure_ (i := 13) (N := some 87) (v := undef) (a' := ?_) #[true, true, true, true, true, true, true, true, true, true, true, true, true, true, false, false, false] rfl rfl (any_of HT_.out (by kernel_rfl)) (fun _ _ _ h => h) (Or.inr ⟨by rfl, rfl⟩) ?_ ?_
            rotate_left
            ·simp only [Act.put, List.setIfInBounds_toArray, List.set_cons_zero, List.set_cons_succ, i64_w, i32_w]
             rfl
            refine pure_ (i := 14) (N := some 88) (v := undef) (a' := ?_) #[true, true, true, true, true, true, true, true, true, true, true, true, true, true, true, false, false] rfl rfl (any_of HT_.out (by kernel_rfl)) (fun _ _ _ h => h) (Or.inr ⟨by rfl, rfl⟩) ?_ ?_
            rotate_left
            ·simp only [Act.put, List.setIfInBounds_toArray, List.set_cons_zero, List.set_cons_succ, i64_w, i32_w]
             rfl
            refine pure_ (i := 15) (N := some 89) (v := undef) (a' := ?_) #[true, true, true, true, true, true, true, true, true, true, true, true, true, true, true, true, false] rfl rfl (any_of HT_.out (by kernel_rfl)) (fun _ _ _ h => h) (Or.inr ⟨by rfl, rfl⟩) ?_ ?_
            rotate_left
            ·simp only [Act.put, List.setIfInBounds_toArray, List.set_cons_zero, List.set_cons_succ, i64_w, i32_w]
             rfl
            refine pure_ (i := 16) (N := some 90) (v := ?_) (a' := ?_) #[true, true, true, true, true, true, true, true, true, true, true, true, true, true, true, true, true] rfl rfl (any_of HT_.out (by kernel_rfl)) (fun _ _ _ h => h) (Or.inl ⟨by rfl, ?_⟩) ?_ ?_
            rotate_left
            ·intro w'
             go_simp
             with_reducible rfl
            rotate_left
            ·simp only [Act.put, List.setIfInBounds_toArray, List.set_cons_zero, List.set_cons_succ, i64_w, i32_w]
             rfl
            refine done_ (done_of HT_.out (by kernel_rfl)) ?_
            try go_wp2
            go_roundg k3
            case measure => have := HJ4.out; have := HJ32.out; have := HK3.out; omega
            case rel => exact ⟨(wrap64 (x12_3 + 1)), (by first | rfl | (simp; done) | (simp [*]; done)), H', ⟨by have := HJ4.out; have := HJ32.out; have := HK3.out; omega⟩, ⟨by (with_reducible repeat (first | apply Kd.V_alloc | apply Kd.V_drewN | apply Kd.V_drew)); exact HO_163000.out⟩, ⟨by (with_reducible repeat (first | apply Kd.V_alloc | apply Kd.V_drewN | apply Kd.V_drew)); exact HO_163001.out⟩, ⟨by (with_reducible repeat (first | refine blk_drewN ?_ _ | refine blk_drew ?_ | refine blk_alloc ?_ _)); exact BK149.out⟩, ⟨by (with_reducible repeat (first | refine blk_drewN ?_ _ | refine blk_drew ?_ | refine blk_alloc ?_ _)); exact BK150.out⟩, ⟨by (with_reducible repeat (first | refine blk_drewN ?_ _ | refine blk_drew ?_ | refine blk_alloc ?_ _)); exact BK162.out⟩, ⟨by (with_reducible repeat (first | refine blk_drewN ?_ _ | refine blk_drew ?_ | refine blk_alloc ?_ _)); exact BK171.out⟩, ⟨by repeat (first | (with_reducible first | exact HB.out | apply below_alloc | apply pw_below_drewN | apply below_drew1 | refine below_set ?_ GE149.out | refine below_set ?_ GE150.out | refine below_set ?_ GE162.out | refine below_set ?_ GE171.out) | exact HB.out)⟩⟩
           ·rw [if_neg c80] at H
            have c80b0 : (x12_3 == a2) = false := beq_eq_false_iff_ne.mpr c80
            have c80b1 : (x12_3 != a2) = true := bne_iff_ne.mpr c80
            by_cases c86 : 0 ≤ x12_3
            ·rw [if_pos c86] at H
             have c86b0 : decide (0 ≤ x12_3) = true := decide_eq_true c86
             clear c86
             by_cases c87 : x12_3 < (t158.length : Int)
             ·rw [if_pos c87] at H
              have c87b0 : decide (x12_3 < (t158.length : Int)) = true := decide_eq_true c87
              clear c87
              replace H := Option.bind_eq_some_iff.mp H
              obtain ⟨t174, A880, H⟩ := H
              replace H : (if t174 = true then (fencepostlaw10_ScApart.l0 k3 a2 t151 (wrap64 (x12_3 + 1)) l1_0 l1_1 t155 t158 t165 t166 t167 t168 t169) else (some false)) = some r := H
              have A88 := Aside0.mk A880
              clear A880
              by_cases c89 : t174 = true
              ·subst c89
               have H1 : (fencepostlaw10_ScApart.l0 k3 a2 t151 (wrap64 (x12_3 + 1)) l1_0 l1_1 t155 t158 t165 t166 t167 t168 t169) = some r := by rw [if_pos rfl] at H; exact H
               clear H
               have H := H1
               clear H1
               have H' := Aside0.mk H
               clear H
               have hnb90 := NB150_149.out
               have hnc90 := NB149_150.out
               have hnb91 := NB150_162.out
               have hnc91 := NB162_150.out
               have hnb92 := NB150_171.out
               have hnc92 := NB171_150.out
               have hcz93_0 : wr.cell? ⟨gb150, 0, none⟩ = some (.slice A1_0 l1_0.length c1_0) := (blk_cell BK150.out 0).trans rfl
               have hcz93_1 : wr.cell? ⟨gb150, 1, none⟩ = some (.slice A1_1 l1_1.length c1_1) := (blk_cell BK150.out 1).trans rfl
               have hfz93_0 := blk_frozen BK150.out 0
               have hfz93_1 := blk_frozen BK150.out 1
               try go_wp2
               have n0_ := Aside0.mk (Kd.V_drew HO_163000.out)
               have n1_ := Aside0.mk (Kd.V_drew HO_163001.out)
               have n2_ := Aside0.mk (blk_drew BK149.out)
               have n3_ := Aside0.mk (blk_drew BK150.out)
               have n4_ := Aside0.mk (blk_drew BK162.out)
               have n5_ := Aside0.mk (blk_drew BK171.out)
               have n6_ := Aside0.mk (below_drew1 HB.out)
               clear HO_163000
               clear HO_163001
               clear BK149
               clear BK150
               clear BK162
               clear BK171
               clear HB
               have HO_163000 := n0_
               have HO_163001 := n1_
               have BK149 := n2_
               have BK150 := n3_
               have BK162 := n4_
               have BK171 := n5_
               have HB := n6_
               clear n0_ n1_ n2_ n3_ n4_ n5_ n6_
               have p172 : 0 ≤ (x12_3 : Int) := of_decide_eq_true (by first | (with_reducible assumption) | assumption)
               have q172 : x12_3 < (t158.length : Int) := of_decide_eq_true (by first | (with_reducible assumption) | assumption)
               obtain ⟨ad172, A172_1, c172_1, A172_3, c172_3, e172, hx172_0, hx172_1, hx172_2, hx172_3, hl172_1, hi172_1, hl172_3, hi172_3⟩ := at_T45 (Kd.V_reads' HO_163001.out).2.2 x12_3 p172 q172
               cases e172
               obtain ⟨ce172, hce172, hMe172, hcc172⟩ := Kd.V_get HO_163001.out z45 x12_3 p172 (by first | exact q172 | exact of_decide_eq_true (by first | (with_reducible assumption) | assumption) | (have e_ := (Kd.V_reads' HO_163001.out).1; omega))
               obtain ⟨ua172_1, uc172_1, ua172_3, uc172_3, rfl, ul172_1, ge172_1, ul172_3, ge172_3⟩ := k45_openF hMe172
               have hv172_1 := hcc172 1 _ rfl
               rw [add_field _ _ 1 (by omega)] at hv172_1
               replace hv172_1 := Option.some.inj (hv172_1.symm.trans hx172_1)
               injection hv172_1 with hva_ hvn_ hvc_
               rw [hva_] at ge172_1
               rw [hvc_] at ul172_1
               have HL172_1 := Aside0.mk (show Kd.V (Kd.int .i64) 3 _ w.heap.size _ _ ((rd_T45 t158 x12_3).f1) from Kd.V_mk ul172_1 ge172_1)
               clear hva_ hvn_ hvc_ ge172_1 ul172_1
               have hv172_3 := hcc172 3 _ rfl
               rw [add_field _ _ 3 (by omega)] at hv172_3
               replace hv172_3 := Option.some.inj (hv172_3.symm.trans hx172_3)
               injection hv172_3 with hva_ hvn_ hvc_
               rw [hva_] at ge172_3
               rw [hvc_] at ul172_3
               have HL172_3 := Aside0.mk (show Kd.V k53 53 _ w.heap.size _ _ ((rd_T45 t158 x12_3).f3) from Kd.V_mk ul172_3 ge172_3)
               clear hva_ hvn_ hvc_ ge172_3 ul172_3
               clear hcc172 hce172
               have HR172_1 := Aside0.mk hi172_1
               have HC172_1 := Aside0.mk hl172_1
               clear hi172_1 hl172_1
               have HR172_3 := Aside0.mk hi172_3
               have HC172_3 := Aside0.mk hl172_3
               clear hi172_3 hl172_3
               replace p172 := eq_true p172
               replace q172 := eq_true q172
               have p173 : 0 ≤ (x12_3 : Int) := of_decide_eq_true (by first | (with_reducible assumption) | assumption)
               have q173 : x12_3 < (l1_1.length : Int) := of_decide_eq_true (by first | (with_reducible assumption) | assumption)
               obtain ⟨ad173, A173_1, c173_1, A173_3, c173_3, e173, hx173_0, hx173_1, hx173_2, hx173_3, hl173_1, hi173_1, hl173_3, hi173_3⟩ := at_T45 HR1_1.out x12_3 p173 q173
               have hw173_3 := hx173_3
               have hw173_2 := hx173_2
               have hw173_1 := hx173_1
               have hw173_0 := hx173_0
               cases e173
               replace hx173_0 := (HB.out.cell (World.block_lt_of_cell? w _ hx173_0)).trans hx173_0
               replace hx173_1 := (HB.out.cell (World.block_lt_of_cell? w _ hx173_1)).trans hx173_1
               replace hx173_2 := (HB.out.cell (World.block_lt_of_cell? w _ hx173_2)).trans hx173_2
               replace hx173_3 := (HB.out.cell (World.block_lt_of_cell? w _ hx173_3)).trans hx173_3
               have HR173_1 := Aside0.mk hi173_1
               have HC173_1 := Aside0.mk hl173_1
               clear hi173_1 hl173_1
               have HR173_3 := Aside0.mk hi173_3
               have HC173_3 := Aside0.mk hl173_3
               clear hi173_3 hl173_3
               replace p173 := eq_true p173
               replace q173 := eq_true q173
               refine start_ (n := 17) (S := fun w' => w'.cell? ⟨gb162, 0, none⟩ = some (.slice Ao39 t155.length co39) ∧ w'.cell? ⟨gb162, 1, none⟩ = some (.slice (some ad172) t158.length co43) ∧ w'.cell? ⟨gb150, 0, none⟩ = some (.slice A1_0 l1_0.length c1_0) ∧ w'.cell? ⟨gb150, 1, none⟩ = some (.slice (some ad173) l1_1.length c1_1) ∧ w'.cell? (ad172.add ((x12_3).toNat * 4)) = some (.int .i64 ((rd_T45 t158 x12_3).f0)) ∧ w'.cell? ⟨(ad172.add ((x12_3).toNat * 4)).block, (ad172.add ((x12_3).toNat * 4)).off + 1, none⟩ = some (.slice A172_1 ((rd_T45 t158 x12_3).f1).length c172_1) ∧ w'.cell? ⟨(ad172.add ((x12_3).toNat * 4)).block, (ad172.add ((x12_3).toNat * 4)).off + 2, none⟩ = some (.bool ((rd_T45 t158 x12_3).f2)) ∧ w'.cell? ⟨(ad172.add ((x12_3).toNat * 4)).block, (ad172.add ((x12_3).toNat * 4)).off + 3, none⟩ = some (.slice A172_3 ((rd_T45 t158 x12_3).f3).length c172_3) ∧ w'.cell? (ad173.add ((x12_3).toNat * 4)) = some (.int .i64 ((rd_T45 l1_1 x12_3).f0)) ∧ w'.cell? ⟨(ad173.add ((x12_3).toNat * 4)).block, (ad173.add ((x12_3).toNat * 4)).off + 1, none⟩ = some (.slice A173_1 ((rd_T45 l1_1 x12_3).f1).length c173_1) ∧ w'.cell? ⟨(ad173.add ((x12_3).toNat * 4)).block, (ad173.add ((x12_3).toNat * 4)).off + 2, none⟩ = some (.bool ((rd_T45 l1_1 x12_3).f2)) ∧ w'.cell? ⟨(ad173.add ((x12_3).toNat * 4)).block, (ad173.add ((x12_3).toNat * 4)).off + 3, none⟩ = some (.slice A173_3 ((rd_T45 l1_1 x12_3).f3).length c173_3)) (ds := []) #[false, false, false, false, false, false, false, false, false, false, false, false, false, false, false, false, false] (by kernel_rfl) rfl rfl ⟨(blk_cell BK162.out 0).trans rfl, (blk_cell BK162.out 1).trans rfl, (blk_cell BK150.out 0).trans rfl, (blk_cell BK150.out 1).trans rfl, hx172_0, hx172_1, hx172_2, hx172_3, ((HB.out.cell (World.block_lt_of_cell? w _ hw173_0)).trans hw173_0), ((HB.out.cell (World.block_lt_of_cell? w _ hw173_1)).trans hw173_1), ((HB.out.cell (World.block_lt_of_cell? w _ hw173_2)).trans hw173_2), ((HB.out.cell (World.block_lt_of_cell? w _ hw173_3)).trans hw173_3)⟩ (fun hHeld => ?_); refine with_tabW fencepostlaw10_ScApart.tab13 fencepostlaw10_ScApart.bits13 (fun HT_ HW_ => ?_)
               generalize wr.drew = w94 at HO_163000 HO_163001 BK149 BK150 BK162 BK171 HB HL172_1 HL172_3 HR172_1 HR172_3 HR173_1 HR173_3 hx172_0 hx172_1 hx172_2 hx172_3 hx173_0 hx173_1 hx173_2 hx173_3 hHeld ⊢
               refine pure_ (i := 0) (N := some 74) (v := ?_) (a' := ?_) #[true, false, false, false, false, false, false, false, false, false, false, false, false, false, false, false, false] rfl rfl (any_of HT_.out (by kernel_rfl)) (fun _ _ _ h => h) (Or.inl ⟨by rfl, ?_⟩) ?_ ?_
               rotate_left
               ·intro w'
                go_simp
                with_reducible rfl
               rotate_left
               ·simp only [Act.put, List.setIfInBounds_toArray, List.set_cons_zero, List.set_cons_succ, i64_w, i32_w]
                rfl
               refine pure_ (i := 1) (N := some 75) (v := ?_) (a' := ?_) #[true, true, false, false, false, false, false, false, false, false, false, false, false, false, false, false, false] rfl rfl (any_of HT_.out (by kernel_rfl)) (fun _ _ _ h => h) (Or.inl ⟨by rfl, ?_⟩) ?_ ?_
               rotate_left
               ·intro w'
                go_simp
                with_reducible rfl
               rotate_left
               ·simp only [Act.put, List.setIfInBounds_toArray, List.set_cons_zero, List.set_cons_succ, i64_w, i32_w]
                rfl
               refine pure_ (i := 2) (N := some 76) (v := ?_) (a' := ?_) #[true, true, true, false, false, false, false, false, false, false, false, false, false, false, false, false, false] rfl rfl (any_of HT_.out (by kernel_rfl)) (fun _ _ _ h => h) (Or.inl ⟨by rfl, ?_⟩) ?_ ?_
               rotate_left
               ·intro w'
                go_simp
                with_reducible rfl
               rotate_left
               ·simp only [Act.put, List.setIfInBounds_toArray, List.set_cons_zero, List.set_cons_succ, i64_w, i32_w]
                rfl
               refine pure_ (i := 3) (N := some 77) (v := ?_) (a' := ?_) #[true, true, true, true, false, false, false, false, false, false, false, false, false, false, false, false, false] rfl rfl (any_of HT_.out (by kernel_rfl)) (fun _ _ _ h => h) (Or.inl ⟨by rfl, ?_⟩) ?_ ?_
               rotate_left
               ·intro w'
                go_simp
                with_reducible rfl
               rotate_left
               ·simp only [Act.put, List.setIfInBounds_toArray, List.set_cons_zero, List.set_cons_succ, i64_w, i32_w]
                rfl
               refine pure_ (i := 4) (N := some 78) (v := ?_) (a' := ?_) #[true, true, true, true, true, false, false, false, false, false, false, false, false, false, false, false, false] rfl rfl (any_of HT_.out (by kernel_rfl)) (fun _ _ _ h => h) (Or.inl ⟨by rfl, ?_⟩) ?_ ?_
               rotate_left
               ·intro w'
                go_simp
                with_reducible rfl
               rotate_left
               ·simp only [Act.put, List.setIfInBounds_toArray, List.set_cons_zero, List.set_cons_succ, i64_w, i32_w]
                rfl
               refine pure_ (i := 6) (N := some 80) (v := ?_) (a' := ?_) #[true, true, true, true, true, false, true, false, false, false, false, false, false, false, false, false, false] rfl rfl (any_of HT_.out (by kernel_rfl)) (fun _ _ _ h => h) (Or.inl ⟨by rfl, ?_⟩) ?_ ?_
               rotate_left
               ·intro w'
                go_simp
                with_reducible rfl
               rotate_left
               ·simp only [Act.put, List.setIfInBounds_toArray, List.set_cons_zero, List.set_cons_succ, i64_w, i32_w]
                rfl
               refine pure_ (i := 9) (N := some 83) (v := ?_) (a' := ?_) #[true, true, true, true, true, false, true, false, false, true, false, false, false, false, false, false, false] rfl rfl (any_of HT_.out (by kernel_rfl)) (fun _ _ _ h => h) (Or.inl ⟨by rfl, ?_⟩) ?_ ?_
               rotate_left
               ·intro w'
                go_simp
                with_reducible rfl
               rotate_left
               ·simp only [Act.put, List.setIfInBounds_toArray, List.set_cons_zero, List.set_cons_succ, i64_w, i32_w]
                rfl
               refine pure_ (i := 11) (N := some 85) (v := ?_) (a' := ?_) #[true, true, true, true, true, false, true, false, false, true, false, true, false, false, false, false, false] rfl rfl (any_of HT_.out (by kernel_rfl)) (fun _ _ _ h => h) (Or.inl ⟨by rfl, ?_⟩) ?_ ?_
               rotate_left
               ·intro w'
                go_simp
                with_reducible rfl
               rotate_left
               ·simp only [Act.put, List.setIfInBounds_toArray, List.set_cons_zero, List.set_cons_succ, i64_w, i32_w]
                rfl
               refine take_ (i := 5) (N := some 79) (v := ?_) (a' := ?_) #[true, true, true, true, true, true, true, false, false, true, false, true, false, false, false, false, false] rfl rfl (take_ofW HT_.out HW_.out (by kernel_rfl)) (fun _ _ _ h => h) (Or.inl ⟨by rfl, ?_⟩) hHeld ?_ ?_
               rotate_left
               ·rintro w' ⟨s0, s1, s2, s3, s4, s5, s6, s7, s8, s9, s10, s11⟩
                go_simp
                with_reducible rfl
               rotate_left
               ·simp only [Act.put, List.setIfInBounds_toArray, List.set_cons_zero, List.set_cons_succ, i64_w, i32_w]
                rfl
               refine pure_ (i := 7) (N := some 81) (v := ?_) (a' := ?_) #[true, true, true, true, true, true, true, true, false, true, false, true, false, false, false, false, false] rfl rfl (any_of HT_.out (by kernel_rfl)) (fun _ _ _ h => h) (Or.inl ⟨by rfl, ?_⟩) ?_ ?_
               rotate_left
               ·intro w'
                go_simp
                with_reducible rfl
               rotate_left
               ·simp only [Act.put, List.setIfInBounds_toArray, List.set_cons_zero, List.set_cons_succ, i64_w, i32_w]
                rfl
               refine take_ (i := 8) (N := some 82) (v := ?_) (a' := ?_) #[true, true, true, true, true, true, true, true, true, true, false, true, false, false, false, false, false] rfl rfl (take_ofW HT_.out HW_.out (by kernel_rfl)) (fun _ _ _ h => h) (Or.inl ⟨by rfl, ?_⟩) hHeld ?_ ?_
               rotate_left
               ·rintro w' ⟨s0, s1, s2, s3, s4, s5, s6, s7, s8, s9, s10, s11⟩
                go_simp
                with_reducible rfl
               rotate_left
               ·simp only [Act.put, List.setIfInBounds_toArray, List.set_cons_zero, List.set_cons_succ, i64_w, i32_w]
                rfl
               refine take_ (i := 10) (N := some 84) (v := ?_) (a' := ?_) #[true, true, true, true, true, true, true, true, true, true, true, true, false, false, false, false, false] rfl rfl (take_ofW HT_.out HW_.out (by kernel_rfl)) (fun _ _ _ h => h) (Or.inl ⟨by rfl, ?_⟩) hHeld ?_ ?_
               rotate_left
               ·rintro w' ⟨s0, s1, s2, s3, s4, s5, s6, s7, s8, s9, s10, s11⟩
                go_simp
                with_reducible rfl
               rotate_left
               ·simp only [Act.put, List.setIfInBounds_toArray, List.set_cons_zero, List.set_cons_succ, i64_w, i32_w]
                rfl
               refine pure_ (i := 12) (N := some 86) (v := ?_) (a' := ?_) #[true, true, true, true, true, true, true, true, true, true, true, true, true, false, false, false, false] rfl rfl (any_of HT_.out (by kernel_rfl)) (fun _ _ _ h => h) (Or.inl ⟨by rfl, ?_⟩) ?_ ?_
               rotate_left
               ·intro w'
                go_simp
                with_reducible rfl
               rotate_left
               ·simp only [Act.put, List.setIfInBounds_toArray, List.set_cons_zero, List.set_cons_succ, i64_w, i32_w]
                rfl
               refine take_ (i := 13) (N := some 87) (v := ?_) (a' := ?_) #[true, true, true, true, true, true, true, true, true, true, true, true, true, true, false, false, false] rfl rfl (take_ofW HT_.out HW_.out (by kernel_rfl)) (fun _ _ _ h => h) (Or.inl ⟨by rfl, ?_⟩) hHeld ?_ ?_
               rotate_left
               ·rintro w' ⟨s0, s1, s2, s3, s4, s5, s6, s7, s8, s9, s10, s11⟩
                go_simp
                with_reducible rfl
               rotate_left
               ·simp only [Act.put, List.setIfInBounds_toArray, List.set_cons_zero, List.set_cons_succ, i64_w, i32_w]
                rfl
               refine one_ (i := 14) (N := some 88) #[true, true, true, true, true, true, true, true, true, true, true, true, true, true, true, false, false] rfl rfl (one_of HT_.out (by kernel_rfl)) (by decide) (fun K hK => ?_)
               refine goes_ Try.func20 (by kernel_rfl) rfl #[.agg #[.int .i64 ((rd_T45 t158 x12_3).f0), .slice A172_1 ((rd_T45 t158 x12_3).f1).length c172_1, .bool ((rd_T45 t158 x12_3).f2), .slice A172_3 ((rd_T45 t158 x12_3).f3).length c172_3], .agg #[.int .i64 ((rd_T45 l1_1 x12_3).f0), .slice A173_1 ((rd_T45 l1_1 x12_3).f1).length c173_1, .bool ((rd_T45 l1_1 x12_3).f2), .slice A173_3 ((rd_T45 l1_1 x12_3).f3).length c173_3]] (by rfl) rfl rfl (by (try simp only [List.map_toArray, List.map_cons, List.map_nil]); first | done | rfl | (simp only [List.length_drop, List.length_take]; rfl)) ?_
               with_reducible refine (fencepostref10_SameTh.calls k3 ((rd_T45 t158 x12_3).f0) _ _ ((rd_T45 t158 x12_3).f1) ((rd_T45 t158 x12_3).f2) _ _ ((rd_T45 t158 x12_3).f3) ((rd_T45 l1_1 x12_3).f0) _ _ ((rd_T45 l1_1 x12_3).f1) ((rd_T45 l1_1 x12_3).f2) _ _ ((rd_T45 l1_1 x12_3).f3) true _ ?side1 ?side2 ?side3 ?side4 ?side5 ?side6 ?side7 ?side8 A88.out).mono ?_
               (case side1 => repeat (first | exact (by repeat (first | (with_reducible exact HR172_1.out) | (with_reducible refine Kd.C_alloc ?_ _) | (with_reducible refine Kd.C_drewN ?_ _) | (with_reducible refine Kd.C_drew ?_) | exact HR172_1.out)) | (with_reducible refine Kd.C_alloc ?_ _) | (with_reducible refine Kd.C_drewN ?_ _) | (with_reducible refine Kd.C_drew ?_)))
               (case side2 => exact HC172_1.out)
               (case side3 => repeat (first | exact (by repeat (first | (with_reducible exact HR172_3.out) | (with_reducible refine Kd.C_alloc ?_ _) | (with_reducible refine Kd.C_drewN ?_ _) | (with_reducible refine Kd.C_drew ?_) | exact HR172_3.out)) | (with_reducible refine Kd.C_alloc ?_ _) | (with_reducible refine Kd.C_drewN ?_ _) | (with_reducible refine Kd.C_drew ?_)))
               (case side4 => exact HC172_3.out)
               (case side5 => repeat (first | exact (Kd.C_below HR173_1.out HB.out) | (with_reducible refine Kd.C_alloc ?_ _) | (with_reducible refine Kd.C_drewN ?_ _) | (with_reducible refine Kd.C_drew ?_)))
               (case side6 => exact HC173_1.out)
               (case side7 => repeat (first | exact (Kd.C_below HR173_3.out HB.out) | (with_reducible refine Kd.C_alloc ?_ _) | (with_reducible refine Kd.C_drewN ?_ _) | (with_reducible refine Kd.C_drew ?_)))
               (case side8 => exact HC173_3.out)
               rintro e w95 ⟨rfl, hb⟩
               have HS4_ := (hb.cell (World.block_lt_of_cell? _ _ (hHeld.2.2.2.2.1))).trans (hHeld.2.2.2.2.1)
               have HS5_ := (hb.cell (World.block_lt_of_cell? _ _ (hHeld.2.2.2.2.2.1))).trans (hHeld.2.2.2.2.2.1)
               have HS6_ := (hb.cell (World.block_lt_of_cell? _ _ (hHeld.2.2.2.2.2.2.1))).trans (hHeld.2.2.2.2.2.2.1)
               have HS7_ := (hb.cell (World.block_lt_of_cell? _ _ (hHeld.2.2.2.2.2.2.2.1))).trans (hHeld.2.2.2.2.2.2.2.1)
               refine ⟨_, rfl, ?_⟩
               have n0_ := Aside0.mk (Kd.V_below (by (with_reducible repeat (first | apply Kd.V_alloc | apply Kd.V_drewN | apply Kd.V_drew)); exact HO_163000.out) hb)
               have n1_ := Aside0.mk (Kd.V_below (by (with_reducible repeat (first | apply Kd.V_alloc | apply Kd.V_drewN | apply Kd.V_drew)); exact HO_163001.out) hb)
               have n2_ := Aside0.mk (Kd.V_below (by (with_reducible repeat (first | apply Kd.V_alloc | apply Kd.V_drewN | apply Kd.V_drew)); exact HL172_1.out) hb)
               have n3_ := Aside0.mk (Kd.V_below (by (with_reducible repeat (first | apply Kd.V_alloc | apply Kd.V_drewN | apply Kd.V_drew)); exact HL172_3.out) hb)
               have n4_ := Aside0.mk (blk_below (g := gb149) (o := .cells #[.slice A0_0 l0_0.length c0_0, .slice A0_1 l0_1.length c0_1] 25 (0, 0)) (by (with_reducible repeat (first | refine blk_drewN ?_ _ | refine blk_drew ?_ | refine blk_alloc ?_ _)); exact BK149.out) hb)
               have n5_ := Aside0.mk (blk_below (g := gb150) (o := .cells #[.slice A1_0 l1_0.length c1_0, .slice (some ad173) l1_1.length c1_1] 28 (0, 0)) (by (with_reducible repeat (first | refine blk_drewN ?_ _ | refine blk_drew ?_ | refine blk_alloc ?_ _)); exact BK150.out) hb)
               have n6_ := Aside0.mk (blk_below (g := gb162) (o := .cells #[.slice Ao39 t155.length co39, .slice (some ad172) t158.length co43] 28 (0, 0)) (by (with_reducible repeat (first | refine blk_drewN ?_ _ | refine blk_drew ?_ | refine blk_alloc ?_ _)); exact BK162.out) hb)
               have n7_ := Aside0.mk (blk_below (g := gb171) (o := .cells #[.int .i64 t165, .int .i64 t166, .int .i64 t167, .int .i64 t168, .int .i64 t169] 39 (0, 0)) (by (with_reducible repeat (first | refine blk_drewN ?_ _ | refine blk_drew ?_ | refine blk_alloc ?_ _)); exact BK171.out) hb)
               have n8_ := Aside0.mk (Kd.C_below (by repeat (first | (with_reducible exact HR172_1.out) | (with_reducible refine Kd.C_alloc ?_ _) | (with_reducible refine Kd.C_drewN ?_ _) | (with_reducible refine Kd.C_drew ?_) | exact HR172_1.out)) hb)
               have n9_ := Aside0.mk (Kd.C_below (by repeat (first | (with_reducible exact HR172_3.out) | (with_reducible refine Kd.C_alloc ?_ _) | (with_reducible refine Kd.C_drewN ?_ _) | (with_reducible refine Kd.C_drew ?_) | exact HR172_3.out)) hb)
               have n10_ := Aside0.mk (below_step (by repeat (first | (with_reducible first | exact HB.out | apply below_alloc | apply pw_below_drewN | apply below_drew1 | refine below_set ?_ GE149.out | refine below_set ?_ GE150.out | refine below_set ?_ GE162.out | refine below_set ?_ GE171.out) | exact HB.out)) hb)
               clear HO_163000
               clear HO_163001
               clear HL172_1
               clear HL172_3
               clear BK149
               clear BK150
               clear BK162
               clear BK171
               clear HR172_1
               clear HR172_3
               clear HB
               have HO_163000 := n0_
               have HO_163001 := n1_
               have HL172_1 := n2_
               have HL172_3 := n3_
               have BK149 := n4_
               have BK150 := n5_
               have BK162 := n6_
               have BK171 := n7_
               have HR172_1 := n8_
               have HR172_3 := n9_
               have HB := n10_
               clear n0_ n1_ n2_ n3_ n4_ n5_ n6_ n7_ n8_ n9_ n10_
               (try clear hb)
               (try clear hb2)
               (try clear hk)
               (try clear hi)
               refine hK.out _ _ ⟨(blk_cell BK162.out 0).trans rfl, (blk_cell BK162.out 1).trans rfl, (blk_cell BK150.out 0).trans rfl, (blk_cell BK150.out 1).trans rfl, HS4_, HS5_, HS6_, HS7_, ((HB.out.cell (World.block_lt_of_cell? w _ hw173_0)).trans hw173_0), ((HB.out.cell (World.block_lt_of_cell? w _ hw173_1)).trans hw173_1), ((HB.out.cell (World.block_lt_of_cell? w _ hw173_2)).trans hw173_2), ((HB.out.cell (World.block_lt_of_cell? w _ hw173_3)).trans hw173_3)⟩ (fun hHeld => ?_)
               clear hK K
               refine norm_ (a' := ?_) ?_ ?_
               rotate_left
               ·show Act.put _ (some 88) _ = _
                simp only [Act.put, List.setIfInBounds_toArray, List.set_cons_zero, List.set_cons_succ, i64_w, i32_w]
                rfl
               refine pure_ (i := 15) (N := some 89) (v := ?_) (a' := ?_) #[true, true, true, true, true, true, true, true, true, true, true, true, true, true, true, true, false] rfl rfl (any_of HT_.out (by kernel_rfl)) (fun _ _ _ h => h) (Or.inl ⟨by rfl, ?_⟩) ?_ ?_
               rotate_left
               ·intro w'
                go_simp
                with_reducible rfl
               rotate_left
               ·simp only [Act.put, List.setIfInBounds_toArray, List.set_cons_zero, List.set_cons_succ, i64_w, i32_w]
                rfl
               refine pure_ (i := 16) (N := some 90) (v := ?_) (a' := ?_) #[true, true, true, true, true, true, true, true, true, true, true, true, true, true, true, true, true] rfl rfl (any_of HT_.out (by kernel_rfl)) (fun _ _ _ h => h) (Or.inl ⟨by rfl, ?_⟩) ?_ ?_
               rotate_left
               ·intro w'
                go_simp
                with_reducible rfl
               rotate_left
               ·simp only [Act.put, List.setIfInBounds_toArray, List.set_cons_zero, List.set_cons_succ, i64_w, i32_w]
                rfl
               refine done_ (done_of HT_.out (by kernel_rfl)) ?_
               try go_wp2
               go_roundg k3
               case measure => have := HJ4.out; have := HJ32.out; have := HK3.out; omega
               case rel => exact ⟨(wrap64 (x12_3 + 1)), (by first | rfl | (simp; done) | (simp [*]; done)), H', ⟨by have := HJ4.out; have := HJ32.out; have := HK3.out; omega⟩, ⟨by (with_reducible repeat (first | apply Kd.V_alloc | apply Kd.V_drewN | apply Kd.V_drew)); exact HO_163000.out⟩, ⟨by (with_reducible repeat (first | apply Kd.V_alloc | apply Kd.V_drewN | apply Kd.V_drew)); exact HO_163001.out⟩, ⟨by (with_reducible repeat (first | refine blk_drewN ?_ _ | refine blk_drew ?_ | refine blk_alloc ?_ _)); exact BK149.out⟩, ⟨by (with_reducible repeat (first | refine blk_drewN ?_ _ | refine blk_drew ?_ | refine blk_alloc ?_ _)); exact BK150.out⟩, ⟨by (with_reducible repeat (first | refine blk_drewN ?_ _ | refine blk_drew ?_ | refine blk_alloc ?_ _)); exact BK162.out⟩, ⟨by (with_reducible repeat (first | refine blk_drewN ?_ _ | refine blk_drew ?_ | refine blk_alloc ?_ _)); exact BK171.out⟩, ⟨by repeat (first | (with_reducible first | exact HB.out | apply below_alloc | apply pw_below_drewN | apply below_drew1 | refine below_set ?_ GE149.out | refine below_set ?_ GE150.out | refine below_set ?_ GE162.out | refine below_set ?_ GE171.out) | exact HB.out)⟩⟩
              ·replace c89 := Bool.eq_false_iff.mpr c89
               subst c89
               have H1 : (some false) = some r := by rw [if_neg (show ¬ (false = true) by decide)] at H; exact H
               clear H
               have H := H1
               clear H1
               exact absurd ((Option.some.inj H).trans HT.out) (by simp)
             ·rw [if_neg c87] at H
              exact absurd H (by simp)
            ·rw [if_neg c86] at H
             exact absurd H (by simp)
          ·rw [if_neg c79] at H
           have c79b0 : decide (x12_3 < (l1_1.length : Int)) = false := decide_eq_false c79
           clear c79
           have HC96 := Aside0.mk H
           clear H
           have hnb97 := NB150_149.out
           have hnc97 := NB149_150.out
           have hnb98 := NB150_162.out
           have hnc98 := NB162_150.out
           have hnb99 := NB150_171.out
           have hnc99 := NB171_150.out
           have hcz100_0 : wr.cell? ⟨gb150, 0, none⟩ = some (.slice A1_0 l1_0.length c1_0) := (blk_cell BK150.out 0).trans rfl
           have hcz100_1 : wr.cell? ⟨gb150, 1, none⟩ = some (.slice A1_1 l1_1.length c1_1) := (blk_cell BK150.out 1).trans rfl
           have hfz100_0 := blk_frozen BK150.out 0
           have hfz100_1 := blk_frozen BK150.out 1
           go_upto_region 15 with (fail)
           go_cut [13] (fun v13 wc => ∃ (kq : Nat) (x13_95 : Bool), v13 = .bool x13_95 ∧ Aside0 (fencepostlaw10_ScApart.j3 kq a2 t151 x13_95 l1_0 l1_1 t155 t158 t165 t166 t167 t168 t169 = some r) ∧ Aside0 (kq ≤ k3) ∧ Aside0 (Kd.V (Kd.int .i64) 3 wc w.heap.size (fun k_ => k_ ≠ gb149 ∧ k_ ≠ gb150 ∧ k_ ≠ gb162 ∧ k_ ≠ gb171) (.slice Ao39 t155.length co39) t155) ∧ Aside0 (Kd.V k45 45 wc w.heap.size (fun k_ => k_ ≠ gb149 ∧ k_ ≠ gb150 ∧ k_ ≠ gb162 ∧ k_ ≠ gb171) (.slice Ao43 t158.length co43) t158) ∧ Aside0 (wc.heap[gb149]? = some (.cells #[(.slice A0_0 l0_0.length c0_0), (.slice A0_1 l0_1.length c0_1)] 25 (0, 0))) ∧ Aside0 (wc.heap[gb150]? = some (.cells #[(.slice A1_0 l1_0.length c1_0), (.slice A1_1 l1_1.length c1_1)] 28 (0, 0))) ∧ Aside0 (wc.heap[gb162]? = some (.cells #[(.slice Ao39 t155.length co39), (.slice Ao43 t158.length co43)] 28 (0, 0))) ∧ Aside0 (wc.heap[gb171]? = some (.cells #[.int .i64 t165, .int .i64 t166, .int .i64 t167, .int .i64 t168, .int .i64 t169] 39 (0, 0))) ∧ Aside0 (Below w.heap.size w wc))
           case first =>
            have H := HC96.out
            clear HC96
            by_cases c101 : t165 = 3
            ·rw [if_pos c101] at H
             have c101b0 : (t165 == 3) = true := beq_iff_eq.mpr c101
             have c101b1 : (t165 != 3) = false := bne_eq_false_iff_eq.mpr c101
             clear c101
             (first | rw [c101b0] | (simp only [i64_w, i32_w]; rw [c101b0]) | skip)
             have H' := Aside0.mk H
             clear H
             have hnb102 := NB171_149.out
             have hnc102 := NB149_171.out
             have hnb103 := NB171_150.out
             have hnc103 := NB150_171.out
             have hnb104 := NB171_162.out
             have hnc104 := NB162_171.out
             have hcz105_0 : wr.cell? ⟨gb171, 0, none⟩ = some (.int .i64 t165) := (blk_cell BK171.out 0).trans rfl
             have hcz105_1 : wr.cell? ⟨gb171, 1, none⟩ = some (.int .i64 t166) := (blk_cell BK171.out 1).trans rfl
             have hcz105_2 : wr.cell? ⟨gb171, 2, none⟩ = some (.int .i64 t167) := (blk_cell BK171.out 2).trans rfl
             have hcz105_3 : wr.cell? ⟨gb171, 3, none⟩ = some (.int .i64 t168) := (blk_cell BK171.out 3).trans rfl
             have hcz105_4 : wr.cell? ⟨gb171, 4, none⟩ = some (.int .i64 t169) := (blk_cell BK171.out 4).trans rfl
             have hfz105_0 := blk_frozen BK171.out 0
             have hfz105_1 := blk_frozen BK171.out 1
             have hfz105_2 := blk_frozen BK171.out 2
             have hfz105_3 := blk_frozen BK171.out 3
             have hfz105_4 := blk_frozen BK171.out 4
             go_wp2
             go_meet
             case rel => exact ⟨_, (true), (by first | rfl | (simp; done) | (simp [*]; done)), H', ⟨by have := HJ4.out; have := HJ32.out; have := HK3.out; first | omega | exact Nat.le_refl _⟩, ⟨by (with_reducible repeat (first | apply Kd.V_alloc | apply Kd.V_drewN | apply Kd.V_drew)); exact HO_163000.out⟩, ⟨by (with_reducible repeat (first | apply Kd.V_alloc | apply Kd.V_drewN | apply Kd.V_drew)); exact HO_163001.out⟩, ⟨by (with_reducible repeat (first | refine blk_drewN ?_ _ | refine blk_drew ?_ | refine blk_alloc ?_ _)); exact BK149.out⟩, ⟨by (with_reducible repeat (first | refine blk_drewN ?_ _ | refine blk_drew ?_ | refine blk_alloc ?_ _)); exact BK150.out⟩, ⟨by (with_reducible repeat (first | refine blk_drewN ?_ _ | refine blk_drew ?_ | refine blk_alloc ?_ _)); exact BK162.out⟩, ⟨by (with_reducible repeat (first | refine blk_drewN ?_ _ | refine blk_drew ?_ | refine blk_alloc ?_ _)); exact BK171.out⟩, ⟨by repeat (first | (with_reducible first | exact HB.out | apply below_alloc | apply pw_below_drewN | apply below_drew1 | refine below_set ?_ GE149.out | refine below_set ?_ GE150.out | refine below_set ?_ GE162.out | refine below_set ?_ GE171.out) | exact HB.out)⟩⟩
            ·rw [if_neg c101] at H
             have c101b0 : (t165 == 3) = false := beq_eq_false_iff_ne.mpr c101
             have c101b1 : (t165 != 3) = true := bne_iff_ne.mpr c101
             (first | rw [c101b0] | (simp only [i64_w, i32_w]; rw [c101b0]) | skip)
             by_cases c106 : t165 = 4
             ·rw [if_pos c106] at H
              have c106b0 : (t165 == 4) = true := beq_iff_eq.mpr c106
              have c106b1 : (t165 != 4) = false := bne_eq_false_iff_eq.mpr c106
              clear c106
              have H' := Aside0.mk H
              clear H
              have hnb107 := NB171_149.out
              have hnc107 := NB149_171.out
              have hnb108 := NB171_150.out
              have hnc108 := NB150_171.out
              have hnb109 := NB171_162.out
              have hnc109 := NB162_171.out
              have hcz110_0 : wr.cell? ⟨gb171, 0, none⟩ = some (.int .i64 t165) := (blk_cell BK171.out 0).trans rfl
              have hcz110_1 : wr.cell? ⟨gb171, 1, none⟩ = some (.int .i64 t166) := (blk_cell BK171.out 1).trans rfl
              have hcz110_2 : wr.cell? ⟨gb171, 2, none⟩ = some (.int .i64 t167) := (blk_cell BK171.out 2).trans rfl
              have hcz110_3 : wr.cell? ⟨gb171, 3, none⟩ = some (.int .i64 t168) := (blk_cell BK171.out 3).trans rfl
              have hcz110_4 : wr.cell? ⟨gb171, 4, none⟩ = some (.int .i64 t169) := (blk_cell BK171.out 4).trans rfl
              have hfz110_0 := blk_frozen BK171.out 0
              have hfz110_1 := blk_frozen BK171.out 1
              have hfz110_2 := blk_frozen BK171.out 2
              have hfz110_3 := blk_frozen BK171.out 3
              have hfz110_4 := blk_frozen BK171.out 4
              go_wp2
              go_meet
              case rel => exact ⟨_, (true), (by first | rfl | (simp; done) | (simp [*]; done)), H', ⟨by have := HJ4.out; have := HJ32.out; have := HK3.out; first | omega | exact Nat.le_refl _⟩, ⟨by (with_reducible repeat (first | apply Kd.V_alloc | apply Kd.V_drewN | apply Kd.V_drew)); exact HO_163000.out⟩, ⟨by (with_reducible repeat (first | apply Kd.V_alloc | apply Kd.V_drewN | apply Kd.V_drew)); exact HO_163001.out⟩, ⟨by (with_reducible repeat (first | refine blk_drewN ?_ _ | refine blk_drew ?_ | refine blk_alloc ?_ _)); exact BK149.out⟩, ⟨by (with_reducible repeat (first | refine blk_drewN ?_ _ | refine blk_drew ?_ | refine blk_alloc ?_ _)); exact BK150.out⟩, ⟨by (with_reducible repeat (first | refine blk_drewN ?_ _ | refine blk_drew ?_ | refine blk_alloc ?_ _)); exact BK162.out⟩, ⟨by (with_reducible repeat (first | refine blk_drewN ?_ _ | refine blk_drew ?_ | refine blk_alloc ?_ _)); exact BK171.out⟩, ⟨by repeat (first | (with_reducible first | exact HB.out | apply below_alloc | apply pw_below_drewN | apply below_drew1 | refine below_set ?_ GE149.out | refine below_set ?_ GE150.out | refine below_set ?_ GE162.out | refine below_set ?_ GE171.out) | exact HB.out)⟩⟩
             ·rw [if_neg c106] at H
              have c106b0 : (t165 == 4) = false := beq_eq_false_iff_ne.mpr c106
              have c106b1 : (t165 != 4) = true := bne_iff_ne.mpr c106
              have H' := Aside0.mk H
              clear H
              have hnb111 := NB171_149.out
              have hnc111 := NB149_171.out
              have hnb112 := NB171_150.out
              have hnc112 := NB150_171.out
              have hnb113 := NB171_162.out
              have hnc113 := NB162_171.out
              have hcz114_0 : wr.cell? ⟨gb171, 0, none⟩ = some (.int .i64 t165) := (blk_cell BK171.out 0).trans rfl
              have hcz114_1 : wr.cell? ⟨gb171, 1, none⟩ = some (.int .i64 t166) := (blk_cell BK171.out 1).trans rfl
              have hcz114_2 : wr.cell? ⟨gb171, 2, none⟩ = some (.int .i64 t167) := (blk_cell BK171.out 2).trans rfl
              have hcz114_3 : wr.cell? ⟨gb171, 3, none⟩ = some (.int .i64 t168) := (blk_cell BK171.out 3).trans rfl
              have hcz114_4 : wr.cell? ⟨gb171, 4, none⟩ = some (.int .i64 t169) := (blk_cell BK171.out 4).trans rfl
              have hfz114_0 := blk_frozen BK171.out 0
              have hfz114_1 := blk_frozen BK171.out 1
              have hfz114_2 := blk_frozen BK171.out 2
              have hfz114_3 := blk_frozen BK171.out 3
              have hfz114_4 := blk_frozen BK171.out 4
              go_wp2
              go_meet
              case rel => exact ⟨_, ((t165 == 5)), (by first | rfl | (simp; done) | (simp [*]; done)), H', ⟨by have := HJ4.out; have := HJ32.out; have := HK3.out; first | omega | exact Nat.le_refl _⟩, ⟨by (with_reducible repeat (first | apply Kd.V_alloc | apply Kd.V_drewN | apply Kd.V_drew)); exact HO_163000.out⟩, ⟨by (with_reducible repeat (first | apply Kd.V_alloc | apply Kd.V_drewN | apply Kd.V_drew)); exact HO_163001.out⟩, ⟨by (with_reducible repeat (first | refine blk_drewN ?_ _ | refine blk_drew ?_ | refine blk_alloc ?_ _)); exact BK149.out⟩, ⟨by (with_reducible repeat (first | refine blk_drewN ?_ _ | refine blk_drew ?_ | refine blk_alloc ?_ _)); exact BK150.out⟩, ⟨by (with_reducible repeat (first | refine blk_drewN ?_ _ | refine blk_drew ?_ | refine blk_alloc ?_ _)); exact BK162.out⟩, ⟨by (with_reducible repeat (first | refine blk_drewN ?_ _ | refine blk_drew ?_ | refine blk_alloc ?_ _)); exact BK171.out⟩, ⟨by repeat (first | (with_reducible first | exact HB.out | apply below_alloc | apply pw_below_drewN | apply below_drew1 | refine below_set ?_ GE149.out | refine below_set ?_ GE150.out | refine below_set ?_ GE162.out | refine below_set ?_ GE171.out) | exact HB.out)⟩⟩
           case rest =>
            clear HC96
            try clear c1
            try clear p1
            try clear q1
            try clear hx1
            try clear c2
            try clear p2
            try clear p6
            try clear c7
            try clear c8
            try clear c9
            try clear c10
            try clear c11
            try clear c17
            try clear p17
            try clear q17
            try clear hx17
            try clear c20
            try clear p64
            try clear c79
            try clear c79b0
            try clear c80
            try clear c80b0
            try clear c80b1
            try clear c81
            try clear c82
            try clear c83
            try clear c86
            try clear c86b0
            try clear c87
            try clear c87b0
            try clear c89
            try clear c90
            try clear c91
            try clear c92
            try clear c97
            try clear c98
            try clear c99
            try clear c101
            try clear c101b0
            try clear c101b1
            try clear c102
            try clear c103
            try clear c104
            try clear c106
            try clear c106b0
            try clear c106b1
            try clear c107
            try clear c108
            try clear c109
            try clear c111
            try clear c112
            try clear c113
            try clear hcz100_0
            try clear hcz100_1
            try clear hcz105_0
            try clear hcz105_1
            try clear hcz105_2
            try clear hcz105_3
            try clear hcz105_4
            try clear hcz110_0
            try clear hcz110_1
            try clear hcz110_2
            try clear hcz110_3
            try clear hcz110_4
            try clear hcz114_0
            try clear hcz114_1
            try clear hcz114_2
            try clear hcz114_3
            try clear hcz114_4
            try clear hcz84_0
            try clear hcz84_1
            try clear hcz93_0
            try clear hcz93_1
            try clear hfz100_0
            try clear hfz100_1
            try clear hfz105_0
            try clear hfz105_1
            try clear hfz105_2
            try clear hfz105_3
            try clear hfz105_4
            try clear hfz110_0
            try clear hfz110_1
            try clear hfz110_2
            try clear hfz110_3
            try clear hfz110_4
            try clear hfz114_0
            try clear hfz114_1
            try clear hfz114_2
            try clear hfz114_3
            try clear hfz114_4
            try clear hfz25_1
            try clear hfz27_0
            try clear hfz27_1
            try clear hfz28_0
            try clear hfz28_1
            try clear hfz35_0
            try clear hfz35_1
            try clear hfz36_0
            try clear hfz36_1
            try clear hfz42_0
            try clear hfz42_1
            try clear hfz49_0
            try clear hfz49_1
            try clear hfz51_0
            try clear hfz51_1
            try clear hfz55_0
            try clear hfz55_1
            try clear hfz57_0
            try clear hfz57_1
            try clear hfz59_0
            try clear hfz59_1
            try clear hfz62_0
            try clear hfz62_1
            try clear hfz64_0
            try clear hfz64_1
            try clear hfz70_0
            try clear hfz70_1
            try clear hfz72_0
            try clear hfz72_1
            try clear hfz78_0
            try clear hfz78_1
            try clear hfz78_2
            try clear hfz78_3
            try clear hfz78_4
            try clear hfz84_0
            try clear hfz84_1
            try clear hfz93_0
            try clear hfz93_1
            try clear hx172_0
            try clear hx172_1
            try clear hx172_2
            try clear hx172_3
            try clear hx173_0
            try clear hx173_1
            try clear hx173_2
            try clear hx173_3
            try clear p172
            try clear p173
            try clear p2
            try clear q172
            try clear q173
            obtain ⟨kq, x13_95, rfl, HA, HJ95, HO_163000, HO_163001, BK149, BK150, BK162, BK171, HB⟩ := hcut
            cases kq with
            | zero => exact absurd HA.out (by simp [fencepostlaw10_ScApart.j3])
            | succ kj95 =>
             have H := HA.out
             clear HA
             simp only [fencepostlaw10_ScApart.j3] at H
             have H' := Aside0.mk H
             clear H
             go_wp2
             go_loopg [14] kj95 (fun kq v14 w' => ∃ (x14_5 : Int), v14 = .int .i64 x14_5 ∧ Aside0 (fencepostlaw10_ScApart.l1 kq a2 t151 x13_95 x14_5 l1_0 l1_1 t155 t158 t165 t166 t167 t168 t169 = some r) ∧ Aside0 (kq ≤ kj95) ∧ Aside0 (Kd.V (Kd.int .i64) 3 w' w.heap.size (fun k_ => k_ ≠ gb149 ∧ k_ ≠ gb150 ∧ k_ ≠ gb162 ∧ k_ ≠ gb171) (.slice Ao39 t155.length co39) t155) ∧ Aside0 (Kd.V k45 45 w' w.heap.size (fun k_ => k_ ≠ gb149 ∧ k_ ≠ gb150 ∧ k_ ≠ gb162 ∧ k_ ≠ gb171) (.slice Ao43 t158.length co43) t158) ∧ Aside0 (w'.heap[gb149]? = some (.cells #[(.slice A0_0 l0_0.length c0_0), (.slice A0_1 l0_1.length c0_1)] 25 (0, 0))) ∧ Aside0 (w'.heap[gb150]? = some (.cells #[(.slice A1_0 l1_0.length c1_0), (.slice A1_1 l1_1.length c1_1)] 28 (0, 0))) ∧ Aside0 (w'.heap[gb162]? = some (.cells #[(.slice Ao39 t155.length co39), (.slice Ao43 t158.length co43)] 28 (0, 0))) ∧ Aside0 (w'.heap[gb171]? = some (.cells #[.int .i64 t165, .int .i64 t166, .int .i64 t167, .int .i64 t168, .int .i64 t169] 39 (0, 0))) ∧ Aside0 (Below w.heap.size w w'))
             case atStart => exact ⟨(0), (by first | rfl | (simp; done) | (simp [*]; done)), H', ⟨Nat.le_refl _⟩, ⟨by (with_reducible repeat (first | apply Kd.V_alloc | apply Kd.V_drewN | apply Kd.V_drew)); exact HO_163000.out⟩, ⟨by (with_reducible repeat (first | apply Kd.V_alloc | apply Kd.V_drewN | apply Kd.V_drew)); exact HO_163001.out⟩, ⟨by (with_reducible repeat (first | refine blk_drewN ?_ _ | refine blk_drew ?_ | refine blk_alloc ?_ _)); exact BK149.out⟩, ⟨by (with_reducible repeat (first | refine blk_drewN ?_ _ | refine blk_drew ?_ | refine blk_alloc ?_ _)); exact BK150.out⟩, ⟨by (with_reducible repeat (first | refine blk_drewN ?_ _ | refine blk_drew ?_ | refine blk_alloc ?_ _)); exact BK162.out⟩, ⟨by (with_reducible repeat (first | refine blk_drewN ?_ _ | refine blk_drew ?_ | refine blk_alloc ?_ _)); exact BK171.out⟩, ⟨by repeat (first | (with_reducible first | exact HB.out | apply below_alloc | apply pw_below_drewN | apply below_drew1 | refine below_set ?_ GE149.out | refine below_set ?_ GE150.out | refine below_set ?_ GE162.out | refine below_set ?_ GE171.out) | exact HB.out)⟩⟩
             case round =>
              clear H'
              try clear c1
              try clear p1
              try clear q1
              try clear hx1
              try clear c2
              try clear p2
              try clear p6
              try clear c7
              try clear c8
              try clear c9
              try clear c10
              try clear c11
              try clear c17
              try clear p17
              try clear q17
              try clear hx17
              try clear c20
              try clear p64
              try clear c79
              try clear c79b0
              try clear c80
              try clear c80b0
              try clear c80b1
              try clear c81
              try clear c82
              try clear c83
              try clear c86
              try clear c86b0
              try clear c87
              try clear c87b0
              try clear c89
              try clear c90
              try clear c91
              try clear c92
              try clear c97
              try clear c98
              try clear c99
              try clear c101
              try clear c101b0
              try clear c101b1
              try clear c102
              try clear c103
              try clear c104
              try clear c106
              try clear c106b0
              try clear c106b1
              try clear c107
              try clear c108
              try clear c109
              try clear c111
              try clear c112
              try clear c113
              try clear hcz100_0
              try clear hcz100_1
              try clear hcz105_0
              try clear hcz105_1
              try clear hcz105_2
              try clear hcz105_3
              try clear hcz105_4
              try clear hcz110_0
              try clear hcz110_1
              try clear hcz110_2
              try clear hcz110_3
              try clear hcz110_4
              try clear hcz114_0
              try clear hcz114_1
              try clear hcz114_2
              try clear hcz114_3
              try clear hcz114_4
              try clear hcz84_0
              try clear hcz84_1
              try clear hcz93_0
              try clear hcz93_1
              try clear hfz100_0
              try clear hfz100_1
              try clear hfz105_0
              try clear hfz105_1
              try clear hfz105_2
              try clear hfz105_3
              try clear hfz105_4
              try clear hfz110_0
              try clear hfz110_1
              try clear hfz110_2
              try clear hfz110_3
              try clear hfz110_4
              try clear hfz114_0
              try clear hfz114_1
              try clear hfz114_2
              try clear hfz114_3
              try clear hfz114_4
              try clear hfz25_1
              try clear hfz27_0
              try clear hfz27_1
              try clear hfz28_0
              try clear hfz28_1
              try clear hfz35_0
              try clear hfz35_1
              try clear hfz36_0
              try clear hfz36_1
              try clear hfz42_0
              try clear hfz42_1
              try clear hfz49_0
              try clear hfz49_1
              try clear hfz51_0
              try clear hfz51_1
              try clear hfz55_0
              try clear hfz55_1
              try clear hfz57_0
              try clear hfz57_1
              try clear hfz59_0
              try clear hfz59_1
              try clear hfz62_0
              try clear hfz62_1
              try clear hfz64_0
              try clear hfz64_1
              try clear hfz70_0
              try clear hfz70_1
              try clear hfz72_0
              try clear hfz72_1
              try clear hfz78_0
              try clear hfz78_1
              try clear hfz78_2
              try clear hfz78_3
              try clear hfz78_4
              try clear hfz84_0
              try clear hfz84_1
              try clear hfz93_0
              try clear hfz93_1
              try clear hx172_0
              try clear hx172_1
              try clear hx172_2
              try clear hx172_3
              try clear hx173_0
              try clear hx173_1
              try clear hx173_2
              try clear hx173_3
              try clear p1
              try clear p17
              try clear p172
              try clear p173
              try clear p2
              try clear p6
              try clear p64
              try clear q1
              try clear q17
              try clear q172
              try clear q173
              obtain ⟨x14_5, rfl, HA, HK5, HO_163000, HO_163001, BK149, BK150, BK162, BK171, HB⟩ := hrel
              cases gk with
              | zero => exact absurd HA.out (by simp [fencepostlaw10_ScApart.l1])
              | succ k5 =>
               have H := HA.out
               clear HA
               simp only [fencepostlaw10_ScApart.l1] at H
               by_cases c115 : x14_5 < (l1_0.length : Int)
               ·rw [if_pos c115] at H
                have c115b0 : decide (x14_5 < (l1_0.length : Int)) = true := decide_eq_true c115
                clear c115
                by_cases c116 : 0 ≤ x14_5
                ·rw [if_pos c116] at H
                 have c116b0 : decide (0 ≤ x14_5) = true := decide_eq_true c116
                 clear c116
                 by_cases c117 : x14_5 < (t155.length : Int)
                 ·rw [if_pos c117] at H
                  have c117b0 : decide (x14_5 < (t155.length : Int)) = true := decide_eq_true c117
                  clear c117
                  by_cases c118 : (rd t155 x14_5) = (rd l1_0 x14_5)
                  ·rw [if_pos c118] at H
                   have c118b0 : ((rd t155 x14_5) == (rd l1_0 x14_5)) = true := beq_iff_eq.mpr c118
                   have c118b1 : ((rd t155 x14_5) != (rd l1_0 x14_5)) = false := bne_eq_false_iff_eq.mpr c118
                   clear c118
                   have H' := Aside0.mk H
                   clear H
                   have hnb119 := NB150_149.out
                   have hnc119 := NB149_150.out
                   have hnb120 := NB150_162.out
                   have hnc120 := NB162_150.out
                   have hnb121 := NB150_171.out
                   have hnc121 := NB171_150.out
                   have hcz122_0 : wr.cell? ⟨gb150, 0, none⟩ = some (.slice A1_0 l1_0.length c1_0) := (blk_cell BK150.out 0).trans rfl
                   have hcz122_1 : wr.cell? ⟨gb150, 1, none⟩ = some (.slice A1_1 l1_1.length c1_1) := (blk_cell BK150.out 1).trans rfl
                   have hfz122_0 := blk_frozen BK150.out 0
                   have hfz122_1 := blk_frozen BK150.out 1
                   try go_wp2
                   have n0_ := Aside0.mk (Kd.V_drew HO_163000.out)
                   have n1_ := Aside0.mk (Kd.V_drew HO_163001.out)
                   have n2_ := Aside0.mk (blk_drew BK149.out)
                   have n3_ := Aside0.mk (blk_drew BK150.out)
                   have n4_ := Aside0.mk (blk_drew BK162.out)
                   have n5_ := Aside0.mk (blk_drew BK171.out)
                   have n6_ := Aside0.mk (below_drew1 HB.out)
                   clear HO_163000
                   clear HO_163001
                   clear BK149
                   clear BK150
                   clear BK162
                   clear BK171
                   clear HB
                   have HO_163000 := n0_
                   have HO_163001 := n1_
                   have BK149 := n2_
                   have BK150 := n3_
                   have BK162 := n4_
                   have BK171 := n5_
                   have HB := n6_
                   clear n0_ n1_ n2_ n3_ n4_ n5_ n6_
                   have p175 : 0 ≤ (x14_5 : Int) := of_decide_eq_true (by first | (with_reducible assumption) | assumption)
                   have q175 : x14_5 < (t155.length : Int) := of_decide_eq_true (by first | (with_reducible assumption) | assumption)
                   obtain ⟨ad175, e175, hx175_0⟩ := Kd.at_int (Kd.V_reads' HO_163000.out).2.2 x14_5 p175 q175
                   cases e175
                   replace p175 := eq_true p175
                   replace q175 := eq_true q175
                   have p176 : 0 ≤ (x14_5 : Int) := of_decide_eq_true (by first | (with_reducible assumption) | assumption)
                   have q176 : x14_5 < (l1_0.length : Int) := of_decide_eq_true (by first | (with_reducible assumption) | assumption)
                   obtain ⟨ad176, e176, hx176_0⟩ := Kd.at_int HR1_0.out x14_5 p176 q176
                   have hw176_0 := hx176_0
                   cases e176
                   replace hx176_0 := (HB.out.cell (World.block_lt_of_cell? w _ hx176_0)).trans hx176_0
                   replace p176 := eq_true p176
                   replace q176 := eq_true q176
                   refine start_ (n := 21) (S := fun w' => w'.cell? ⟨gb162, 0, none⟩ = some (.slice (some ad175) t155.length co39) ∧ w'.cell? ⟨gb162, 1, none⟩ = some (.slice Ao43 t158.length co43) ∧ w'.cell? ⟨gb150, 0, none⟩ = some (.slice (some ad176) l1_0.length c1_0) ∧ w'.cell? ⟨gb150, 1, none⟩ = some (.slice A1_1 l1_1.length c1_1) ∧ w'.cell? (ad175.add (x14_5).toNat) = some (.int .i64 (rd t155 x14_5)) ∧ w'.cell? (ad176.add (x14_5).toNat) = some (.int .i64 (rd l1_0 x14_5))) (ds := []) #[false, false, false, false, false, false, false, false, false, false, false, false, false, false, false, false, false, false, false, false, false] (by kernel_rfl) rfl rfl ⟨(blk_cell BK162.out 0).trans rfl, (blk_cell BK162.out 1).trans rfl, (blk_cell BK150.out 0).trans rfl, (blk_cell BK150.out 1).trans rfl, hx175_0, ((HB.out.cell (World.block_lt_of_cell? w _ hw176_0)).trans hw176_0)⟩ (fun hHeld => ?_); refine with_tabW fencepostlaw10_ScApart.tab19 fencepostlaw10_ScApart.bits19 (fun HT_ HW_ => ?_)
                   generalize wr.drew = w123 at HO_163000 HO_163001 BK149 BK150 BK162 BK171 HB hx175_0 hx176_0 hHeld ⊢
                   refine pure_ (i := 0) (N := some 111) (v := ?_) (a' := ?_) #[true, false, false, false, false, false, false, false, false, false, false, false, false, false, false, false, false, false, false, false, false] rfl rfl (any_of HT_.out (by kernel_rfl)) (fun _ _ _ h => h) (Or.inl ⟨by rfl, ?_⟩) ?_ ?_
                   rotate_left
                   ·intro w'
                    go_simp
                    with_reducible rfl
                   rotate_left
                   ·simp only [Act.put, List.setIfInBounds_toArray, List.set_cons_zero, List.set_cons_succ, i64_w, i32_w]
                    rfl
                   refine pure_ (i := 2) (N := some 113) (v := ?_) (a' := ?_) #[true, false, true, false, false, false, false, false, false, false, false, false, false, false, false, false, false, false, false, false, false] rfl rfl (any_of HT_.out (by kernel_rfl)) (fun _ _ _ h => h) (Or.inl ⟨by rfl, ?_⟩) ?_ ?_
                   rotate_left
                   ·intro w'
                    go_simp
                    with_reducible rfl
                   rotate_left
                   ·simp only [Act.put, List.setIfInBounds_toArray, List.set_cons_zero, List.set_cons_succ, i64_w, i32_w]
                    rfl
                   refine pure_ (i := 5) (N := some 116) (v := ?_) (a' := ?_) #[true, false, true, false, false, true, false, false, false, false, false, false, false, false, false, false, false, false, false, false, false] rfl rfl (any_of HT_.out (by kernel_rfl)) (fun _ _ _ h => h) (Or.inl ⟨by rfl, ?_⟩) ?_ ?_
                   rotate_left
                   ·intro w'
                    go_simp
                    with_reducible rfl
                   rotate_left
                   ·simp only [Act.put, List.setIfInBounds_toArray, List.set_cons_zero, List.set_cons_succ, i64_w, i32_w]
                    rfl
                   refine pure_ (i := 7) (N := some 118) (v := ?_) (a' := ?_) #[true, false, true, false, false, true, false, true, false, false, false, false, false, false, false, false, false, false, false, false, false] rfl rfl (any_of HT_.out (by kernel_rfl)) (fun _ _ _ h => h) (Or.inl ⟨by rfl, ?_⟩) ?_ ?_
                   rotate_left
                   ·intro w'
                    go_simp
                    with_reducible rfl
                   rotate_left
                   ·simp only [Act.put, List.setIfInBounds_toArray, List.set_cons_zero, List.set_cons_succ, i64_w, i32_w]
                    rfl
                   refine take_ (i := 1) (N := some 112) (v := ?_) (a' := ?_) #[true, true, true, false, false, true, false, true, false, false, false, false, false, false, false, false, false, false, false, false, false] rfl rfl (take_ofW HT_.out HW_.out (by kernel_rfl)) (fun _ _ _ h => h) (Or.inl ⟨by rfl, ?_⟩) hHeld ?_ ?_
                   rotate_left
                   ·rintro w' ⟨s0, s1, s2, s3, s4, s5⟩
                    go_simp
                    with_reducible rfl
                   rotate_left
                   ·simp only [Act.put, List.setIfInBounds_toArray, List.set_cons_zero, List.set_cons_succ, i64_w, i32_w]
                    rfl
                   refine pure_ (i := 3) (N := some 114) (v := ?_) (a' := ?_) #[true, true, true, true, false, true, false, true, false, false, false, false, false, false, false, false, false, false, false, false, false] rfl rfl (any_of HT_.out (by kernel_rfl)) (fun _ _ _ h => h) (Or.inl ⟨by rfl, ?_⟩) ?_ ?_
                   rotate_left
                   ·intro w'
                    go_simp
                    with_reducible rfl
                   rotate_left
                   ·simp only [Act.put, List.setIfInBounds_toArray, List.set_cons_zero, List.set_cons_succ, i64_w, i32_w]
                    rfl
                   refine take_ (i := 4) (N := some 115) (v := ?_) (a' := ?_) #[true, true, true, true, true, true, false, true, false, false, false, false, false, false, false, false, false, false, false, false, false] rfl rfl (take_ofW HT_.out HW_.out (by kernel_rfl)) (fun _ _ _ h => h) (Or.inl ⟨by rfl, ?_⟩) hHeld ?_ ?_
                   rotate_left
                   ·rintro w' ⟨s0, s1, s2, s3, s4, s5⟩
                    go_simp
                    with_reducible rfl
                   rotate_left
                   ·simp only [Act.put, List.setIfInBounds_toArray, List.set_cons_zero, List.set_cons_succ, i64_w, i32_w]
                    rfl
                   refine take_ (i := 6) (N := some 117) (v := ?_) (a' := ?_) #[true, true, true, true, true, true, true, true, false, false, false, false, false, false, false, false, false, false, false, false, false] rfl rfl (take_ofW HT_.out HW_.out (by kernel_rfl)) (fun _ _ _ h => h) (Or.inl ⟨by rfl, ?_⟩) hHeld ?_ ?_
                   rotate_left
                   ·rintro w' ⟨s0, s1, s2, s3, s4, s5⟩
                    go_simp
                    with_reducible rfl
                   rotate_left
                   ·simp only [Act.put, List.setIfInBounds_toArray, List.set_cons_zero, List.set_cons_succ, i64_w, i32_w]
                    rfl
                   refine pure_ (i := 8) (N := some 119) (v := ?_) (a' := ?_) #[true, true, true, true, true, true, true, true, true, false, false, false, false, false, false, false, false, false, false, false, false] rfl rfl (any_of HT_.out (by kernel_rfl)) (fun _ _ _ h => h) (Or.inl ⟨by rfl, ?_⟩) ?_ ?_
                   rotate_left
                   ·intro w'
                    go_simp
                    with_reducible rfl
                   rotate_left
                   ·simp only [Act.put, List.setIfInBounds_toArray, List.set_cons_zero, List.set_cons_succ, i64_w, i32_w]
                    rfl
                   refine take_ (i := 9) (N := some 120) (v := ?_) (a' := ?_) #[true, true, true, true, true, true, true, true, true, true, false, false, false, false, false, false, false, false, false, false, false] rfl rfl (take_ofW HT_.out HW_.out (by kernel_rfl)) (fun _ _ _ h => h) (Or.inl ⟨by rfl, ?_⟩) hHeld ?_ ?_
                   rotate_left
                   ·rintro w' ⟨s0, s1, s2, s3, s4, s5⟩
                    go_simp
                    with_reducible rfl
                   rotate_left
                   ·simp only [Act.put, List.setIfInBounds_toArray, List.set_cons_zero, List.set_cons_succ, i64_w, i32_w]
                    rfl
                   refine pure_ (i := 10) (N := some 121) (v := ?_) (a' := ?_) #[true, true, true, true, true, true, true, true, true, true, true, false, false, false, false, false, false, false, false, false, false] rfl rfl (any_of HT_.out (by kernel_rfl)) (fun _ _ _ h => h) (Or.inl ⟨by rfl, ?_⟩) ?_ ?_
                   rotate_left
                   ·intro w'
                    go_simp
                    with_reducible rfl
                   rotate_left
                   ·simp only [Act.put, List.setIfInBounds_toArray, List.set_cons_zero, List.set_cons_succ, i64_w, i32_w]
                    rfl
                   refine pure_ (i := 11) (N := some 122) (v := ?_) (a' := ?_) #[true, true, true, true, true, true, true, true, true, true, true, true, false, false, false, false, false, false, false, false, false] rfl rfl (any_of HT_.out (by kernel_rfl)) (fun _ _ _ h => h) (Or.inl ⟨by rfl, ?_⟩) ?_ ?_
                   rotate_left
                   ·intro w'
                    go_simp
                    with_reducible rfl
                   rotate_left
                   ·simp only [Act.put, List.setIfInBounds_toArray, List.set_cons_zero, List.set_cons_succ, i64_w, i32_w]
                    rfl
                   refine pure_ (i := 12) (N := some 123) (v := undef) (a' := ?_) #[true, true, true, true, true, true, true, true, true, true, true, true, true, false, false, false, false, false, false, false, false] rfl rfl (any_of HT_.out (by kernel_rfl)) (fun _ _ _ h => h) (Or.inr ⟨by rfl, rfl⟩) ?_ ?_
                   rotate_left
                   ·simp only [Act.put, List.setIfInBounds_toArray, List.set_cons_zero, List.set_cons_succ, i64_w, i32_w]
                    rfl
                   refine pure_ (i := 13) (N := some 124) (v := undef) (a' := ?_) #[true, true, true, true, true, true, true, true, true, true, true, true, true, true, false, false, false, false, false, false, false] rfl rfl (any_of HT_.out (by kernel_rfl)) (fun _ _ _ h => h) (Or.inr ⟨by rfl, rfl⟩) ?_ ?_
                   rotate_left
                   ·simp only [Act.put, List.setIfInBounds_toArray, List.set_cons_zero, List.set_cons_succ, i64_w, i32_w]
                    rfl
                   refine pure_ (i := 14) (N := some 125) (v := undef) (a' := ?_) #[true, true, true, true, true, true, true, true, true, true, true, true, true, true, true, false, false, false, false, false, false] rfl rfl (any_of HT_.out (by kernel_rfl)) (fun _ _ _ h => h) (Or.inr ⟨by rfl, rfl⟩) ?_ ?_
                   rotate_left
                   ·simp only [Act.put, List.setIfInBounds_toArray, List.set_cons_zero, List.set_cons_succ, i64_w, i32_w]
                    rfl
                   refine pure_ (i := 15) (N := some 126) (v := undef) (a' := ?_) #[true, true, true, true, true, true, true, true, true, true, true, true, true, true, true, true, false, false, false, false, false] rfl rfl (any_of HT_.out (by kernel_rfl)) (fun _ _ _ h => h) (Or.inr ⟨by rfl, rfl⟩) ?_ ?_
                   rotate_left
                   ·simp only [Act.put, List.setIfInBounds_toArray, List.set_cons_zero, List.set_cons_succ, i64_w, i32_w]
                    rfl
                   refine pure_ (i := 16) (N := some 127) (v := undef) (a' := ?_) #[true, true, true, true, true, true, true, true, true, true, true, true, true, true, true, true, true, false, false, false, false] rfl rfl (any_of HT_.out (by kernel_rfl)) (fun _ _ _ h => h) (Or.inr ⟨by rfl, rfl⟩) ?_ ?_
                   rotate_left
                   ·simp only [Act.put, List.setIfInBounds_toArray, List.set_cons_zero, List.set_cons_succ, i64_w, i32_w]
                    rfl
                   refine pure_ (i := 17) (N := some 128) (v := undef) (a' := ?_) #[true, true, true, true, true, true, true, true, true, true, true, true, true, true, true, true, true, true, false, false, false] rfl rfl (any_of HT_.out (by kernel_rfl)) (fun _ _ _ h => h) (Or.inr ⟨by rfl, rfl⟩) ?_ ?_
                   rotate_left
                   ·simp only [Act.put, List.setIfInBounds_toArray, List.set_cons_zero, List.set_cons_succ, i64_w, i32_w]
                    rfl
                   refine pure_ (i := 18) (N := some 129) (v := undef) (a' := ?_) #[true, true, true, true, true, true, true, true, true, true, true, true, true, true, true, true, true, true, true, false, false] rfl rfl (any_of HT_.out (by kernel_rfl)) (fun _ _ _ h => h) (Or.inr ⟨by rfl, rfl⟩) ?_ ?_
                   rotate_left
                   ·simp only [Act.put, List.setIfInBounds_toArray, List.set_cons_zero, List.set_cons_succ, i64_w, i32_w]
                    rfl
                   refine pure_ (i := 19) (N := some 130) (v := undef) (a' := ?_) #[true, true, true, true, true, true, true, true, true, true, true, true, true, true, true, true, true, true, true, true, false] rfl rfl (any_of HT_.out (by kernel_rfl)) (fun _ _ _ h => h) (Or.inr ⟨by rfl, rfl⟩) ?_ ?_
                   rotate_left
                   ·simp only [Act.put, List.setIfInBounds_toArray, List.set_cons_zero, List.set_cons_succ, i64_w, i32_w]
                    rfl
                   refine pure_ (i := 20) (N := some 131) (v := ?_) (a' := ?_) #[true, true, true, true, true, true, true, true, true, true, true, true, true, true, true, true, true, true, true, true, true] rfl rfl (any_of HT_.out (by kernel_rfl)) (fun _ _ _ h => h) (Or.inl ⟨by rfl, ?_⟩) ?_ ?_
                   rotate_left
                   ·intro w'
                    go_simp
                    with_reducible rfl
                   rotate_left
                   ·simp only [Act.put, List.setIfInBounds_toArray, List.set_cons_zero, List.set_cons_succ, i64_w, i32_w]
                    rfl
                   refine done_ (done_of HT_.out (by kernel_rfl)) ?_
                   try go_wp2
                   go_roundg k5
                   case measure => have := HJ4.out; have := HJ32.out; have := HK3.out; have := HJ95.out; have := HK5.out; omega
                   case rel => exact ⟨(wrap64 (x14_5 + 1)), (by first | rfl | (simp; done) | (simp [*]; done)), H', ⟨by have := HJ4.out; have := HJ32.out; have := HK3.out; have := HJ95.out; have := HK5.out; omega⟩, ⟨by (with_reducible repeat (first | apply Kd.V_alloc | apply Kd.V_drewN | apply Kd.V_drew)); exact HO_163000.out⟩, ⟨by (with_reducible repeat (first | apply Kd.V_alloc | apply Kd.V_drewN | apply Kd.V_drew)); exact HO_163001.out⟩, ⟨by (with_reducible repeat (first | refine blk_drewN ?_ _ | refine blk_drew ?_ | refine blk_alloc ?_ _)); exact BK149.out⟩, ⟨by (with_reducible repeat (first | refine blk_drewN ?_ _ | refine blk_drew ?_ | refine blk_alloc ?_ _)); exact BK150.out⟩, ⟨by (with_reducible repeat (first | refine blk_drewN ?_ _ | refine blk_drew ?_ | refine blk_alloc ?_ _)); exact BK162.out⟩, ⟨by (with_reducible repeat (first | refine blk_drewN ?_ _ | refine blk_drew ?_ | refine blk_alloc ?_ _)); exact BK171.out⟩, ⟨by repeat (first | (with_reducible first | exact HB.out | apply below_alloc | apply pw_below_drewN | apply below_drew1 | refine below_set ?_ GE149.out | refine below_set ?_ GE150.out | refine below_set ?_ GE162.out | refine below_set ?_ GE171.out) | exact HB.out)⟩⟩
                  ·rw [if_neg c118] at H
                   have c118b0 : ((rd t155 x14_5) == (rd l1_0 x14_5)) = false := beq_eq_false_iff_ne.mpr c118
                   have c118b1 : ((rd t155 x14_5) != (rd l1_0 x14_5)) = true := bne_iff_ne.mpr c118
                   by_cases c124 : x13_95 = true
                   ·subst c124
                    have H1 : (if x14_5 = t167 then (fencepostlaw10_ScApart.l1 k5 a2 t151 true (wrap64 (x14_5 + 1)) l1_0 l1_1 t155 t158 t165 t166 t167 t168 t169) else (some false)) = some r := by rw [if_pos rfl] at H; exact H
                    clear H
                    have H := H1
                    clear H1
                    by_cases c125 : x14_5 = t167
                    ·rw [if_pos c125] at H
                     have c125b0 : (x14_5 == t167) = true := beq_iff_eq.mpr c125
                     have c125b1 : (x14_5 != t167) = false := bne_eq_false_iff_eq.mpr c125
                     clear c125
                     have H' := Aside0.mk H
                     clear H
                     have hnb126 := NB150_149.out
                     have hnc126 := NB149_150.out
                     have hnb127 := NB150_162.out
                     have hnc127 := NB162_150.out
                     have hnb128 := NB150_171.out
                     have hnc128 := NB171_150.out
                     have hcz129_0 : wr.cell? ⟨gb150, 0, none⟩ = some (.slice A1_0 l1_0.length c1_0) := (blk_cell BK150.out 0).trans rfl
                     have hcz129_1 : wr.cell? ⟨gb150, 1, none⟩ = some (.slice A1_1 l1_1.length c1_1) := (blk_cell BK150.out 1).trans rfl
                     have hfz129_0 := blk_frozen BK150.out 0
                     have hfz129_1 := blk_frozen BK150.out 1
                     try go_wp2
                     have n0_ := Aside0.mk (Kd.V_drew HO_163000.out)
                     have n1_ := Aside0.mk (Kd.V_drew HO_163001.out)
                     have n2_ := Aside0.mk (blk_drew BK149.out)
                     have n3_ := Aside0.mk (blk_drew BK150.out)
                     have n4_ := Aside0.mk (blk_drew BK162.out)
                     have n5_ := Aside0.mk (blk_drew BK171.out)
                     have n6_ := Aside0.mk (below_drew1 HB.out)
                     clear HO_163000
                     clear HO_163001
                     clear BK149
                     clear BK150
                     clear BK162
                     clear BK171
                     clear HB
                     have HO_163000 := n0_
                     have HO_163001 := n1_
                     have BK149 := n2_
                     have BK150 := n3_
                     have BK162 := n4_
                     have BK171 := n5_
                     have HB := n6_
                     clear n0_ n1_ n2_ n3_ n4_ n5_ n6_
                     have p175 : 0 ≤ (x14_5 : Int) := of_decide_eq_true (by first | (with_reducible assumption) | assumption)
                     have q175 : x14_5 < (t155.length : Int) := of_decide_eq_true (by first | (with_reducible assumption) | assumption)
                     obtain ⟨ad175, e175, hx175_0⟩ := Kd.at_int (Kd.V_reads' HO_163000.out).2.2 x14_5 p175 q175
                     cases e175
                     replace p175 := eq_true p175
                     replace q175 := eq_true q175
                     have p176 : 0 ≤ (x14_5 : Int) := of_decide_eq_true (by first | (with_reducible assumption) | assumption)
                     have q176 : x14_5 < (l1_0.length : Int) := of_decide_eq_true (by first | (with_reducible assumption) | assumption)
                     obtain ⟨ad176, e176, hx176_0⟩ := Kd.at_int HR1_0.out x14_5 p176 q176
                     have hw176_0 := hx176_0
                     cases e176
                     replace hx176_0 := (HB.out.cell (World.block_lt_of_cell? w _ hx176_0)).trans hx176_0
                     replace p176 := eq_true p176
                     replace q176 := eq_true q176
                     refine start_ (n := 21) (S := fun w' => w'.cell? ⟨gb162, 0, none⟩ = some (.slice (some ad175) t155.length co39) ∧ w'.cell? ⟨gb162, 1, none⟩ = some (.slice Ao43 t158.length co43) ∧ w'.cell? ⟨gb150, 0, none⟩ = some (.slice (some ad176) l1_0.length c1_0) ∧ w'.cell? ⟨gb150, 1, none⟩ = some (.slice A1_1 l1_1.length c1_1) ∧ w'.cell? ⟨gb171, 0, none⟩ = some (.int .i64 t165) ∧ w'.cell? ⟨gb171, 1, none⟩ = some (.int .i64 t166) ∧ w'.cell? ⟨gb171, 2, none⟩ = some (.int .i64 t167) ∧ w'.cell? ⟨gb171, 3, none⟩ = some (.int .i64 t168) ∧ w'.cell? ⟨gb171, 4, none⟩ = some (.int .i64 t169) ∧ w'.cell? (ad175.add (x14_5).toNat) = some (.int .i64 (rd t155 x14_5)) ∧ w'.cell? (ad176.add (x14_5).toNat) = some (.int .i64 (rd l1_0 x14_5))) (ds := []) #[false, false, false, false, false, false, false, false, false, false, false, false, false, false, false, false, false, false, false, false, false] (by kernel_rfl) rfl rfl ⟨(blk_cell BK162.out 0).trans rfl, (blk_cell BK162.out 1).trans rfl, (blk_cell BK150.out 0).trans rfl, (blk_cell BK150.out 1).trans rfl, (blk_cell BK171.out 0).trans rfl, (blk_cell BK171.out 1).trans rfl, (blk_cell BK171.out 2).trans rfl, (blk_cell BK171.out 3).trans rfl, (blk_cell BK171.out 4).trans rfl, hx175_0, ((HB.out.cell (World.block_lt_of_cell? w _ hw176_0)).trans hw176_0)⟩ (fun hHeld => ?_); refine with_tabW fencepostlaw10_ScApart.tab19 fencepostlaw10_ScApart.bits19 (fun HT_ HW_ => ?_)
                     generalize wr.drew = w130 at HO_163000 HO_163001 BK149 BK150 BK162 BK171 HB hx175_0 hx176_0 hHeld ⊢
                     refine pure_ (i := 0) (N := some 111) (v := ?_) (a' := ?_) #[true, false, false, false, false, false, false, false, false, false, false, false, false, false, false, false, false, false, false, false, false] rfl rfl (any_of HT_.out (by kernel_rfl)) (fun _ _ _ h => h) (Or.inl ⟨by rfl, ?_⟩) ?_ ?_
                     rotate_left
                     ·intro w'
                      go_simp
                      with_reducible rfl
                     rotate_left
                     ·simp only [Act.put, List.setIfInBounds_toArray, List.set_cons_zero, List.set_cons_succ, i64_w, i32_w]
                      rfl
                     refine pure_ (i := 2) (N := some 113) (v := ?_) (a' := ?_) #[true, false, true, false, false, false, false, false, false, false, false, false, false, false, false, false, false, false, false, false, false] rfl rfl (any_of HT_.out (by kernel_rfl)) (fun _ _ _ h => h) (Or.inl ⟨by rfl, ?_⟩) ?_ ?_
                     rotate_left
                     ·intro w'
                      go_simp
                      with_reducible rfl
                     rotate_left
                     ·simp only [Act.put, List.setIfInBounds_toArray, List.set_cons_zero, List.set_cons_succ, i64_w, i32_w]
                      rfl
                     refine pure_ (i := 5) (N := some 116) (v := ?_) (a' := ?_) #[true, false, true, false, false, true, false, false, false, false, false, false, false, false, false, false, false, false, false, false, false] rfl rfl (any_of HT_.out (by kernel_rfl)) (fun _ _ _ h => h) (Or.inl ⟨by rfl, ?_⟩) ?_ ?_
                     rotate_left
                     ·intro w'
                      go_simp
                      with_reducible rfl
                     rotate_left
                     ·simp only [Act.put, List.setIfInBounds_toArray, List.set_cons_zero, List.set_cons_succ, i64_w, i32_w]
                      rfl
                     refine pure_ (i := 7) (N := some 118) (v := ?_) (a' := ?_) #[true, false, true, false, false, true, false, true, false, false, false, false, false, false, false, false, false, false, false, false, false] rfl rfl (any_of HT_.out (by kernel_rfl)) (fun _ _ _ h => h) (Or.inl ⟨by rfl, ?_⟩) ?_ ?_
                     rotate_left
                     ·intro w'
                      go_simp
                      with_reducible rfl
                     rotate_left
                     ·simp only [Act.put, List.setIfInBounds_toArray, List.set_cons_zero, List.set_cons_succ, i64_w, i32_w]
                      rfl
                     refine take_ (i := 1) (N := some 112) (v := ?_) (a' := ?_) #[true, true, true, false, false, true, false, true, false, false, false, false, false, false, false, false, false, false, false, false, false] rfl rfl (take_ofW HT_.out HW_.out (by kernel_rfl)) (fun _ _ _ h => h) (Or.inl ⟨by rfl, ?_⟩) hHeld ?_ ?_
                     rotate_left
                     ·rintro w' ⟨s0, s1, s2, s3, s4, s5, s6, s7, s8, s9, s10⟩
                      go_simp
                      with_reducible rfl
                     rotate_left
                     ·simp only [Act.put, List.setIfInBounds_toArray, List.set_cons_zero, List.set_cons_succ, i64_w, i32_w]
                      rfl
                     refine pure_ (i := 3) (N := some 114) (v := ?_) (a' := ?_) #[true, true, true, true, false, true, false, true, false, false, false, false, false, false, false, false, false, false, false, false, false] rfl rfl (any_of HT_.out (by kernel_rfl)) (fun _ _ _ h => h) (Or.inl ⟨by rfl, ?_⟩) ?_ ?_
                     rotate_left
                     ·intro w'
                      go_simp
                      with_reducible rfl
                     rotate_left
                     ·simp only [Act.put, List.setIfInBounds_toArray, List.set_cons_zero, List.set_cons_succ, i64_w, i32_w]
                      rfl
                     refine take_ (i := 4) (N := some 115) (v := ?_) (a' := ?_) #[true, true, true, true, true, true, false, true, false, false, false, false, false, false, false, false, false, false, false, false, false] rfl rfl (take_ofW HT_.out HW_.out (by kernel_rfl)) (fun _ _ _ h => h) (Or.inl ⟨by rfl, ?_⟩) hHeld ?_ ?_
                     rotate_left
                     ·rintro w' ⟨s0, s1, s2, s3, s4, s5, s6, s7, s8, s9, s10⟩
                      go_simp
                      with_reducible rfl
                     rotate_left
                     ·simp only [Act.put, List.setIfInBounds_toArray, List.set_cons_zero, List.set_cons_succ, i64_w, i32_w]
                      rfl
                     refine take_ (i := 6) (N := some 117) (v := ?_) (a' := ?_) #[true, true, true, true, true, true, true, true, false, false, false, false, false, false, false, false, false, false, false, false, false] rfl rfl (take_ofW HT_.out HW_.out (by kernel_rfl)) (fun _ _ _ h => h) (Or.inl ⟨by rfl, ?_⟩) hHeld ?_ ?_
                     rotate_left
                     ·rintro w' ⟨s0, s1, s2, s3, s4, s5, s6, s7, s8, s9, s10⟩
                      go_simp
                      with_reducible rfl
                     rotate_left
                     ·simp only [Act.put, List.setIfInBounds_toArray, List.set_cons_zero, List.set_cons_succ, i64_w, i32_w]
                      rfl
                     refine pure_ (i := 8) (N := some 119) (v := ?_) (a' := ?_) #[true, true, true, true, true, true, true, true, true, false, false, false, false, false, false, false, false, false, false, false, false] rfl rfl (any_of HT_.out (by kernel_rfl)) (fun _ _ _ h => h) (Or.inl ⟨by rfl, ?_⟩) ?_ ?_
                     rotate_left
                     ·intro w'
                      go_simp
                      with_reducible rfl
                     rotate_left
                     ·simp only [Act.put, List.setIfInBounds_toArray, List.set_cons_zero, List.set_cons_succ, i64_w, i32_w]
                      rfl
                     refine take_ (i := 9) (N := some 120) (v := ?_) (a' := ?_) #[true, true, true, true, true, true, true, true, true, true, false, false, false, false, false, false, false, false, false, false, false] rfl rfl (take_ofW HT_.out HW_.out (by kernel_rfl)) (fun _ _ _ h => h) (Or.inl ⟨by rfl, ?_⟩) hHeld ?_ ?_
                     rotate_left
                     ·rintro w' ⟨s0, s1, s2, s3, s4, s5, s6, s7, s8, s9, s10⟩
                      go_simp
                      with_reducible rfl
                     rotate_left
                     ·simp only [Act.put, List.setIfInBounds_toArray, List.set_cons_zero, List.set_cons_succ, i64_w, i32_w]
                      rfl
                     refine pure_ (i := 10) (N := some 121) (v := ?_) (a' := ?_) #[true, true, true, true, true, true, true, true, true, true, true, false, false, false, false, false, false, false, false, false, false] rfl rfl (any_of HT_.out (by kernel_rfl)) (fun _ _ _ h => h) (Or.inl ⟨by rfl, ?_⟩) ?_ ?_
                     rotate_left
                     ·intro w'
                      go_simp
                      with_reducible rfl
                     rotate_left
                     ·simp only [Act.put, List.setIfInBounds_toArray, List.set_cons_zero, List.set_cons_succ, i64_w, i32_w]
                      rfl
                     refine pure_ (i := 11) (N := some 122) (v := ?_) (a' := ?_) #[true, true, true, true, true, true, true, true, true, true, true, true, false, false, false, false, false, false, false, false, false] rfl rfl (any_of HT_.out (by kernel_rfl)) (fun _ _ _ h => h) (Or.inl ⟨by rfl, ?_⟩) ?_ ?_
                     rotate_left
                     ·intro w'
                      go_simp
                      with_reducible rfl
                     rotate_left
                     ·simp only [Act.put, List.setIfInBounds_toArray, List.set_cons_zero, List.set_cons_succ, i64_w, i32_w]
                      rfl
                     refine pure_ (i := 12) (N := some 123) (v := ?_) (a' := ?_) #[true, true, true, true, true, true, true, true, true, true, true, true, true, false, false, false, false, false, false, false, false] rfl rfl (any_of HT_.out (by kernel_rfl)) (fun _ _ _ h => h) (Or.inl ⟨by rfl, ?_⟩) ?_ ?_
                     rotate_left
                     ·intro w'
                      go_simp
                      with_reducible rfl
                     rotate_left
                     ·simp only [Act.put, List.setIfInBounds_toArray, List.set_cons_zero, List.set_cons_succ, i64_w, i32_w]
                      rfl
                     refine pure_ (i := 13) (N := some 124) (v := ?_) (a' := ?_) #[true, true, true, true, true, true, true, true, true, true, true, true, true, true, false, false, false, false, false, false, false] rfl rfl (any_of HT_.out (by kernel_rfl)) (fun _ _ _ h => h) (Or.inl ⟨by rfl, ?_⟩) ?_ ?_
                     rotate_left
                     ·intro w'
                      go_simp
                      with_reducible rfl
                     rotate_left
                     ·simp only [Act.put, List.setIfInBounds_toArray, List.set_cons_zero, List.set_cons_succ, i64_w, i32_w]
                      rfl
                     refine pure_ (i := 14) (N := some 125) (v := ?_) (a' := ?_) #[true, true, true, true, true, true, true, true, true, true, true, true, true, true, true, false, false, false, false, false, false] rfl rfl (any_of HT_.out (by kernel_rfl)) (fun _ _ _ h => h) (Or.inl ⟨by rfl, ?_⟩) ?_ ?_
                     rotate_left
                     ·intro w'
                      go_simp
                      with_reducible rfl
                     rotate_left
                     ·simp only [Act.put, List.setIfInBounds_toArray, List.set_cons_zero, List.set_cons_succ, i64_w, i32_w]
                      rfl
                     refine pure_ (i := 15) (N := some 126) (v := ?_) (a' := ?_) #[true, true, true, true, true, true, true, true, true, true, true, true, true, true, true, true, false, false, false, false, false] rfl rfl (any_of HT_.out (by kernel_rfl)) (fun _ _ _ h => h) (Or.inl ⟨by rfl, ?_⟩) ?_ ?_
                     rotate_left
                     ·intro w'
                      go_simp
                      with_reducible rfl
                     rotate_left
                     ·simp only [Act.put, List.setIfInBounds_toArray, List.set_cons_zero, List.set_cons_succ, i64_w, i32_w]
                      rfl
                     refine pure_ (i := 16) (N := some 127) (v := ?_) (a' := ?_) #[true, true, true, true, true, true, true, true, true, true, true, true, true, true, true, true, true, false, false, false, false] rfl rfl (any_of HT_.out (by kernel_rfl)) (fun _ _ _ h => h) (Or.inl ⟨by rfl, ?_⟩) ?_ ?_
                     rotate_left
                     ·intro w'
                      go_simp
                      with_reducible rfl
                     rotate_left
                     ·simp only [Act.put, List.setIfInBounds_toArray, List.set_cons_zero, List.set_cons_succ, i64_w, i32_w]
                      rfl
                     refine take_ (i := 17) (N := some 128) (v := ?_) (a' := ?_) #[true, true, true, true, true, true, true, true, true, true, true, true, true, true, true, true, true, true, false, false, false] rfl rfl (take_ofW HT_.out HW_.out (by kernel_rfl)) (fun _ _ _ h => h) (Or.inl ⟨by rfl, ?_⟩) hHeld ?_ ?_
                     rotate_left
                     ·rintro w' ⟨s0, s1, s2, s3, s4, s5, s6, s7, s8, s9, s10⟩
                      go_simp
                      with_reducible rfl
                     rotate_left
                     ·simp only [Act.put, List.setIfInBounds_toArray, List.set_cons_zero, List.set_cons_succ, i64_w, i32_w]
                      rfl
                     refine pure_ (i := 18) (N := some 129) (v := ?_) (a' := ?_) #[true, true, true, true, true, true, true, true, true, true, true, true, true, true, true, true, true, true, true, false, false] rfl rfl (any_of HT_.out (by kernel_rfl)) (fun _ _ _ h => h) (Or.inl ⟨by rfl, ?_⟩) ?_ ?_
                     rotate_left
                     ·intro w'
                      go_simp
                      with_reducible rfl
                     rotate_left
                     ·simp only [Act.put, List.setIfInBounds_toArray, List.set_cons_zero, List.set_cons_succ, i64_w, i32_w]
                      rfl
                     refine pure_ (i := 19) (N := some 130) (v := ?_) (a' := ?_) #[true, true, true, true, true, true, true, true, true, true, true, true, true, true, true, true, true, true, true, true, false] rfl rfl (any_of HT_.out (by kernel_rfl)) (fun _ _ _ h => h) (Or.inl ⟨by rfl, ?_⟩) ?_ ?_
                     rotate_left
                     ·intro w'
                      go_simp
                      with_reducible rfl
                     rotate_left
                     ·simp only [Act.put, List.setIfInBounds_toArray, List.set_cons_zero, List.set_cons_succ, i64_w, i32_w]
                      rfl
                     refine pure_ (i := 20) (N := some 131) (v := ?_) (a' := ?_) #[true, true, true, true, true, true, true, true, true, true, true, true, true, true, true, true, true, true, true, true, true] rfl rfl (any_of HT_.out (by kernel_rfl)) (fun _ _ _ h => h) (Or.inl ⟨by rfl, ?_⟩) ?_ ?_
                     rotate_left
                     ·intro w'
                      go_simp
                      with_reducible rfl
                     rotate_left
                     ·simp only [Act.put, List.setIfInBounds_toArray, List.set_cons_zero, List.set_cons_succ, i64_w, i32_w]
                      rfl
                     refine done_ (done_of HT_.out (by kernel_rfl)) ?_
                     try go_wp2
                     go_roundg k5
                     case measure => have := HJ4.out; have := HJ32.out; have := HK3.out; have := HJ95.out; have := HK5.out; omega
                     case rel => exact ⟨(wrap64 (x14_5 + 1)), (by first | rfl | (simp; done) | (simp [*]; done)), H', ⟨by have := HJ4.out; have := HJ32.out; have := HK3.out; have := HJ95.out; have := HK5.out; omega⟩, ⟨by (with_reducible repeat (first | apply Kd.V_alloc | apply Kd.V_drewN | apply Kd.V_drew)); exact HO_163000.out⟩, ⟨by (with_reducible repeat (first | apply Kd.V_alloc | apply Kd.V_drewN | apply Kd.V_drew)); exact HO_163001.out⟩, ⟨by (with_reducible repeat (first | refine blk_drewN ?_ _ | refine blk_drew ?_ | refine blk_alloc ?_ _)); exact BK149.out⟩, ⟨by (with_reducible repeat (first | refine blk_drewN ?_ _ | refine blk_drew ?_ | refine blk_alloc ?_ _)); exact BK150.out⟩, ⟨by (with_reducible repeat (first | refine blk_drewN ?_ _ | refine blk_drew ?_ | refine blk_alloc ?_ _)); exact BK162.out⟩, ⟨by (with_reducible repeat (first | refine blk_drewN ?_ _ | refine blk_drew ?_ | refine blk_alloc ?_ _)); exact BK171.out⟩, ⟨by repeat (first | (with_reducible first | exact HB.out | apply below_alloc | apply pw_below_drewN | apply below_drew1 | refine below_set ?_ GE149.out | refine below_set ?_ GE150.out | refine below_set ?_ GE162.out | refine below_set ?_ GE171.out) | exact HB.out)⟩⟩
                    ·rw [if_neg c125] at H
                     have c125b0 : (x14_5 == t167) = false := beq_eq_false_iff_ne.mpr c125
                     have c125b1 : (x14_5 != t167) = true := bne_iff_ne.mpr c125
                     exact absurd ((Option.some.inj H).trans HT.out) (by simp)
                   ·replace c124 := Bool.eq_false_iff.mpr c124
                    subst c124
                    have H1 : (some false) = some r := by rw [if_neg (show ¬ (false = true) by decide)] at H; exact H
                    clear H
                    have H := H1
                    clear H1
                    exact absurd ((Option.some.inj H).trans HT.out) (by simp)
                 ·rw [if_neg c117] at H
                  exact absurd H (by simp)
                ·rw [if_neg c116] at H
                 exact absurd H (by simp)
               ·rw [if_neg c115] at H
                have c115b0 : decide (x14_5 < (l1_0.length : Int)) = false := decide_eq_false c115
                clear c115
                by_cases c131 : 0 ≤ a2
                ·rw [if_pos c131] at H
                 have c131b0 : decide (0 ≤ a2) = true := decide_eq_true c131
                 clear c131
                 by_cases c132 : a2 < (t158.length : Int)
                 ·rw [if_pos c132] at H
                  have c132b0 : decide (a2 < (t158.length : Int)) = true := decide_eq_true c132
                  clear c132
                  by_cases c133 : a2 < (l1_1.length : Int)
                  ·rw [if_pos c133] at H
                   have c133b0 : decide (a2 < (l1_1.length : Int)) = true := decide_eq_true c133
                   clear c133
                   by_cases c134 : t151 = true
                   ·subst c134
                    have H1 : ((fencepostref10_SameTh.f k5 ((rd_T45 t158 a2).f0) ((rd_T45 t158 a2).f1) ((rd_T45 t158 a2).f2) ((rd_T45 t158 a2).f3) ((rd_T45 t158 a2).f0) ((rd_T45 t158 a2).f1) ((rd_T45 t158 a2).f2) ((rd_T45 l1_1 a2).f3)).bind fun t181 => (some t181)) = some r := by rw [if_pos rfl] at H; exact H
                    clear H
                    have H := H1
                    clear H1
                    replace H := Option.bind_eq_some_iff.mp H
                    obtain ⟨t181, A1350, H⟩ := H
                    replace H : (some t181) = some r := H
                    have A135 := Aside0.mk A1350
                    clear A1350
                    obtain rfl := Option.some.inj H
                    have hnb136 := NB150_149.out
                    have hnc136 := NB149_150.out
                    have hnb137 := NB150_162.out
                    have hnc137 := NB162_150.out
                    have hnb138 := NB150_171.out
                    have hnc138 := NB171_150.out
                    have hcz139_0 : wr.cell? ⟨gb150, 0, none⟩ = some (.slice A1_0 l1_0.length c1_0) := (blk_cell BK150.out 0).trans rfl
                    have hcz139_1 : wr.cell? ⟨gb150, 1, none⟩ = some (.slice A1_1 l1_1.length c1_1) := (blk_cell BK150.out 1).trans rfl
                    have hfz139_0 := blk_frozen BK150.out 0
                    have hfz139_1 := blk_frozen BK150.out 1
                    have hnb140 := NB162_149.out
                    have hnc140 := NB149_162.out
                    have hnb141 := NB162_171.out
                    have hnc141 := NB171_162.out
                    have hcz142_0 : wr.cell? ⟨gb162, 0, none⟩ = some (.slice Ao39 t155.length co39) := (blk_cell BK162.out 0).trans rfl
                    have hcz142_1 : wr.cell? ⟨gb162, 1, none⟩ = some (.slice Ao43 t158.length co43) := (blk_cell BK162.out 1).trans rfl
                    have hfz142_0 := blk_frozen BK162.out 0
                    have hfz142_1 := blk_frozen BK162.out 1
                    have p177 : 0 ≤ (a2 : Int) := of_decide_eq_true (by first | (with_reducible assumption) | assumption)
                    have q177 : a2 < (t158.length : Int) := of_decide_eq_true (by first | (with_reducible assumption) | assumption)
                    obtain ⟨ad177, A177_1, c177_1, A177_3, c177_3, e177, hx177_0, hx177_1, hx177_2, hx177_3, hl177_1, hi177_1, hl177_3, hi177_3⟩ := at_T45 (Kd.V_reads' HO_163001.out).2.2 a2 p177 q177
                    cases e177
                    obtain ⟨ce177, hce177, hMe177, hcc177⟩ := Kd.V_get HO_163001.out z45 a2 p177 (by first | exact q177 | exact of_decide_eq_true (by first | (with_reducible assumption) | assumption) | (have e_ := (Kd.V_reads' HO_163001.out).1; omega))
                    obtain ⟨ua177_1, uc177_1, ua177_3, uc177_3, rfl, ul177_1, ge177_1, ul177_3, ge177_3⟩ := k45_openF hMe177
                    have hv177_1 := hcc177 1 _ rfl
                    rw [add_field _ _ 1 (by omega)] at hv177_1
                    replace hv177_1 := Option.some.inj (hv177_1.symm.trans hx177_1)
                    injection hv177_1 with hva_ hvn_ hvc_
                    rw [hva_] at ge177_1
                    rw [hvc_] at ul177_1
                    have HL177_1 := Aside0.mk (show Kd.V (Kd.int .i64) 3 _ w.heap.size _ _ ((rd_T45 t158 a2).f1) from Kd.V_mk ul177_1 ge177_1)
                    clear hva_ hvn_ hvc_ ge177_1 ul177_1
                    have hv177_3 := hcc177 3 _ rfl
                    rw [add_field _ _ 3 (by omega)] at hv177_3
                    replace hv177_3 := Option.some.inj (hv177_3.symm.trans hx177_3)
                    injection hv177_3 with hva_ hvn_ hvc_
                    rw [hva_] at ge177_3
                    rw [hvc_] at ul177_3
                    have HL177_3 := Aside0.mk (show Kd.V k53 53 _ w.heap.size _ _ ((rd_T45 t158 a2).f3) from Kd.V_mk ul177_3 ge177_3)
                    clear hva_ hvn_ hvc_ ge177_3 ul177_3
                    clear hcc177 hce177
                    have HR177_1 := Aside0.mk hi177_1
                    have HC177_1 := Aside0.mk hl177_1
                    clear hi177_1 hl177_1
                    have HR177_3 := Aside0.mk hi177_3
                    have HC177_3 := Aside0.mk hl177_3
                    clear hi177_3 hl177_3
                    replace p177 := eq_true p177
                    replace q177 := eq_true q177
                    try go_wp2_with (first | ((with_reducible refine gate_dst (N := 15) rfl ?_); (try (refine gate_guard (by rfl) ?_; dsimp only)); refine box_event ?hg (N := 15) ?hd (cs := #[.int .i64 0, .slice none 0 0, .bool false, .slice none 0 0]) (t := 45) ?hr ?_; (case hd => rfl); (case hg => rfl); (case hr => first | (go_simp; done) | (go_simp; rfl)); intro gb178 hg w143 hbox hb; have n0_ := Aside0.mk (Kd.V_below (Kd.V_elderB (by (with_reducible repeat (first | apply Kd.V_alloc | apply Kd.V_drewN | apply Kd.V_drew)); exact HO_163000.out) gb178 (Nat.le_of_eq hg.symm)) hb); have n1_ := Aside0.mk (Kd.V_below (Kd.V_elderB (by (with_reducible repeat (first | apply Kd.V_alloc | apply Kd.V_drewN | apply Kd.V_drew)); exact HO_163001.out) gb178 (Nat.le_of_eq hg.symm)) hb); have n2_ := Aside0.mk (Kd.V_below (Kd.V_elderB (by (with_reducible repeat (first | apply Kd.V_alloc | apply Kd.V_drewN | apply Kd.V_drew)); exact HL177_1.out) gb178 (Nat.le_of_eq hg.symm)) hb); have n3_ := Aside0.mk (Kd.V_below (Kd.V_elderB (by (with_reducible repeat (first | apply Kd.V_alloc | apply Kd.V_drewN | apply Kd.V_drew)); exact HL177_3.out) gb178 (Nat.le_of_eq hg.symm)) hb); have n4_ := Aside0.mk (blk_below (g := gb149) (o := .cells #[.slice A0_0 l0_0.length c0_0, .slice A0_1 l0_1.length c0_1] 25 (0, 0)) (by (with_reducible repeat (first | refine blk_drewN ?_ _ | refine blk_drew ?_ | refine blk_alloc ?_ _)); exact BK149.out) hb); have n5_ := Aside0.mk (blk_below (g := gb150) (o := .cells #[.slice A1_0 l1_0.length c1_0, .slice A1_1 l1_1.length c1_1] 28 (0, 0)) (by (with_reducible repeat (first | refine blk_drewN ?_ _ | refine blk_drew ?_ | refine blk_alloc ?_ _)); exact BK150.out) hb); have n6_ := Aside0.mk (blk_below (g := gb162) (o := .cells #[.slice Ao39 t155.length co39, .slice (some ad177) t158.length co43] 28 (0, 0)) (by (with_reducible repeat (first | refine blk_drewN ?_ _ | refine blk_drew ?_ | refine blk_alloc ?_ _)); exact BK162.out) hb); have n7_ := Aside0.mk (blk_below (g := gb171) (o := .cells #[.int .i64 t165, .int .i64 t166, .int .i64 t167, .int .i64 t168, .int .i64 t169] 39 (0, 0)) (by (with_reducible repeat (first | refine blk_drewN ?_ _ | refine blk_drew ?_ | refine blk_alloc ?_ _)); exact BK171.out) hb); have n8_ := Aside0.mk (Kd.C_below (by repeat (first | (with_reducible exact HR177_1.out) | (with_reducible refine Kd.C_alloc ?_ _) | (with_reducible refine Kd.C_drewN ?_ _) | (with_reducible refine Kd.C_drew ?_) | exact HR177_1.out)) hb); have n9_ := Aside0.mk (Kd.C_below (by repeat (first | (with_reducible exact HR177_3.out) | (with_reducible refine Kd.C_alloc ?_ _) | (with_reducible refine Kd.C_drewN ?_ _) | (with_reducible refine Kd.C_drew ?_) | exact HR177_3.out)) hb); have n10_ := Aside0.mk (below_step (by repeat (first | (with_reducible first | exact HB.out | apply below_alloc | apply pw_below_drewN | apply below_drew1 | refine below_set ?_ GE149.out | refine below_set ?_ GE150.out | refine below_set ?_ GE162.out | refine below_set ?_ GE171.out) | exact HB.out)) hb); have n11_ := Aside0.mk (hbox); have n12_ := Aside0.mk ((by rw [hg]; exact (below_size (by repeat (first | (with_reducible first | exact HB.out | apply below_alloc | apply pw_below_drewN | apply below_drew1 | refine below_set ?_ GE149.out | refine below_set ?_ GE150.out | refine below_set ?_ GE162.out | refine below_set ?_ GE171.out) | exact HB.out))) : w.heap.size ≤ gb178)); have n13_ := Aside0.mk ((by rw [hg]; exact (below_size (by repeat (first | (with_reducible first | exact HB.out | apply below_alloc | apply pw_below_drewN | apply below_drew1 | refine below_set ?_ GE149.out | refine below_set ?_ GE150.out | refine below_set ?_ GE162.out | refine below_set ?_ GE171.out) | exact HB.out))) : w.heap.size ≤ gb178)); have n14_ := Aside0.mk ((by rw [hg]; exact Nat.ne_of_lt (blk_lt (g := gb149) (o := .cells #[.slice A0_0 l0_0.length c0_0, .slice A0_1 l0_1.length c0_1] 25 (0, 0)) (by (with_reducible repeat (first | refine blk_drewN ?_ _ | refine blk_drew ?_ | refine blk_alloc ?_ _)); exact BK149.out)) : gb149 ≠ gb178)); have n15_ := Aside0.mk ((by rw [hg]; exact Nat.ne_of_gt (blk_lt (g := gb149) (o := .cells #[.slice A0_0 l0_0.length c0_0, .slice A0_1 l0_1.length c0_1] 25 (0, 0)) (by (with_reducible repeat (first | refine blk_drewN ?_ _ | refine blk_drew ?_ | refine blk_alloc ?_ _)); exact BK149.out)) : gb178 ≠ gb149)); have n16_ := Aside0.mk ((by rw [hg]; exact Nat.ne_of_lt (blk_lt (g := gb150) (o := .cells #[.slice A1_0 l1_0.length c1_0, .slice A1_1 l1_1.length c1_1] 28 (0, 0)) (by (with_reducible repeat (first | refine blk_drewN ?_ _ | refine blk_drew ?_ | refine blk_alloc ?_ _)); exact BK150.out)) : gb150 ≠ gb178)); have n17_ := Aside0.mk ((by rw [hg]; exact Nat.ne_of_gt (blk_lt (g := gb150) (o := .cells #[.slice A1_0 l1_0.length c1_0, .slice A1_1 l1_1.length c1_1] 28 (0, 0)) (by (with_reducible repeat (first | refine blk_drewN ?_ _ | refine blk_drew ?_ | refine blk_alloc ?_ _)); exact BK150.out)) : gb178 ≠ gb150)); have n18_ := Aside0.mk ((by rw [hg]; exact Nat.ne_of_lt (blk_lt (g := gb162) (o := .cells #[.slice Ao39 t155.length co39, .slice (some ad177) t158.length co43] 28 (0, 0)) (by (with_reducible repeat (first | refine blk_drewN ?_ _ | refine blk_drew ?_ | refine blk_alloc ?_ _)); exact BK162.out)) : gb162 ≠ gb178)); have n19_ := Aside0.mk ((by rw [hg]; exact Nat.ne_of_gt (blk_lt (g := gb162) (o := .cells #[.slice Ao39 t155.length co39, .slice (some ad177) t158.length co43] 28 (0, 0)) (by (with_reducible repeat (first | refine blk_drewN ?_ _ | refine blk_drew ?_ | refine blk_alloc ?_ _)); exact BK162.out)) : gb178 ≠ gb162)); have n20_ := Aside0.mk ((by rw [hg]; exact Nat.ne_of_lt (blk_lt (g := gb171) (o := .cells #[.int .i64 t165, .int .i64 t166, .int .i64 t167, .int .i64 t168, .int .i64 t169] 39 (0, 0)) (by (with_reducible repeat (first | refine blk_drewN ?_ _ | refine blk_drew ?_ | refine blk_alloc ?_ _)); exact BK171.out)) : gb171 ≠ gb178)); have n21_ := Aside0.mk ((by rw [hg]; exact Nat.ne_of_gt (blk_lt (g := gb171) (o := .cells #[.int .i64 t165, .int .i64 t166, .int .i64 t167, .int .i64 t168, .int .i64 t169] 39 (0, 0)) (by (with_reducible repeat (first | refine blk_drewN ?_ _ | refine blk_drew ?_ | refine blk_alloc ?_ _)); exact BK171.out)) : gb178 ≠ gb171)); clear HO_163000; clear HO_163001; clear HL177_1; clear HL177_3; clear BK149; clear BK150; clear BK162; clear BK171; clear HR177_1; clear HR177_3; clear HB; have HO_163000 := n0_; have HO_163001 := n1_; have HL177_1 := n2_; have HL177_3 := n3_; have BK149 := n4_; have BK150 := n5_; have BK162 := n6_; have BK171 := n7_; have HR177_1 := n8_; have HR177_3 := n9_; have HB := n10_; have BK178 := n11_; have GW178 := n12_; have GE178 := n13_; have NB149_178 := n14_; have NB178_149 := n15_; have NB150_178 := n16_; have NB178_150 := n17_; have NB162_178 := n18_; have NB178_162 := n19_; have NB171_178 := n20_; have NB178_171 := n21_; clear n0_ n1_ n2_ n3_ n4_ n5_ n6_ n7_ n8_ n9_ n10_ n11_ n12_ n13_ n14_ n15_ n16_ n17_ n18_ n19_ n20_ n21_; clear hb hbox hg; have hnb144 := NB178_149.out; have hnc144 := NB149_178.out; have hnb145 := NB178_150.out; have hnc145 := NB150_178.out; have hnb146 := NB178_162.out; have hnc146 := NB162_178.out; have hnb147 := NB178_171.out; have hnc147 := NB171_178.out; have hcz148_0 : w143.cell? ⟨gb178, 0, none⟩ = some (.int .i64 0) := (blk_cell BK178.out 0).trans rfl; have hcz148_1 : w143.cell? ⟨gb178, 1, none⟩ = some (.slice none 0 0) := (blk_cell BK178.out 1).trans rfl; have hcz148_2 : w143.cell? ⟨gb178, 2, none⟩ = some (.bool false) := (blk_cell BK178.out 2).trans rfl; have hcz148_3 : w143.cell? ⟨gb178, 3, none⟩ = some (.slice none 0 0) := (blk_cell BK178.out 3).trans rfl; have hfz148_0 := blk_frozen BK178.out 0; have hfz148_1 := blk_frozen BK178.out 1; have hfz148_2 := blk_frozen BK178.out 2; have hfz148_3 := blk_frozen BK178.out 3; have hcz149_0 : w143.cell? ⟨gb150, 0, none⟩ = some (.slice A1_0 l1_0.length c1_0) := (blk_cell BK150.out 0).trans rfl; have hcz149_1 : w143.cell? ⟨gb150, 1, none⟩ = some (.slice A1_1 l1_1.length c1_1) := (blk_cell BK150.out 1).trans rfl; have hfz149_0 := blk_frozen BK150.out 0; have hfz149_1 := blk_frozen BK150.out 1; have p179 : 0 ≤ (a2 : Int) := of_decide_eq_true (by first | (with_reducible assumption) | assumption); have q179 : a2 < (l1_1.length : Int) := of_decide_eq_true (by first | (with_reducible assumption) | assumption); obtain ⟨ad179, A179_1, c179_1, A179_3, c179_3, e179, hx179_0, hx179_1, hx179_2, hx179_3, hl179_1, hi179_1, hl179_3, hi179_3⟩ := at_T45 HR1_1.out a2 p179 q179; cases e179; have hn179_0 : ad179.block ≠ gb178 := Nat.ne_of_lt (bk_ hx179_0 GW178.out); have hn179_1 : ad179.block ≠ gb178 := Nat.ne_of_lt (bk_ hx179_0 GW178.out); have hn179_2 : ad179.block ≠ gb178 := Nat.ne_of_lt (bk_ hx179_0 GW178.out); have hn179_3 : ad179.block ≠ gb178 := Nat.ne_of_lt (bk_ hx179_0 GW178.out); replace hx179_0 := (HB.out.cell (World.block_lt_of_cell? w _ hx179_0)).trans hx179_0; replace hx179_1 := (HB.out.cell (World.block_lt_of_cell? w _ hx179_1)).trans hx179_1; replace hx179_2 := (HB.out.cell (World.block_lt_of_cell? w _ hx179_2)).trans hx179_2; replace hx179_3 := (HB.out.cell (World.block_lt_of_cell? w _ hx179_3)).trans hx179_3; have HR179_1 := Aside0.mk hi179_1; have HC179_1 := Aside0.mk hl179_1; clear hi179_1 hl179_1; have HR179_3 := Aside0.mk hi179_3; have HC179_3 := Aside0.mk hl179_3; clear hi179_3 hl179_3; replace hx179_0 := (cell_far (p := ⟨gb178, 0, none⟩) (by first | (rw [add_block]; exact hn179_0) | (show (Addr.add _ _).block ≠ _; rw [add_block]; exact hn179_0) | exact hn179_0) (.int .i64 ((rd_T45 t158 a2).f0))).trans hx179_0; replace hx179_1 := (cell_far (p := ⟨gb178, 0, none⟩) (by first | (rw [add_block]; exact hn179_0) | (show (Addr.add _ _).block ≠ _; rw [add_block]; exact hn179_0) | exact hn179_0) (.int .i64 ((rd_T45 t158 a2).f0))).trans hx179_1; replace hx179_2 := (cell_far (p := ⟨gb178, 0, none⟩) (by first | (rw [add_block]; exact hn179_0) | (show (Addr.add _ _).block ≠ _; rw [add_block]; exact hn179_0) | exact hn179_0) (.int .i64 ((rd_T45 t158 a2).f0))).trans hx179_2; replace hx179_3 := (cell_far (p := ⟨gb178, 0, none⟩) (by first | (rw [add_block]; exact hn179_0) | (show (Addr.add _ _).block ≠ _; rw [add_block]; exact hn179_0) | exact hn179_0) (.int .i64 ((rd_T45 t158 a2).f0))).trans hx179_3; replace hx179_0 := (cell_far (p := ⟨gb178, 1, none⟩) (by first | (rw [add_block]; exact hn179_1) | (show (Addr.add _ _).block ≠ _; rw [add_block]; exact hn179_1) | exact hn179_1) (.slice A177_1 ((rd_T45 t158 a2).f1).length c177_1)).trans hx179_0; replace hx179_1 := (cell_far (p := ⟨gb178, 1, none⟩) (by first | (rw [add_block]; exact hn179_1) | (show (Addr.add _ _).block ≠ _; rw [add_block]; exact hn179_1) | exact hn179_1) (.slice A177_1 ((rd_T45 t158 a2).f1).length c177_1)).trans hx179_1; replace hx179_2 := (cell_far (p := ⟨gb178, 1, none⟩) (by first | (rw [add_block]; exact hn179_1) | (show (Addr.add _ _).block ≠ _; rw [add_block]; exact hn179_1) | exact hn179_1) (.slice A177_1 ((rd_T45 t158 a2).f1).length c177_1)).trans hx179_2; replace hx179_3 := (cell_far (p := ⟨gb178, 1, none⟩) (by first | (rw [add_block]; exact hn179_1) | (show (Addr.add _ _).block ≠ _; rw [add_block]; exact hn179_1) | exact hn179_1) (.slice A177_1 ((rd_T45 t158 a2).f1).length c177_1)).trans hx179_3; replace hx179_0 := (cell_far (p := ⟨gb178, 2, none⟩) (by first | (rw [add_block]; exact hn179_2) | (show (Addr.add _ _).block ≠ _; rw [add_block]; exact hn179_2) | exact hn179_2) (.bool ((rd_T45 t158 a2).f2))).trans hx179_0; replace hx179_1 := (cell_far (p := ⟨gb178, 2, none⟩) (by first | (rw [add_block]; exact hn179_2) | (show (Addr.add _ _).block ≠ _; rw [add_block]; exact hn179_2) | exact hn179_2) (.bool ((rd_T45 t158 a2).f2))).trans hx179_1; replace hx179_2 := (cell_far (p := ⟨gb178, 2, none⟩) (by first | (rw [add_block]; exact hn179_2) | (show (Addr.add _ _).block ≠ _; rw [add_block]; exact hn179_2) | exact hn179_2) (.bool ((rd_T45 t158 a2).f2))).trans hx179_2; replace hx179_3 := (cell_far (p := ⟨gb178, 2, none⟩) (by first | (rw [add_block]; exact hn179_2) | (show (Addr.add _ _).block ≠ _; rw [add_block]; exact hn179_2) | exact hn179_2) (.bool ((rd_T45 t158 a2).f2))).trans hx179_3; replace hx179_0 := (cell_far (p := ⟨gb178, 3, none⟩) (by first | (rw [add_block]; exact hn179_3) | (show (Addr.add _ _).block ≠ _; rw [add_block]; exact hn179_3) | exact hn179_3) (.slice A177_3 ((rd_T45 t158 a2).f3).length c177_3)).trans hx179_0; replace hx179_1 := (cell_far (p := ⟨gb178, 3, none⟩) (by first | (rw [add_block]; exact hn179_3) | (show (Addr.add _ _).block ≠ _; rw [add_block]; exact hn179_3) | exact hn179_3) (.slice A177_3 ((rd_T45 t158 a2).f3).length c177_3)).trans hx179_1; replace hx179_2 := (cell_far (p := ⟨gb178, 3, none⟩) (by first | (rw [add_block]; exact hn179_3) | (show (Addr.add _ _).block ≠ _; rw [add_block]; exact hn179_3) | exact hn179_3) (.slice A177_3 ((rd_T45 t158 a2).f3).length c177_3)).trans hx179_2; replace hx179_3 := (cell_far (p := ⟨gb178, 3, none⟩) (by first | (rw [add_block]; exact hn179_3) | (show (Addr.add _ _).block ≠ _; rw [add_block]; exact hn179_3) | exact hn179_3) (.slice A177_3 ((rd_T45 t158 a2).f3).length c177_3)).trans hx179_3; clear hn179_0; clear hn179_1; clear hn179_2; clear hn179_3; replace p179 := eq_true p179; replace q179 := eq_true q179))
                    have n0_ : Aside0 (Kd.V (Kd.int .i64) 3 (((((w143.setCell ⟨gb178, 0, none⟩ (.int .i64 ((rd_T45 t158 a2).f0))).setCell ⟨gb178, 1, none⟩ (.slice A177_1 ((rd_T45 t158 a2).f1).length c177_1)).setCell ⟨gb178, 2, none⟩ (.bool ((rd_T45 t158 a2).f2))).setCell ⟨gb178, 3, none⟩ (.slice A177_3 ((rd_T45 t158 a2).f3).length c177_3)).setCell ⟨gb178, 3, none⟩ (.slice A179_3 ((rd_T45 l1_1 a2).f3).length c179_3)) w.heap.size (fun k_ => k_ ≠ gb149 ∧ k_ ≠ gb150 ∧ k_ ≠ gb162 ∧ k_ ≠ gb171 ∧ k_ ≠ gb178) (.slice Ao39 t155.length co39) t155) := ⟨by (with_reducible repeat (first | apply Kd.V_alloc | apply Kd.V_drewN | apply Kd.V_drew)); exact Kd.V_mono (Kd.V_far (p := ⟨gb178, 3, none⟩) (Kd.V_far (p := ⟨gb178, 3, none⟩) (Kd.V_far (p := ⟨gb178, 2, none⟩) (Kd.V_far (p := ⟨gb178, 1, none⟩) (Kd.V_far (p := ⟨gb178, 0, none⟩) (Kd.V_mono HO_163000.out (fun k_ hk => (⟨hk, hk.2⟩ : _ ∧ k_ ≠ gb178))) (fun _ hk => hk.2) (.int .i64 ((rd_T45 t158 a2).f0))) (fun _ hk => hk.2) (.slice A177_1 ((rd_T45 t158 a2).f1).length c177_1)) (fun _ hk => hk.2) (.bool ((rd_T45 t158 a2).f2))) (fun _ hk => hk.2) (.slice A177_3 ((rd_T45 t158 a2).f3).length c177_3)) (fun _ hk => hk.2) (.slice A179_3 ((rd_T45 l1_1 a2).f3).length c179_3)) (fun _ hk => ⟨hk.1.1.1, ⟨hk.1.1.2.1, ⟨hk.1.1.2.2.1, ⟨hk.1.1.2.2.2, hk.1.2⟩⟩⟩⟩)⟩
                    have n1_ : Aside0 (Kd.V k45 45 (((((w143.setCell ⟨gb178, 0, none⟩ (.int .i64 ((rd_T45 t158 a2).f0))).setCell ⟨gb178, 1, none⟩ (.slice A177_1 ((rd_T45 t158 a2).f1).length c177_1)).setCell ⟨gb178, 2, none⟩ (.bool ((rd_T45 t158 a2).f2))).setCell ⟨gb178, 3, none⟩ (.slice A177_3 ((rd_T45 t158 a2).f3).length c177_3)).setCell ⟨gb178, 3, none⟩ (.slice A179_3 ((rd_T45 l1_1 a2).f3).length c179_3)) w.heap.size (fun k_ => k_ ≠ gb149 ∧ k_ ≠ gb150 ∧ k_ ≠ gb162 ∧ k_ ≠ gb171 ∧ k_ ≠ gb178) (.slice (some ad177) t158.length co43) t158) := ⟨by (with_reducible repeat (first | apply Kd.V_alloc | apply Kd.V_drewN | apply Kd.V_drew)); exact Kd.V_mono (Kd.V_far (p := ⟨gb178, 3, none⟩) (Kd.V_far (p := ⟨gb178, 3, none⟩) (Kd.V_far (p := ⟨gb178, 2, none⟩) (Kd.V_far (p := ⟨gb178, 1, none⟩) (Kd.V_far (p := ⟨gb178, 0, none⟩) (Kd.V_mono HO_163001.out (fun k_ hk => (⟨hk, hk.2⟩ : _ ∧ k_ ≠ gb178))) (fun _ hk => hk.2) (.int .i64 ((rd_T45 t158 a2).f0))) (fun _ hk => hk.2) (.slice A177_1 ((rd_T45 t158 a2).f1).length c177_1)) (fun _ hk => hk.2) (.bool ((rd_T45 t158 a2).f2))) (fun _ hk => hk.2) (.slice A177_3 ((rd_T45 t158 a2).f3).length c177_3)) (fun _ hk => hk.2) (.slice A179_3 ((rd_T45 l1_1 a2).f3).length c179_3)) (fun _ hk => ⟨hk.1.1.1, ⟨hk.1.1.2.1, ⟨hk.1.1.2.2.1, ⟨hk.1.1.2.2.2, hk.1.2⟩⟩⟩⟩)⟩
                    have n2_ : Aside0 (Kd.V (Kd.int .i64) 3 (((((w143.setCell ⟨gb178, 0, none⟩ (.int .i64 ((rd_T45 t158 a2).f0))).setCell ⟨gb178, 1, none⟩ (.slice A177_1 ((rd_T45 t158 a2).f1).length c177_1)).setCell ⟨gb178, 2, none⟩ (.bool ((rd_T45 t158 a2).f2))).setCell ⟨gb178, 3, none⟩ (.slice A177_3 ((rd_T45 t158 a2).f3).length c177_3)).setCell ⟨gb178, 3, none⟩ (.slice A179_3 ((rd_T45 l1_1 a2).f3).length c179_3)) w.heap.size (fun k_ => k_ ≠ gb149 ∧ k_ ≠ gb150 ∧ k_ ≠ gb162 ∧ k_ ≠ gb171 ∧ k_ ≠ gb178) (.slice A177_1 ((rd_T45 t158 a2).f1).length c177_1) ((rd_T45 t158 a2).f1)) := ⟨by (with_reducible repeat (first | apply Kd.V_alloc | apply Kd.V_drewN | apply Kd.V_drew)); exact Kd.V_mono (Kd.V_far (p := ⟨gb178, 3, none⟩) (Kd.V_far (p := ⟨gb178, 3, none⟩) (Kd.V_far (p := ⟨gb178, 2, none⟩) (Kd.V_far (p := ⟨gb178, 1, none⟩) (Kd.V_far (p := ⟨gb178, 0, none⟩) (Kd.V_mono HL177_1.out (fun k_ hk => (⟨hk, hk.2⟩ : _ ∧ k_ ≠ gb178))) (fun _ hk => hk.2) (.int .i64 ((rd_T45 t158 a2).f0))) (fun _ hk => hk.2) (.slice A177_1 ((rd_T45 t158 a2).f1).length c177_1)) (fun _ hk => hk.2) (.bool ((rd_T45 t158 a2).f2))) (fun _ hk => hk.2) (.slice A177_3 ((rd_T45 t158 a2).f3).length c177_3)) (fun _ hk => hk.2) (.slice A179_3 ((rd_T45 l1_1 a2).f3).length c179_3)) (fun _ hk => ⟨hk.1.1.1, ⟨hk.1.1.2.1, ⟨hk.1.1.2.2.1, ⟨hk.1.1.2.2.2, hk.1.2⟩⟩⟩⟩)⟩
                    have n3_ : Aside0 (Kd.V k53 53 (((((w143.setCell ⟨gb178, 0, none⟩ (.int .i64 ((rd_T45 t158 a2).f0))).setCell ⟨gb178, 1, none⟩ (.slice A177_1 ((rd_T45 t158 a2).f1).length c177_1)).setCell ⟨gb178, 2, none⟩ (.bool ((rd_T45 t158 a2).f2))).setCell ⟨gb178, 3, none⟩ (.slice A177_3 ((rd_T45 t158 a2).f3).length c177_3)).setCell ⟨gb178, 3, none⟩ (.slice A179_3 ((rd_T45 l1_1 a2).f3).length c179_3)) w.heap.size (fun k_ => k_ ≠ gb149 ∧ k_ ≠ gb150 ∧ k_ ≠ gb162 ∧ k_ ≠ gb171 ∧ k_ ≠ gb178) (.slice A177_3 ((rd_T45 t158 a2).f3).length c177_3) ((rd_T45 t158 a2).f3)) := ⟨by (with_reducible repeat (first | apply Kd.V_alloc | apply Kd.V_drewN | apply Kd.V_drew)); exact Kd.V_mono (Kd.V_far (p := ⟨gb178, 3, none⟩) (Kd.V_far (p := ⟨gb178, 3, none⟩) (Kd.V_far (p := ⟨gb178, 2, none⟩) (Kd.V_far (p := ⟨gb178, 1, none⟩) (Kd.V_far (p := ⟨gb178, 0, none⟩) (Kd.V_mono HL177_3.out (fun k_ hk => (⟨hk, hk.2⟩ : _ ∧ k_ ≠ gb178))) (fun _ hk => hk.2) (.int .i64 ((rd_T45 t158 a2).f0))) (fun _ hk => hk.2) (.slice A177_1 ((rd_T45 t158 a2).f1).length c177_1)) (fun _ hk => hk.2) (.bool ((rd_T45 t158 a2).f2))) (fun _ hk => hk.2) (.slice A177_3 ((rd_T45 t158 a2).f3).length c177_3)) (fun _ hk => hk.2) (.slice A179_3 ((rd_T45 l1_1 a2).f3).length c179_3)) (fun _ hk => ⟨hk.1.1.1, ⟨hk.1.1.2.1, ⟨hk.1.1.2.2.1, ⟨hk.1.1.2.2.2, hk.1.2⟩⟩⟩⟩)⟩
                    have n4_ : Aside0 ((((((w143.setCell ⟨gb178, 0, none⟩ (.int .i64 ((rd_T45 t158 a2).f0))).setCell ⟨gb178, 1, none⟩ (.slice A177_1 ((rd_T45 t158 a2).f1).length c177_1)).setCell ⟨gb178, 2, none⟩ (.bool ((rd_T45 t158 a2).f2))).setCell ⟨gb178, 3, none⟩ (.slice A177_3 ((rd_T45 t158 a2).f3).length c177_3)).setCell ⟨gb178, 3, none⟩ (.slice A179_3 ((rd_T45 l1_1 a2).f3).length c179_3)).heap[gb149]? = some (.cells #[.slice A0_0 l0_0.length c0_0, .slice A0_1 l0_1.length c0_1] 25 (0, 0))) := ⟨by (with_reducible repeat (first | refine blk_drewN ?_ _ | refine blk_drew ?_ | refine blk_alloc ?_ _)); refine blk_far ?_ NB149_178.out _; (with_reducible repeat (first | refine blk_drewN ?_ _ | refine blk_drew ?_ | refine blk_alloc ?_ _)); refine blk_far ?_ NB149_178.out _; (with_reducible repeat (first | refine blk_drewN ?_ _ | refine blk_drew ?_ | refine blk_alloc ?_ _)); refine blk_far ?_ NB149_178.out _; (with_reducible repeat (first | refine blk_drewN ?_ _ | refine blk_drew ?_ | refine blk_alloc ?_ _)); refine blk_far ?_ NB149_178.out _; (with_reducible repeat (first | refine blk_drewN ?_ _ | refine blk_drew ?_ | refine blk_alloc ?_ _)); refine blk_far ?_ NB149_178.out _; (with_reducible repeat (first | refine blk_drewN ?_ _ | refine blk_drew ?_ | refine blk_alloc ?_ _)); exact BK149.out⟩
                    have n5_ : Aside0 ((((((w143.setCell ⟨gb178, 0, none⟩ (.int .i64 ((rd_T45 t158 a2).f0))).setCell ⟨gb178, 1, none⟩ (.slice A177_1 ((rd_T45 t158 a2).f1).length c177_1)).setCell ⟨gb178, 2, none⟩ (.bool ((rd_T45 t158 a2).f2))).setCell ⟨gb178, 3, none⟩ (.slice A177_3 ((rd_T45 t158 a2).f3).length c177_3)).setCell ⟨gb178, 3, none⟩ (.slice A179_3 ((rd_T45 l1_1 a2).f3).length c179_3)).heap[gb150]? = some (.cells #[.slice A1_0 l1_0.length c1_0, .slice (some ad179) l1_1.length c1_1] 28 (0, 0))) := ⟨by (with_reducible repeat (first | refine blk_drewN ?_ _ | refine blk_drew ?_ | refine blk_alloc ?_ _)); refine blk_far ?_ NB150_178.out _; (with_reducible repeat (first | refine blk_drewN ?_ _ | refine blk_drew ?_ | refine blk_alloc ?_ _)); refine blk_far ?_ NB150_178.out _; (with_reducible repeat (first | refine blk_drewN ?_ _ | refine blk_drew ?_ | refine blk_alloc ?_ _)); refine blk_far ?_ NB150_178.out _; (with_reducible repeat (first | refine blk_drewN ?_ _ | refine blk_drew ?_ | refine blk_alloc ?_ _)); refine blk_far ?_ NB150_178.out _; (with_reducible repeat (first | refine blk_drewN ?_ _ | refine blk_drew ?_ | refine blk_alloc ?_ _)); refine blk_far ?_ NB150_178.out _; (with_reducible repeat (first | refine blk_drewN ?_ _ | refine blk_drew ?_ | refine blk_alloc ?_ _)); exact BK150.out⟩
                    have n6_ : Aside0 ((((((w143.setCell ⟨gb178, 0, none⟩ (.int .i64 ((rd_T45 t158 a2).f0))).setCell ⟨gb178, 1, none⟩ (.slice A177_1 ((rd_T45 t158 a2).f1).length c177_1)).setCell ⟨gb178, 2, none⟩ (.bool ((rd_T45 t158 a2).f2))).setCell ⟨gb178, 3, none⟩ (.slice A177_3 ((rd_T45 t158 a2).f3).length c177_3)).setCell ⟨gb178, 3, none⟩ (.slice A179_3 ((rd_T45 l1_1 a2).f3).length c179_3)).heap[gb162]? = some (.cells #[.slice Ao39 t155.length co39, .slice (some ad177) t158.length co43] 28 (0, 0))) := ⟨by (with_reducible repeat (first | refine blk_drewN ?_ _ | refine blk_drew ?_ | refine blk_alloc ?_ _)); refine blk_far ?_ NB162_178.out _; (with_reducible repeat (first | refine blk_drewN ?_ _ | refine blk_drew ?_ | refine blk_alloc ?_ _)); refine blk_far ?_ NB162_178.out _; (with_reducible repeat (first | refine blk_drewN ?_ _ | refine blk_drew ?_ | refine blk_alloc ?_ _)); refine blk_far ?_ NB162_178.out _; (with_reducible repeat (first | refine blk_drewN ?_ _ | refine blk_drew ?_ | refine blk_alloc ?_ _)); refine blk_far ?_ NB162_178.out _; (with_reducible repeat (first | refine blk_drewN ?_ _ | refine blk_drew ?_ | refine blk_alloc ?_ _)); refine blk_far ?_ NB162_178.out _; (with_reducible repeat (first | refine blk_drewN ?_ _ | refine blk_drew ?_ | refine blk_alloc ?_ _)); exact BK162.out⟩
                    have n7_ : Aside0 ((((((w143.setCell ⟨gb178, 0, none⟩ (.int .i64 ((rd_T45 t158 a2).f0))).setCell ⟨gb178, 1, none⟩ (.slice A177_1 ((rd_T45 t158 a2).f1).length c177_1)).setCell ⟨gb178, 2, none⟩ (.bool ((rd_T45 t158 a2).f2))).setCell ⟨gb178, 3, none⟩ (.slice A177_3 ((rd_T45 t158 a2).f3).length c177_3)).setCell ⟨gb178, 3, none⟩ (.slice A179_3 ((rd_T45 l1_1 a2).f3).length c179_3)).heap[gb171]? = some (.cells #[.int .i64 t165, .int .i64 t166, .int .i64 t167, .int .i64 t168, .int .i64 t169] 39 (0, 0))) := ⟨by (with_reducible repeat (first | refine blk_drewN ?_ _ | refine blk_drew ?_ | refine blk_alloc ?_ _)); refine blk_far ?_ NB171_178.out _; (with_reducible repeat (first | refine blk_drewN ?_ _ | refine blk_drew ?_ | refine blk_alloc ?_ _)); refine blk_far ?_ NB171_178.out _; (with_reducible repeat (first | refine blk_drewN ?_ _ | refine blk_drew ?_ | refine blk_alloc ?_ _)); refine blk_far ?_ NB171_178.out _; (with_reducible repeat (first | refine blk_drewN ?_ _ | refine blk_drew ?_ | refine blk_alloc ?_ _)); refine blk_far ?_ NB171_178.out _; (with_reducible repeat (first | refine blk_drewN ?_ _ | refine blk_drew ?_ | refine blk_alloc ?_ _)); refine blk_far ?_ NB171_178.out _; (with_reducible repeat (first | refine blk_drewN ?_ _ | refine blk_drew ?_ | refine blk_alloc ?_ _)); exact BK171.out⟩
                    have n8_ : Aside0 ((((((w143.setCell ⟨gb178, 0, none⟩ (.int .i64 ((rd_T45 t158 a2).f0))).setCell ⟨gb178, 1, none⟩ (.slice A177_1 ((rd_T45 t158 a2).f1).length c177_1)).setCell ⟨gb178, 2, none⟩ (.bool ((rd_T45 t158 a2).f2))).setCell ⟨gb178, 3, none⟩ (.slice A177_3 ((rd_T45 t158 a2).f3).length c177_3)).setCell ⟨gb178, 3, none⟩ (.slice A179_3 ((rd_T45 l1_1 a2).f3).length c179_3)).heap[gb178]? = some (.cells #[.int .i64 ((rd_T45 t158 a2).f0), .slice A177_1 ((rd_T45 t158 a2).f1).length c177_1, .bool ((rd_T45 t158 a2).f2), .slice A179_3 ((rd_T45 l1_1 a2).f3).length c179_3] 45 (0, 0))) := ⟨by (with_reducible repeat (first | refine blk_drewN ?_ _ | refine blk_drew ?_ | refine blk_alloc ?_ _)); refine blk_put (cs := #[.int .i64 ((rd_T45 t158 a2).f0), .slice A177_1 ((rd_T45 t158 a2).f1).length c177_1, .bool ((rd_T45 t158 a2).f2), .slice A177_3 ((rd_T45 t158 a2).f3).length c177_3]) ?_ 3 _ rfl; (with_reducible repeat (first | refine blk_drewN ?_ _ | refine blk_drew ?_ | refine blk_alloc ?_ _)); refine blk_put (cs := #[.int .i64 ((rd_T45 t158 a2).f0), .slice A177_1 ((rd_T45 t158 a2).f1).length c177_1, .bool ((rd_T45 t158 a2).f2), .slice none 0 0]) ?_ 3 _ rfl; (with_reducible repeat (first | refine blk_drewN ?_ _ | refine blk_drew ?_ | refine blk_alloc ?_ _)); refine blk_put (cs := #[.int .i64 ((rd_T45 t158 a2).f0), .slice A177_1 ((rd_T45 t158 a2).f1).length c177_1, .bool false, .slice none 0 0]) ?_ 2 _ rfl; (with_reducible repeat (first | refine blk_drewN ?_ _ | refine blk_drew ?_ | refine blk_alloc ?_ _)); refine blk_put (cs := #[.int .i64 ((rd_T45 t158 a2).f0), .slice none 0 0, .bool false, .slice none 0 0]) ?_ 1 _ rfl; (with_reducible repeat (first | refine blk_drewN ?_ _ | refine blk_drew ?_ | refine blk_alloc ?_ _)); refine blk_put (cs := #[.int .i64 0, .slice none 0 0, .bool false, .slice none 0 0]) ?_ 0 _ rfl; (with_reducible repeat (first | refine blk_drewN ?_ _ | refine blk_drew ?_ | refine blk_alloc ?_ _)); exact BK178.out⟩
                    have n9_ : Aside0 (Below w.heap.size w (((((w143.setCell ⟨gb178, 0, none⟩ (.int .i64 ((rd_T45 t158 a2).f0))).setCell ⟨gb178, 1, none⟩ (.slice A177_1 ((rd_T45 t158 a2).f1).length c177_1)).setCell ⟨gb178, 2, none⟩ (.bool ((rd_T45 t158 a2).f2))).setCell ⟨gb178, 3, none⟩ (.slice A177_3 ((rd_T45 t158 a2).f3).length c177_3)).setCell ⟨gb178, 3, none⟩ (.slice A179_3 ((rd_T45 l1_1 a2).f3).length c179_3))) := ⟨by repeat (first | (with_reducible first | exact HB.out | apply below_alloc | apply pw_below_drewN | apply below_drew1 | refine below_set ?_ GE149.out | refine below_set ?_ GE150.out | refine below_set ?_ GE162.out | refine below_set ?_ GE171.out | refine below_set ?_ GE178.out) | exact HB.out)⟩
                    (try clear HO_163000)
                    (try clear HO_163001)
                    (try clear HL177_1)
                    (try clear HL177_3)
                    (try clear BK149)
                    (try clear BK150)
                    (try clear BK162)
                    (try clear BK171)
                    (try clear BK178)
                    (try clear HB)
                    generalize (((((w143.setCell ⟨gb178, 0, none⟩ (.int .i64 ((rd_T45 t158 a2).f0))).setCell ⟨gb178, 1, none⟩ (.slice A177_1 ((rd_T45 t158 a2).f1).length c177_1)).setCell ⟨gb178, 2, none⟩ (.bool ((rd_T45 t158 a2).f2))).setCell ⟨gb178, 3, none⟩ (.slice A177_3 ((rd_T45 t158 a2).f3).length c177_3)).setCell ⟨gb178, 3, none⟩ (.slice A179_3 ((rd_T45 l1_1 a2).f3).length c179_3)) = w150 at n0_ n1_ n2_ n3_ n4_ n5_ n6_ n7_ n8_ n9_ ⊢
                    have HO_163000 := n0_
                    have HO_163001 := n1_
                    have HL177_1 := n2_
                    have HL177_3 := n3_
                    have BK149 := n4_
                    have BK150 := n5_
                    have BK162 := n6_
                    have BK171 := n7_
                    have BK178 := n8_
                    have HB := n9_
                    clear n0_ n1_ n2_ n3_ n4_ n5_ n6_ n7_ n8_ n9_
                    have n0_ := Aside0.mk (Kd.V_drew HO_163000.out)
                    have n1_ := Aside0.mk (Kd.V_drew HO_163001.out)
                    have n2_ := Aside0.mk (Kd.V_drew HL177_1.out)
                    have n3_ := Aside0.mk (Kd.V_drew HL177_3.out)
                    have n4_ := Aside0.mk (blk_drew BK149.out)
                    have n5_ := Aside0.mk (blk_drew BK150.out)
                    have n6_ := Aside0.mk (blk_drew BK162.out)
                    have n7_ := Aside0.mk (blk_drew BK171.out)
                    have n8_ := Aside0.mk (blk_drew BK178.out)
                    have n9_ := Aside0.mk (below_drew1 HB.out)
                    clear HO_163000
                    clear HO_163001
                    clear HL177_1
                    clear HL177_3
                    clear BK149
                    clear BK150
                    clear BK162
                    clear BK171
                    clear BK178
                    clear HB
                    have HO_163000 := n0_
                    have HO_163001 := n1_
                    have HL177_1 := n2_
                    have HL177_3 := n3_
                    have BK149 := n4_
                    have BK150 := n5_
                    have BK162 := n6_
                    have BK171 := n7_
                    have BK178 := n8_
                    have HB := n9_
                    clear n0_ n1_ n2_ n3_ n4_ n5_ n6_ n7_ n8_ n9_
                    have p180 : 0 ≤ (a2 : Int) := of_decide_eq_true (by first | (with_reducible assumption) | assumption)
                    have q180 : a2 < (t158.length : Int) := of_decide_eq_true (by first | (with_reducible assumption) | assumption)
                    obtain ⟨ad180, A180_1, c180_1, A180_3, c180_3, e180, hx180_0, hx180_1, hx180_2, hx180_3, hl180_1, hi180_1, hl180_3, hi180_3⟩ := at_T45 (Kd.V_reads' HO_163001.out).2.2 a2 p180 q180
                    obtain rfl : ad177 = ad180 := (by injection e180)
                    obtain ⟨ce180, hce180, hMe180, hcc180⟩ := Kd.V_get HO_163001.out z45 a2 p180 (by first | exact q180 | exact of_decide_eq_true (by first | (with_reducible assumption) | assumption) | (have e_ := (Kd.V_reads' HO_163001.out).1; omega))
                    obtain ⟨ua180_1, uc180_1, ua180_3, uc180_3, rfl, ul180_1, ge180_1, ul180_3, ge180_3⟩ := k45_openF hMe180
                    have hv180_1 := hcc180 1 _ rfl
                    rw [add_field _ _ 1 (by omega)] at hv180_1
                    replace hv180_1 := Option.some.inj (hv180_1.symm.trans hx180_1)
                    injection hv180_1 with hva_ hvn_ hvc_
                    rw [hva_] at ge180_1
                    rw [hvc_] at ul180_1
                    have HL180_1 := Aside0.mk (show Kd.V (Kd.int .i64) 3 _ w.heap.size _ _ ((rd_T45 t158 a2).f1) from Kd.V_mk ul180_1 ge180_1)
                    clear hva_ hvn_ hvc_ ge180_1 ul180_1
                    have hv180_3 := hcc180 3 _ rfl
                    rw [add_field _ _ 3 (by omega)] at hv180_3
                    replace hv180_3 := Option.some.inj (hv180_3.symm.trans hx180_3)
                    injection hv180_3 with hva_ hvn_ hvc_
                    rw [hva_] at ge180_3
                    rw [hvc_] at ul180_3
                    have HL180_3 := Aside0.mk (show Kd.V k53 53 _ w.heap.size _ _ ((rd_T45 t158 a2).f3) from Kd.V_mk ul180_3 ge180_3)
                    clear hva_ hvn_ hvc_ ge180_3 ul180_3
                    clear hcc180 hce180
                    have HR180_1 := Aside0.mk hi180_1
                    have HC180_1 := Aside0.mk hl180_1
                    clear hi180_1 hl180_1
                    have HR180_3 := Aside0.mk hi180_3
                    have HC180_3 := Aside0.mk hl180_3
                    clear hi180_3 hl180_3
                    replace p180 := eq_true p180
                    replace q180 := eq_true q180
                    refine start_ (n := 11) (S := fun w' => w'.cell? ⟨gb162, 0, none⟩ = some (.slice Ao39 t155.length co39) ∧ w'.cell? ⟨gb162, 1, none⟩ = some (.slice (some ad177) t158.length co43) ∧ w'.cell? ⟨gb178, 0, none⟩ = some (.int .i64 ((rd_T45 t158 a2).f0)) ∧ w'.cell? ⟨gb178, 1, none⟩ = some (.slice A177_1 ((rd_T45 t158 a2).f1).length c177_1) ∧ w'.cell? ⟨gb178, 2, none⟩ = some (.bool ((rd_T45 t158 a2).f2)) ∧ w'.cell? ⟨gb178, 3, none⟩ = some (.slice A179_3 ((rd_T45 l1_1 a2).f3).length c179_3) ∧ w'.cell? (ad177.add ((a2).toNat * 4)) = some (.int .i64 ((rd_T45 t158 a2).f0)) ∧ w'.cell? ⟨(ad177.add ((a2).toNat * 4)).block, (ad177.add ((a2).toNat * 4)).off + 1, none⟩ = some (.slice A180_1 ((rd_T45 t158 a2).f1).length c180_1) ∧ w'.cell? ⟨(ad177.add ((a2).toNat * 4)).block, (ad177.add ((a2).toNat * 4)).off + 2, none⟩ = some (.bool ((rd_T45 t158 a2).f2)) ∧ w'.cell? ⟨(ad177.add ((a2).toNat * 4)).block, (ad177.add ((a2).toNat * 4)).off + 3, none⟩ = some (.slice A180_3 ((rd_T45 t158 a2).f3).length c180_3)) (ds := []) #[false, false, false, false, false, false, false, false, false, false, false] (by kernel_rfl) rfl rfl ⟨(blk_cell BK162.out 0).trans rfl, (blk_cell BK162.out 1).trans rfl, (blk_cell BK178.out 0).trans rfl, (blk_cell BK178.out 1).trans rfl, (blk_cell BK178.out 2).trans rfl, (blk_cell BK178.out 3).trans rfl, hx180_0, hx180_1, hx180_2, hx180_3⟩ (fun hHeld => ?_); refine with_tabW fencepostlaw10_ScApart.tab23 fencepostlaw10_ScApart.bits23 (fun HT_ HW_ => ?_)
                    generalize w150.drew = w151 at HO_163000 HO_163001 HL177_1 HL177_3 BK149 BK150 BK162 BK171 BK178 HB HL180_1 HL180_3 HR180_1 HR180_3 hx180_0 hx180_1 hx180_2 hx180_3 hHeld ⊢
                    refine pure_ (i := 0) (N := some 144) (v := ?_) (a' := ?_) #[true, false, false, false, false, false, false, false, false, false, false] rfl rfl (any_of HT_.out (by kernel_rfl)) (fun _ _ _ h => h) (Or.inl ⟨by rfl, ?_⟩) ?_ ?_
                    rotate_left
                    ·intro w'
                     go_simp
                     with_reducible rfl
                    rotate_left
                    ·simp only [Act.put, List.setIfInBounds_toArray, List.set_cons_zero, List.set_cons_succ, i64_w, i32_w]
                     rfl
                    refine pure_ (i := 1) (N := some 145) (v := ?_) (a' := ?_) #[true, true, false, false, false, false, false, false, false, false, false] rfl rfl (any_of HT_.out (by kernel_rfl)) (fun _ _ _ h => h) (Or.inl ⟨by rfl, ?_⟩) ?_ ?_
                    rotate_left
                    ·intro w'
                     go_simp
                     with_reducible rfl
                    rotate_left
                    ·simp only [Act.put, List.setIfInBounds_toArray, List.set_cons_zero, List.set_cons_succ, i64_w, i32_w]
                     rfl
                    refine pure_ (i := 2) (N := some 146) (v := ?_) (a' := ?_) #[true, true, true, false, false, false, false, false, false, false, false] rfl rfl (any_of HT_.out (by kernel_rfl)) (fun _ _ _ h => h) (Or.inl ⟨by rfl, ?_⟩) ?_ ?_
                    rotate_left
                    ·intro w'
                     go_simp
                     with_reducible rfl
                    rotate_left
                    ·simp only [Act.put, List.setIfInBounds_toArray, List.set_cons_zero, List.set_cons_succ, i64_w, i32_w]
                     rfl
                    refine pure_ (i := 4) (N := some 148) (v := ?_) (a' := ?_) #[true, true, true, false, true, false, false, false, false, false, false] rfl rfl (any_of HT_.out (by kernel_rfl)) (fun _ _ _ h => h) (Or.inl ⟨by rfl, ?_⟩) ?_ ?_
                    rotate_left
                    ·intro w'
                     go_simp
                     with_reducible rfl
                    rotate_left
                    ·simp only [Act.put, List.setIfInBounds_toArray, List.set_cons_zero, List.set_cons_succ, i64_w, i32_w]
                     rfl
                    refine take_ (i := 3) (N := some 147) (v := ?_) (a' := ?_) #[true, true, true, true, true, false, false, false, false, false, false] rfl rfl (take_ofW HT_.out HW_.out (by kernel_rfl)) (fun _ _ _ h => h) (Or.inl ⟨by rfl, ?_⟩) hHeld ?_ ?_
                    rotate_left
                    ·rintro w' ⟨s0, s1, s2, s3, s4, s5, s6, s7, s8, s9⟩
                     go_simp
                     with_reducible rfl
                    rotate_left
                    ·simp only [Act.put, List.setIfInBounds_toArray, List.set_cons_zero, List.set_cons_succ, i64_w, i32_w]
                     rfl
                    refine pure_ (i := 5) (N := some 149) (v := ?_) (a' := ?_) #[true, true, true, true, true, true, false, false, false, false, false] rfl rfl (any_of HT_.out (by kernel_rfl)) (fun _ _ _ h => h) (Or.inl ⟨by rfl, ?_⟩) ?_ ?_
                    rotate_left
                    ·intro w'
                     go_simp
                     with_reducible rfl
                    rotate_left
                    ·simp only [Act.put, List.setIfInBounds_toArray, List.set_cons_zero, List.set_cons_succ, i64_w, i32_w]
                     rfl
                    refine take_ (i := 6) (N := some 150) (v := ?_) (a' := ?_) #[true, true, true, true, true, true, true, false, false, false, false] rfl rfl (take_ofW HT_.out HW_.out (by kernel_rfl)) (fun _ _ _ h => h) (Or.inl ⟨by rfl, ?_⟩) hHeld ?_ ?_
                    rotate_left
                    ·rintro w' ⟨s0, s1, s2, s3, s4, s5, s6, s7, s8, s9⟩
                     go_simp
                     with_reducible rfl
                    rotate_left
                    ·simp only [Act.put, List.setIfInBounds_toArray, List.set_cons_zero, List.set_cons_succ, i64_w, i32_w]
                     rfl
                    refine take_ (i := 7) (N := some 151) (v := ?_) (a' := ?_) #[true, true, true, true, true, true, true, true, false, false, false] rfl rfl (take_ofW HT_.out HW_.out (by kernel_rfl)) (fun _ _ _ h => h) (Or.inl ⟨by rfl, ?_⟩) hHeld ?_ ?_
                    rotate_left
                    ·rintro w' ⟨s0, s1, s2, s3, s4, s5, s6, s7, s8, s9⟩
                     go_simp
                     with_reducible rfl
                    rotate_left
                    ·simp only [Act.put, List.setIfInBounds_toArray, List.set_cons_zero, List.set_cons_succ, i64_w, i32_w]
                     rfl
                    refine one_ (i := 8) (N := some 152) #[true, true, true, true, true, true, true, true, true, false, false] rfl rfl (one_of HT_.out (by kernel_rfl)) (by decide) (fun K hK => ?_)
                    refine goes_ Try.func20 (by kernel_rfl) rfl #[.agg #[.int .i64 ((rd_T45 t158 a2).f0), .slice A180_1 ((rd_T45 t158 a2).f1).length c180_1, .bool ((rd_T45 t158 a2).f2), .slice A180_3 ((rd_T45 t158 a2).f3).length c180_3], .agg #[.int .i64 ((rd_T45 t158 a2).f0), .slice A177_1 ((rd_T45 t158 a2).f1).length c177_1, .bool ((rd_T45 t158 a2).f2), .slice A179_3 ((rd_T45 l1_1 a2).f3).length c179_3]] (by rfl) rfl rfl (by (try simp only [List.map_toArray, List.map_cons, List.map_nil]); first | done | rfl | (simp only [List.length_drop, List.length_take]; rfl)) ?_
                    with_reducible refine (fencepostref10_SameTh.calls k5 ((rd_T45 t158 a2).f0) _ _ ((rd_T45 t158 a2).f1) ((rd_T45 t158 a2).f2) _ _ ((rd_T45 t158 a2).f3) ((rd_T45 t158 a2).f0) _ _ ((rd_T45 t158 a2).f1) ((rd_T45 t158 a2).f2) _ _ ((rd_T45 l1_1 a2).f3) t181 _ ?side1 ?side2 ?side3 ?side4 ?side5 ?side6 ?side7 ?side8 A135.out).mono ?_
                    (case side1 => repeat (first | exact (by repeat (first | (with_reducible exact HR180_1.out) | (with_reducible refine Kd.C_alloc ?_ _) | (with_reducible refine Kd.C_drewN ?_ _) | (with_reducible refine Kd.C_drew ?_) | exact HR180_1.out)) | (with_reducible refine Kd.C_alloc ?_ _) | (with_reducible refine Kd.C_drewN ?_ _) | (with_reducible refine Kd.C_drew ?_)))
                    (case side2 => exact HC180_1.out)
                    (case side3 => repeat (first | exact (by repeat (first | (with_reducible exact HR180_3.out) | (with_reducible refine Kd.C_alloc ?_ _) | (with_reducible refine Kd.C_drewN ?_ _) | (with_reducible refine Kd.C_drew ?_) | exact HR180_3.out)) | (with_reducible refine Kd.C_alloc ?_ _) | (with_reducible refine Kd.C_drewN ?_ _) | (with_reducible refine Kd.C_drew ?_)))
                    (case side4 => exact HC180_3.out)
                    (case side5 => repeat (first | exact ((Kd.V_reads' (by (with_reducible repeat (first | apply Kd.V_alloc | apply Kd.V_drewN | apply Kd.V_drew)); exact HL177_1.out)).2.2) | (with_reducible refine Kd.C_alloc ?_ _) | (with_reducible refine Kd.C_drewN ?_ _) | (with_reducible refine Kd.C_drew ?_)))
                    (case side6 => exact HC177_1.out)
                    (case side7 => repeat (first | exact (Kd.C_below HR179_3.out HB.out) | (with_reducible refine Kd.C_alloc ?_ _) | (with_reducible refine Kd.C_drewN ?_ _) | (with_reducible refine Kd.C_drew ?_)))
                    (case side8 => exact HC179_3.out)
                    rintro e w152 ⟨rfl, hb⟩
                    have HS6_ := (hb.cell (World.block_lt_of_cell? _ _ (hHeld.2.2.2.2.2.2.1))).trans (hHeld.2.2.2.2.2.2.1)
                    have HS7_ := (hb.cell (World.block_lt_of_cell? _ _ (hHeld.2.2.2.2.2.2.2.1))).trans (hHeld.2.2.2.2.2.2.2.1)
                    have HS8_ := (hb.cell (World.block_lt_of_cell? _ _ (hHeld.2.2.2.2.2.2.2.2.1))).trans (hHeld.2.2.2.2.2.2.2.2.1)
                    have HS9_ := (hb.cell (World.block_lt_of_cell? _ _ (hHeld.2.2.2.2.2.2.2.2.2))).trans (hHeld.2.2.2.2.2.2.2.2.2)
                    refine ⟨_, rfl, ?_⟩
                    have n0_ := Aside0.mk (Kd.V_below (by (with_reducible repeat (first | apply Kd.V_alloc | apply Kd.V_drewN | apply Kd.V_drew)); exact HO_163000.out) hb)
                    have n1_ := Aside0.mk (Kd.V_below (by (with_reducible repeat (first | apply Kd.V_alloc | apply Kd.V_drewN | apply Kd.V_drew)); exact HO_163001.out) hb)
                    have n2_ := Aside0.mk (Kd.V_below (by (with_reducible repeat (first | apply Kd.V_alloc | apply Kd.V_drewN | apply Kd.V_drew)); exact HL177_1.out) hb)
                    have n3_ := Aside0.mk (Kd.V_below (by (with_reducible repeat (first | apply Kd.V_alloc | apply Kd.V_drewN | apply Kd.V_drew)); exact HL177_3.out) hb)
                    have n4_ := Aside0.mk (Kd.V_below (by (with_reducible repeat (first | apply Kd.V_alloc | apply Kd.V_drewN | apply Kd.V_drew)); exact HL180_1.out) hb)
                    have n5_ := Aside0.mk (Kd.V_below (by (with_reducible repeat (first | apply Kd.V_alloc | apply Kd.V_drewN | apply Kd.V_drew)); exact HL180_3.out) hb)
                    have n6_ := Aside0.mk (blk_below (g := gb149) (o := .cells #[.slice A0_0 l0_0.length c0_0, .slice A0_1 l0_1.length c0_1] 25 (0, 0)) (by (with_reducible repeat (first | refine blk_drewN ?_ _ | refine blk_drew ?_ | refine blk_alloc ?_ _)); exact BK149.out) hb)
                    have n7_ := Aside0.mk (blk_below (g := gb150) (o := .cells #[.slice A1_0 l1_0.length c1_0, .slice (some ad179) l1_1.length c1_1] 28 (0, 0)) (by (with_reducible repeat (first | refine blk_drewN ?_ _ | refine blk_drew ?_ | refine blk_alloc ?_ _)); exact BK150.out) hb)
                    have n8_ := Aside0.mk (blk_below (g := gb162) (o := .cells #[.slice Ao39 t155.length co39, .slice (some ad177) t158.length co43] 28 (0, 0)) (by (with_reducible repeat (first | refine blk_drewN ?_ _ | refine blk_drew ?_ | refine blk_alloc ?_ _)); exact BK162.out) hb)
                    have n9_ := Aside0.mk (blk_below (g := gb171) (o := .cells #[.int .i64 t165, .int .i64 t166, .int .i64 t167, .int .i64 t168, .int .i64 t169] 39 (0, 0)) (by (with_reducible repeat (first | refine blk_drewN ?_ _ | refine blk_drew ?_ | refine blk_alloc ?_ _)); exact BK171.out) hb)
                    have n10_ := Aside0.mk (blk_below (g := gb178) (o := .cells #[.int .i64 ((rd_T45 t158 a2).f0), .slice A177_1 ((rd_T45 t158 a2).f1).length c177_1, .bool ((rd_T45 t158 a2).f2), .slice A179_3 ((rd_T45 l1_1 a2).f3).length c179_3] 45 (0, 0)) (by (with_reducible repeat (first | refine blk_drewN ?_ _ | refine blk_drew ?_ | refine blk_alloc ?_ _)); exact BK178.out) hb)
                    have n11_ := Aside0.mk (Kd.C_below (by repeat (first | (with_reducible exact HR180_1.out) | (with_reducible refine Kd.C_alloc ?_ _) | (with_reducible refine Kd.C_drewN ?_ _) | (with_reducible refine Kd.C_drew ?_) | exact HR180_1.out)) hb)
                    have n12_ := Aside0.mk (Kd.C_below (by repeat (first | (with_reducible exact HR180_3.out) | (with_reducible refine Kd.C_alloc ?_ _) | (with_reducible refine Kd.C_drewN ?_ _) | (with_reducible refine Kd.C_drew ?_) | exact HR180_3.out)) hb)
                    have n13_ := Aside0.mk (below_step (by repeat (first | (with_reducible first | exact HB.out | apply below_alloc | apply pw_below_drewN | apply below_drew1 | refine below_set ?_ GE149.out | refine below_set ?_ GE150.out | refine below_set ?_ GE162.out | refine below_set ?_ GE171.out | refine below_set ?_ GE178.out) | exact HB.out)) hb)
                    clear HO_163000
                    clear HO_163001
                    clear HL177_1
                    clear HL177_3
                    clear HL180_1
                    clear HL180_3
                    clear BK149
                    clear BK150
                    clear BK162
                    clear BK171
                    clear BK178
                    clear HR180_1
                    clear HR180_3
                    clear HB
                    have HO_163000 := n0_
                    have HO_163001 := n1_
                    have HL177_1 := n2_
                    have HL177_3 := n3_
                    have HL180_1 := n4_
                    have HL180_3 := n5_
                    have BK149 := n6_
                    have BK150 := n7_
                    have BK162 := n8_
                    have BK171 := n9_
                    have BK178 := n10_
                    have HR180_1 := n11_
                    have HR180_3 := n12_
                    have HB := n13_
                    clear n0_ n1_ n2_ n3_ n4_ n5_ n6_ n7_ n8_ n9_ n10_ n11_ n12_ n13_
                    (try clear hb)
                    (try clear hb2)
                    (try clear hk)
                    (try clear hi)
                    refine hK.out _ _ ⟨(blk_cell BK162.out 0).trans rfl, (blk_cell BK162.out 1).trans rfl, (blk_cell BK178.out 0).trans rfl, (blk_cell BK178.out 1).trans rfl, (blk_cell BK178.out 2).trans rfl, (blk_cell BK178.out 3).trans rfl, HS6_, HS7_, HS8_, HS9_⟩ (fun hHeld => ?_)
                    clear hK K
                    refine norm_ (a' := ?_) ?_ ?_
                    rotate_left
                    ·show Act.put _ (some 152) _ = _
                     simp only [Act.put, List.setIfInBounds_toArray, List.set_cons_zero, List.set_cons_succ, i64_w, i32_w]
                     rfl
                    refine pure_ (i := 9) (N := some 153) (v := ?_) (a' := ?_) #[true, true, true, true, true, true, true, true, true, true, false] rfl rfl (any_of HT_.out (by kernel_rfl)) (fun _ _ _ h => h) (Or.inl ⟨by rfl, ?_⟩) ?_ ?_
                    rotate_left
                    ·intro w'
                     go_simp
                     with_reducible rfl
                    rotate_left
                    ·simp only [Act.put, List.setIfInBounds_toArray, List.set_cons_zero, List.set_cons_succ, i64_w, i32_w]
                     rfl
                    refine pure_ (i := 10) (N := some 6) (v := ?_) (a' := ?_) #[true, true, true, true, true, true, true, true, true, true, true] rfl rfl (any_of HT_.out (by kernel_rfl)) (fun _ _ _ h => h) (Or.inl ⟨by rfl, ?_⟩) ?_ ?_
                    rotate_left
                    ·intro w'
                     go_simp
                     with_reducible rfl
                    rotate_left
                    ·simp only [Act.put, List.setIfInBounds_toArray, List.set_cons_zero, List.set_cons_succ, i64_w, i32_w]
                     rfl
                    refine done_ (done_of HT_.out (by kernel_rfl)) ?_
                    try go_wp2
                    go_ret
                    exact ⟨by first | rfl | (simp [errW_none, errW_some] <;> rfl) | (simp [*, errW_none, errW_some] <;> rfl), by repeat (first | (with_reducible first | exact HB.out | apply below_alloc | apply pw_below_drewN | apply below_drew1 | refine below_set ?_ GE149.out | refine below_set ?_ GE150.out | refine below_set ?_ GE162.out | refine below_set ?_ GE171.out | refine below_set ?_ GE178.out) | exact HB.out)⟩
                   ·replace c134 := Bool.eq_false_iff.mpr c134
                    subst c134
                    have H1 : (some false) = some r := by rw [if_neg (show ¬ (false = true) by decide)] at H; exact H
                    clear H
                    have H := H1
                    clear H1
                    exact absurd ((Option.some.inj H).trans HT.out) (by simp)
                  ·rw [if_neg c133] at H
                   exact absurd H (by simp)
                 ·rw [if_neg c132] at H
                  exact absurd H (by simp)
                ·rw [if_neg c131] at H
                 exact absurd H (by simp)
    ·replace c32 := Bool.eq_false_iff.mpr c32
     subst c32
     have H1 : (if t151 = true then ((fencepostref10_Same.f kj4 t155 t158 l1_0 l1_1).bind fun t163 => (some t163)) else (some false)) = some r := by rw [if_neg (show ¬ (false = true) by decide)] at H; exact H
     clear H
     have H := H1
     clear H1
     by_cases c153 : t151 = true
     ·subst c153
      have H1 : ((fencepostref10_Same.f kj4 t155 t158 l1_0 l1_1).bind fun t163 => (some t163)) = some r := by rw [if_pos rfl] at H; exact H
      clear H
      have H := H1
      clear H1
      replace H := Option.bind_eq_some_iff.mp H
      obtain ⟨t163, A1540, H⟩ := H
      replace H : (some t163) = some r := H
      have A154 := Aside0.mk A1540
      clear A1540
      obtain rfl := Option.some.inj H
      have hnb155 := NB149_150.out
      have hnc155 := NB150_149.out
      have hcz156_0 : wc.cell? ⟨gb149, 0, none⟩ = some (.slice A0_0 l0_0.length c0_0) := (blk_cell BK149.out 0).trans rfl
      have hcz156_1 : wc.cell? ⟨gb149, 1, none⟩ = some (.slice A0_1 l0_1.length c0_1) := (blk_cell BK149.out 1).trans rfl
      have hfz156_0 := blk_frozen BK149.out 0
      have hfz156_1 := blk_frozen BK149.out 1
      have hcz157_0 : wc.cell? ⟨gb150, 0, none⟩ = some (.slice A1_0 l1_0.length c1_0) := (blk_cell BK150.out 0).trans rfl
      have hcz157_1 : wc.cell? ⟨gb150, 1, none⟩ = some (.slice A1_1 l1_1.length c1_1) := (blk_cell BK150.out 1).trans rfl
      have hfz157_0 := blk_frozen BK150.out 0
      have hfz157_1 := blk_frozen BK150.out 1
      go_wp2_with (first | ((with_reducible refine gate_callee (f := 17) rfl ?_); refine goesL_ (some 34) rfl rfl Try.func17 (by kernel_rfl) rfl #[.agg #[.slice A0_0 l0_0.length c0_0, .slice A0_1 l0_1.length c0_1], .agg #[.slice A1_0 l1_0.length c1_0, .slice A1_1 l1_1.length c1_1], .int .i64 a2] rfl (by (try simp only [List.map_toArray, List.map_cons, List.map_nil]); first | done | rfl | (simp only [List.length_drop, List.length_take]; rfl)) ?_; (with_reducible refine (sc_Step.calls _ _ l0_0 _ _ l0_1 _ _ l1_0 _ _ l1_1 a2 t155 t158 false _ ?side1 ?side2 ?side3 ?side4 ?side5 ?side6 ?side7 ?side8 A31.out).mono ?_); (case side1 => repeat (first | exact (Kd.C_below HR0_0.out HB.out) | (with_reducible refine Kd.C_alloc ?_ _) | (with_reducible refine Kd.C_drewN ?_ _) | (with_reducible refine Kd.C_drew ?_))); (case side2 => exact HC0_0.out); (case side3 => repeat (first | exact (Kd.C_below HR0_1.out HB.out) | (with_reducible refine Kd.C_alloc ?_ _) | (with_reducible refine Kd.C_drewN ?_ _) | (with_reducible refine Kd.C_drew ?_))); (case side4 => exact HC0_1.out); (case side5 => repeat (first | exact (Kd.C_below HR1_0.out HB.out) | (with_reducible refine Kd.C_alloc ?_ _) | (with_reducible refine Kd.C_drewN ?_ _) | (with_reducible refine Kd.C_drew ?_))); (case side6 => exact HC1_0.out); (case side7 => repeat (first | exact (Kd.C_below HR1_1.out HB.out) | (with_reducible refine Kd.C_alloc ?_ _) | (with_reducible refine Kd.C_drewN ?_ _) | (with_reducible refine Kd.C_drew ?_))); (case side8 => exact HC1_1.out); rintro e w158 ⟨v156, v159, rfl, ho0, ho1, hb⟩; refine ⟨_, rfl, ?_⟩; have n0_ := Aside0.mk (Kd.V_lower (Kd.V_mono (ok' := fun k_ => k_ ≠ gb149 ∧ k_ ≠ gb150) ho0 (fun k_ hk_ => ⟨(Kd.freshB (g := gb149) (o := .cells #[.slice A0_0 l0_0.length c0_0, .slice A0_1 l0_1.length c0_1] 25 (0, 0)) (by (with_reducible repeat (first | refine blk_drewN ?_ _ | refine blk_drew ?_ | refine blk_alloc ?_ _)); exact BK149.out) k_ hk_), (Kd.freshB (g := gb150) (o := .cells #[.slice A1_0 l1_0.length c1_0, .slice A1_1 l1_1.length c1_1] 28 (0, 0)) (by (with_reducible repeat (first | refine blk_drewN ?_ _ | refine blk_drew ?_ | refine blk_alloc ?_ _)); exact BK150.out) k_ hk_)⟩)) (below_size (by repeat (first | (with_reducible first | exact HB.out | apply below_alloc | apply pw_below_drewN | apply below_drew1 | refine below_set ?_ GE149.out | refine below_set ?_ GE150.out) | exact HB.out)))); have n1_ := Aside0.mk (Kd.V_lower (Kd.V_mono (ok' := fun k_ => k_ ≠ gb149 ∧ k_ ≠ gb150) ho1 (fun k_ hk_ => ⟨(Kd.freshB (g := gb149) (o := .cells #[.slice A0_0 l0_0.length c0_0, .slice A0_1 l0_1.length c0_1] 25 (0, 0)) (by (with_reducible repeat (first | refine blk_drewN ?_ _ | refine blk_drew ?_ | refine blk_alloc ?_ _)); exact BK149.out) k_ hk_), (Kd.freshB (g := gb150) (o := .cells #[.slice A1_0 l1_0.length c1_0, .slice A1_1 l1_1.length c1_1] 28 (0, 0)) (by (with_reducible repeat (first | refine blk_drewN ?_ _ | refine blk_drew ?_ | refine blk_alloc ?_ _)); exact BK150.out) k_ hk_)⟩)) (below_size (by repeat (first | (with_reducible first | exact HB.out | apply below_alloc | apply pw_below_drewN | apply below_drew1 | refine below_set ?_ GE149.out | refine below_set ?_ GE150.out) | exact HB.out)))); have n2_ := Aside0.mk (blk_below (g := gb149) (o := .cells #[.slice A0_0 l0_0.length c0_0, .slice A0_1 l0_1.length c0_1] 25 (0, 0)) (by (with_reducible repeat (first | refine blk_drewN ?_ _ | refine blk_drew ?_ | refine blk_alloc ?_ _)); exact BK149.out) hb); have n3_ := Aside0.mk (blk_below (g := gb150) (o := .cells #[.slice A1_0 l1_0.length c1_0, .slice A1_1 l1_1.length c1_1] 28 (0, 0)) (by (with_reducible repeat (first | refine blk_drewN ?_ _ | refine blk_drew ?_ | refine blk_alloc ?_ _)); exact BK150.out) hb); have n4_ := Aside0.mk (below_step (by repeat (first | (with_reducible first | exact HB.out | apply below_alloc | apply pw_below_drewN | apply below_drew1 | refine below_set ?_ GE149.out | refine below_set ?_ GE150.out) | exact HB.out)) hb); clear BK149; clear BK150; clear HB; have HO157 := n0_; have HO160 := n1_; have BK149 := n2_; have BK150 := n3_; have HB := n4_; clear n0_ n1_ n2_ n3_ n4_; (try clear hb); (try clear hb2); (try clear hk); (try clear hi); (try clear ho0); (try clear ho1)) | ((with_reducible refine gate_dst (N := 8) rfl ?_); (try (refine gate_guard (by rfl) ?_; dsimp only)); refine box_event ?hg (N := 8) ?hd (cs := #[.slice none 0 0, .slice none 0 0]) (t := 28) ?hr ?_; (case hd => rfl); (case hg => rfl); (case hr => first | (go_simp; done) | (go_simp; rfl)); intro gb162 hg w159 hbox hb; have n0_ := Aside0.mk (Kd.V_below (Kd.V_elderB (by (with_reducible repeat (first | apply Kd.V_alloc | apply Kd.V_drewN | apply Kd.V_drew)); exact HO157.out) gb162 (Nat.le_of_eq hg.symm)) hb); have n1_ := Aside0.mk (Kd.V_below (Kd.V_elderB (by (with_reducible repeat (first | apply Kd.V_alloc | apply Kd.V_drewN | apply Kd.V_drew)); exact HO160.out) gb162 (Nat.le_of_eq hg.symm)) hb); have n2_ := Aside0.mk (blk_below (g := gb149) (o := .cells #[.slice A0_0 l0_0.length c0_0, .slice A0_1 l0_1.length c0_1] 25 (0, 0)) (by (with_reducible repeat (first | refine blk_drewN ?_ _ | refine blk_drew ?_ | refine blk_alloc ?_ _)); exact BK149.out) hb); have n3_ := Aside0.mk (blk_below (g := gb150) (o := .cells #[.slice A1_0 l1_0.length c1_0, .slice A1_1 l1_1.length c1_1] 28 (0, 0)) (by (with_reducible repeat (first | refine blk_drewN ?_ _ | refine blk_drew ?_ | refine blk_alloc ?_ _)); exact BK150.out) hb); have n4_ := Aside0.mk (below_step (by repeat (first | (with_reducible first | exact HB.out | apply below_alloc | apply pw_below_drewN | apply below_drew1 | refine below_set ?_ GE149.out | refine below_set ?_ GE150.out) | exact HB.out)) hb); have n5_ := Aside0.mk (hbox); have n6_ := Aside0.mk ((by rw [hg]; exact (below_size (by repeat (first | (with_reducible first | exact HB.out | apply below_alloc | apply pw_below_drewN | apply below_drew1 | refine below_set ?_ GE149.out | refine below_set ?_ GE150.out) | exact HB.out))) : w.heap.size ≤ gb162)); have n7_ := Aside0.mk ((by rw [hg]; exact (below_size (by repeat (first | (with_reducible first | exact HB.out | apply below_alloc | apply pw_below_drewN | apply below_drew1 | refine below_set ?_ GE149.out | refine below_set ?_ GE150.out) | exact HB.out))) : w.heap.size ≤ gb162)); have n8_ := Aside0.mk ((by rw [hg]; exact Nat.ne_of_lt (blk_lt (g := gb149) (o := .cells #[.slice A0_0 l0_0.length c0_0, .slice A0_1 l0_1.length c0_1] 25 (0, 0)) (by (with_reducible repeat (first | refine blk_drewN ?_ _ | refine blk_drew ?_ | refine blk_alloc ?_ _)); exact BK149.out)) : gb149 ≠ gb162)); have n9_ := Aside0.mk ((by rw [hg]; exact Nat.ne_of_gt (blk_lt (g := gb149) (o := .cells #[.slice A0_0 l0_0.length c0_0, .slice A0_1 l0_1.length c0_1] 25 (0, 0)) (by (with_reducible repeat (first | refine blk_drewN ?_ _ | refine blk_drew ?_ | refine blk_alloc ?_ _)); exact BK149.out)) : gb162 ≠ gb149)); have n10_ := Aside0.mk ((by rw [hg]; exact Nat.ne_of_lt (blk_lt (g := gb150) (o := .cells #[.slice A1_0 l1_0.length c1_0, .slice A1_1 l1_1.length c1_1] 28 (0, 0)) (by (with_reducible repeat (first | refine blk_drewN ?_ _ | refine blk_drew ?_ | refine blk_alloc ?_ _)); exact BK150.out)) : gb150 ≠ gb162)); have n11_ := Aside0.mk ((by rw [hg]; exact Nat.ne_of_gt (blk_lt (g := gb150) (o := .cells #[.slice A1_0 l1_0.length c1_0, .slice A1_1 l1_1.length c1_1] 28 (0, 0)) (by (with_reducible repeat (first | refine blk_drewN ?_ _ | refine blk_drew ?_ | refine blk_alloc ?_ _)); exact BK150.out)) : gb162 ≠ gb150)); clear HO157; clear HO160; clear BK149; clear BK150; clear HB; have HO157 := n0_; have HO160 := n1_; have BK149 := n2_; have BK150 := n3_; have HB := n4_; have BK162 := n5_; have GW162 := n6_; have GE162 := n7_; have NB149_162 := n8_; have NB162_149 := n9_; have NB150_162 := n10_; have NB162_150 := n11_; clear n0_ n1_ n2_ n3_ n4_ n5_ n6_ n7_ n8_ n9_ n10_ n11_; clear hb hbox hg; obtain ⟨Ao160, co160, eo160⟩ := Kd.V_slice HO157.out; subst eo160; have hnb161 := NB162_149.out; have hnc161 := NB149_162.out; have hnb162 := NB162_150.out; have hnc162 := NB150_162.out; have hcz163_0 : w159.cell? ⟨gb162, 0, none⟩ = some (.slice none 0 0) := (blk_cell BK162.out 0).trans rfl; have hcz163_1 : w159.cell? ⟨gb162, 1, none⟩ = some (.slice none 0 0) := (blk_cell BK162.out 1).trans rfl; have hfz163_0 := blk_frozen BK162.out 0; have hfz163_1 := blk_frozen BK162.out 1; obtain ⟨Ao164, co164, eo164⟩ := Kd.V_slice HO160.out; subst eo164; have hcz165_0 : w159.cell? ⟨gb150, 0, none⟩ = some (.slice A1_0 l1_0.length c1_0) := (blk_cell BK150.out 0).trans rfl; have hcz165_1 : w159.cell? ⟨gb150, 1, none⟩ = some (.slice A1_1 l1_1.length c1_1) := (blk_cell BK150.out 1).trans rfl; have hfz165_0 := blk_frozen BK150.out 0; have hfz165_1 := blk_frozen BK150.out 1) | (go_at_call 14; (with_reducible refine (fencepostref10_Same.calls kj4 _ _ t155 _ _ t158 _ _ l1_0 _ _ l1_1 t163 _ ?side1 ?side2 ?side3 ?side4 ?side5 ?side6 ?side7 ?side8 A154.out).mono ?_); (case side1 => refine (Kd.V_reads' (e := 3) (base := w.heap.size) (ok := fun k_ => ((k_ ≠ gb149 ∧ k_ ≠ gb150) ∧ k_ ≠ gb162)) (n := t155.length) (c := co160) ?_).2.2; exact (by (with_reducible repeat (first | apply Kd.V_alloc | apply Kd.V_drewN | apply Kd.V_drew)); exact (Kd.V_mono (Kd.V_far (p := ⟨gb162, 1, none⟩) (Kd.V_far (p := ⟨gb162, 0, none⟩) (Kd.V_mono HO157.out (fun k_ hk => (⟨hk, hk.2⟩ : _ ∧ k_ ≠ gb162))) (fun _ hk => hk.2) (.slice Ao160 t155.length co160)) (fun _ hk => hk.2) (.slice Ao164 t158.length co164)) (fun _ h_ => h_.1)))); (case side2 => exact (Kd.V_reads' HO157.out).2.1); (case side3 => refine (Kd.V_reads' (e := 45) (base := w.heap.size) (ok := fun k_ => ((k_ ≠ gb149 ∧ k_ ≠ gb150) ∧ k_ ≠ gb162)) (n := t158.length) (c := co164) ?_).2.2; exact (by (with_reducible repeat (first | apply Kd.V_alloc | apply Kd.V_drewN | apply Kd.V_drew)); exact (Kd.V_mono (Kd.V_far (p := ⟨gb162, 1, none⟩) (Kd.V_far (p := ⟨gb162, 0, none⟩) (Kd.V_mono HO160.out (fun k_ hk => (⟨hk, hk.2⟩ : _ ∧ k_ ≠ gb162))) (fun _ hk => hk.2) (.slice Ao160 t155.length co160)) (fun _ hk => hk.2) (.slice Ao164 t158.length co164)) (fun _ h_ => h_.1)))); (case side4 => exact (Kd.V_reads' HO160.out).2.1); (case side5 => exact Kd.C_below HR1_0.out (by repeat (first | (with_reducible first | exact HB.out | apply below_alloc | apply pw_below_drewN | apply below_drew1 | refine below_set ?_ GE149.out | refine below_set ?_ GE150.out | refine below_set ?_ GE162.out) | exact HB.out))); (case side6 => exact HC1_0.out); (case side7 => exact Kd.C_below HR1_1.out (by repeat (first | (with_reducible first | exact HB.out | apply below_alloc | apply pw_below_drewN | apply below_drew1 | refine below_set ?_ GE149.out | refine below_set ?_ GE150.out | refine below_set ?_ GE162.out) | exact HB.out))); (case side8 => exact HC1_1.out); rintro e w166 ⟨rfl, hb⟩; have n0_ := Aside0.mk (Kd.V_below (by (with_reducible repeat (first | apply Kd.V_alloc | apply Kd.V_drewN | apply Kd.V_drew)); exact (Kd.V_mono (Kd.V_far (p := ⟨gb162, 1, none⟩) (Kd.V_far (p := ⟨gb162, 0, none⟩) (Kd.V_mono HO157.out (fun k_ hk => (⟨hk, hk.2⟩ : _ ∧ k_ ≠ gb162))) (fun _ hk => hk.2) (.slice Ao160 t155.length co160)) (fun _ hk => hk.2) (.slice Ao164 t158.length co164)) (fun _ h_ => h_.1))) hb); have n1_ := Aside0.mk (Kd.V_below (by (with_reducible repeat (first | apply Kd.V_alloc | apply Kd.V_drewN | apply Kd.V_drew)); exact (Kd.V_mono (Kd.V_far (p := ⟨gb162, 1, none⟩) (Kd.V_far (p := ⟨gb162, 0, none⟩) (Kd.V_mono HO160.out (fun k_ hk => (⟨hk, hk.2⟩ : _ ∧ k_ ≠ gb162))) (fun _ hk => hk.2) (.slice Ao160 t155.length co160)) (fun _ hk => hk.2) (.slice Ao164 t158.length co164)) (fun _ h_ => h_.1))) hb); have n2_ := Aside0.mk (blk_below (g := gb149) (o := .cells #[.slice A0_0 l0_0.length c0_0, .slice A0_1 l0_1.length c0_1] 25 (0, 0)) (by (with_reducible repeat (first | refine blk_drewN ?_ _ | refine blk_drew ?_ | refine blk_alloc ?_ _)); refine blk_far ?_ NB149_162.out _; (with_reducible repeat (first | refine blk_drewN ?_ _ | refine blk_drew ?_ | refine blk_alloc ?_ _)); refine blk_far ?_ NB149_162.out _; (with_reducible repeat (first | refine blk_drewN ?_ _ | refine blk_drew ?_ | refine blk_alloc ?_ _)); exact BK149.out) hb); have n3_ := Aside0.mk (blk_below (g := gb150) (o := .cells #[.slice A1_0 l1_0.length c1_0, .slice A1_1 l1_1.length c1_1] 28 (0, 0)) (by (with_reducible repeat (first | refine blk_drewN ?_ _ | refine blk_drew ?_ | refine blk_alloc ?_ _)); refine blk_far ?_ NB150_162.out _; (with_reducible repeat (first | refine blk_drewN ?_ _ | refine blk_drew ?_ | refine blk_alloc ?_ _)); refine blk_far ?_ NB150_162.out _; (with_reducible repeat (first | refine blk_drewN ?_ _ | refine blk_drew ?_ | refine blk_alloc ?_ _)); exact BK150.out) hb); have n4_ := Aside0.mk (blk_below (g := gb162) (o := .cells #[.slice Ao160 t155.length co160, .slice Ao164 t158.length co164] 28 (0, 0)) (by (with_reducible repeat (first | refine blk_drewN ?_ _ | refine blk_drew ?_ | refine blk_alloc ?_ _)); refine blk_put (cs := #[.slice Ao160 t155.length co160, .slice none 0 0]) ?_ 1 _ rfl; (with_reducible repeat (first | refine blk_drewN ?_ _ | refine blk_drew ?_ | refine blk_alloc ?_ _)); refine blk_put (cs := #[.slice none 0 0, .slice none 0 0]) ?_ 0 _ rfl; (with_reducible repeat (first | refine blk_drewN ?_ _ | refine blk_drew ?_ | refine blk_alloc ?_ _)); exact BK162.out) hb); have n5_ := Aside0.mk (below_step (by repeat (first | (with_reducible first | exact HB.out | apply below_alloc | apply pw_below_drewN | apply below_drew1 | refine below_set ?_ GE149.out | refine below_set ?_ GE150.out | refine below_set ?_ GE162.out) | exact HB.out)) hb); clear HO157; clear HO160; clear BK149; clear BK150; clear BK162; clear HB; have HO157 := n0_; have HO160 := n1_; have BK149 := n2_; have BK150 := n3_; have BK162 := n4_; have HB := n5_; clear n0_ n1_ n2_ n3_ n4_ n5_; (try clear hb); (try clear hb2); (try clear hk); (try clear hi)))
      go_ret
      exact ⟨by first | rfl | (simp [errW_none, errW_some] <;> rfl) | (simp [*, errW_none, errW_some] <;> rfl), by repeat (first | (with_reducible first | exact HB.out | apply below_alloc | apply pw_below_drewN | apply below_drew1 | refine below_set ?_ GE149.out | refine below_set ?_ GE150.out | refine below_set ?_ GE162.out) | exact HB.out)⟩
     ·replace c153 := Bool.eq_false_iff.mpr c153
      subst c153
      have H1 : (some false) = some r := by rw [if_neg (show ¬ (false = true) by decide)] at H; exact H
      clear H
      have H := H1
      clear H1
      exact absurd ((Option.some.inj H).trans HT.out) (by simp)
end Go.Proofs.Ytdliojcpnkggnaa.Print
