-- Written by ownprint.py (this session's) with the kit's print.py: functions, contracts, rows; Lean checks it.
import Derived.Test.YtdliojcpnkggnaaPrint0
import Derived.Test.YtdliojcpnkggnaaPrint5
import Derived.Test.YtdliojcpnkggnaaPrint6
import Derived.Test.YtdliojcpnkggnaaPrint8
import Derived.Test.YtdliojcpnkggnaaPrint9
import Derived.Test.YtdliojcpnkggnaaHHead10
import Derived.Test.YtdliojcpnkggnaaHScStep
namespace Go.Proofs.Ytdliojcpnkggnaa.Print
open Go.RowKit Go.Proofs.YtdliojcpnkggnaaW.PrintWords Go.Proofs.YtdliojcpnkggnaaW.PrintLast Go.Proofs.YtdliojcpnkggnaaW.PrintMore
attribute [local go_sem] max2_int min2_int max_two min_two max_three min_three max_four min_four   -- for this text's walks alone
set_option linter.unusedVariables false
set_option linter.unusedSimpArgs false
mutual
def fencepostlaw10_ScSwap.j0 : Nat → Int → Int → Bool → Bool → List Int → List (List (S39)) → List Int → List (S45) → Option (Bool)
 | 0, _, _, _, _, _, _, _, _ => none
 | k + 1, x2, x3, x9, x44, x183000, x183001, x184000, x184001 => if x44 = true then (some x9) else (if (x184001.length : Int) = 0 then (none) else ((fencepostref10_At.f x183000 x183001 x184000 x184001 (Int.tmod (wrap64 (x2)) (x184001.length : Int))).bind fun bt188 => ((fencepostref10_At.f x183000 x183001 x184000 x184001 (Int.tmod (wrap64 (x3)) (x184001.length : Int))).bind fun bt195 => (if bt188.1 ≥ 2 then (fencepostlaw10_ScSwap.j1 k x9 (Int.tmod (wrap64 (x2)) (x184001.length : Int)) (Int.tmod (wrap64 (x3)) (x184001.length : Int)) bt188.2.2.2.2.2 bt195.2.2.2.2.2 (decide (bt188.1 ≤ 5)) x183000 x183001 x184000 x184001 bt188.1 bt188.2.1 bt188.2.2.1 bt188.2.2.2.1 bt188.2.2.2.2.1 bt195.1 bt195.2.1 bt195.2.2.1 bt195.2.2.2.1 bt195.2.2.2.2.1) else (fencepostlaw10_ScSwap.j1 k x9 (Int.tmod (wrap64 (x2)) (x184001.length : Int)) (Int.tmod (wrap64 (x3)) (x184001.length : Int)) bt188.2.2.2.2.2 bt195.2.2.2.2.2 false x183000 x183001 x184000 x184001 bt188.1 bt188.2.1 bt188.2.2.1 bt188.2.2.2.1 bt188.2.2.2.2.1 bt195.1 bt195.2.1 bt195.2.2.1 bt195.2.2.2.1 bt195.2.2.2.2.1)))))
def fencepostlaw10_ScSwap.j1 : Nat → Bool → Int → Int → Bool → Bool → Bool → List Int → List (List (S39)) → List Int → List (S45) → Int → Int → Int → Int → Int → Int → Int → Int → Int → Int → Option (Bool)
 | 0, _, _, _, _, _, _, _, _, _, _, _, _, _, _, _, _, _, _, _, _ => none
 | k + 1, x9, x10, x11, x13, x15, x16, x183000, x183001, x184000, x184001, x195000, x195001, x195002, x195003, x195004, x202000, x202001, x202002, x202003, x202004 => if x202000 ≥ 2 then (fencepostlaw10_ScSwap.j2 k x9 x10 x11 x13 x15 x16 (decide (x202000 ≤ 5)) x183000 x183001 x184000 x184001 x195000 x195001 x195002 x195003 x195004 x202000 x202001 x202002 x202003 x202004) else (fencepostlaw10_ScSwap.j2 k x9 x10 x11 x13 x15 x16 false x183000 x183001 x184000 x184001 x195000 x195001 x195002 x195003 x195004 x202000 x202001 x202002 x202003 x202004)
def fencepostlaw10_ScSwap.j2 : Nat → Bool → Int → Int → Bool → Bool → Bool → Bool → List Int → List (List (S39)) → List Int → List (S45) → Int → Int → Int → Int → Int → Int → Int → Int → Int → Int → Option (Bool)
 | 0, _, _, _, _, _, _, _, _, _, _, _, _, _, _, _, _, _, _, _, _, _ => none
 | k + 1, x9, x10, x11, x13, x15, x16, x17, x183000, x183001, x184000, x184001, x195000, x195001, x195002, x195003, x195004, x202000, x202001, x202002, x202003, x202004 => if x10 = x11 then (fencepostlaw10_ScSwap.j3 k x9 x10 x11 true x183000 x183001 x184000 x184001) else (if x13 = true then (if x15 = true then (if x16 = true then (if x17 = true then (fencepostlaw10_ScSwap.j3 k x9 x10 x11 (x195002 == x202002) x183000 x183001 x184000 x184001) else (fencepostlaw10_ScSwap.j3 k x9 x10 x11 false x183000 x183001 x184000 x184001)) else (fencepostlaw10_ScSwap.j3 k x9 x10 x11 false x183000 x183001 x184000 x184001)) else (fencepostlaw10_ScSwap.j3 k x9 x10 x11 true x183000 x183001 x184000 x184001)) else (fencepostlaw10_ScSwap.j3 k x9 x10 x11 true x183000 x183001 x184000 x184001))
def fencepostlaw10_ScSwap.j3 : Nat → Bool → Int → Int → Bool → List Int → List (List (S39)) → List Int → List (S45) → Option (Bool)
 | 0, _, _, _, _, _, _, _, _ => none
 | k + 1, x9, x10, x11, x111, x183000, x183001, x184000, x184001 => if x111 = true then (some x9) else ((sc_Step.f x183000 x183001 x184000 x184001 x10).bind fun bt202 => ((sc_Step.f x183000 x183001 x184000 x184001 x11).bind fun bt210 => ((fencepostref10_Right.f k x183000 x183001 bt202.1 bt202.2.1).bind fun t218 => (if t218 = true then ((fencepostref10_Right.f k x183000 x183001 bt210.1 bt210.2.1).bind fun t219 => (fencepostlaw10_ScSwap.j4 k x9 x10 x11 (!t219) x183000 x183001 bt202.1 bt202.2.1 bt210.1 bt210.2.1)) else (fencepostlaw10_ScSwap.j4 k x9 x10 x11 true x183000 x183001 bt202.1 bt202.2.1 bt210.1 bt210.2.1)))))
def fencepostlaw10_ScSwap.j4 : Nat → Bool → Int → Int → Bool → List Int → List (List (S39)) → List Int → List (S45) → List Int → List (S45) → Option (Bool)
 | 0, _, _, _, _, _, _, _, _, _, _ => none
 | k + 1, x9, x10, x11, x136, x183000, x183001, x210000, x210001, x218000, x218001 => if x136 = true then (some false) else ((sc_Step.f x183000 x183001 x210000 x210001 x11).bind fun bt220 => ((sc_Step.f x183000 x183001 x218000 x218001 x10).bind fun bt228 => (if x9 = true then (if bt220.2.2 = true then (if bt228.2.2 = true then ((fencepostref10_Same.f k bt220.1 bt220.2.1 bt228.1 bt228.2.1).bind fun t236 => (some t236)) else (some false)) else (some false)) else (some false))))
end
def fencepostlaw10_ScSwap.f (k : Nat) (l0_0 : List Int) (l0_1 : List (List (S39))) (l1_0 : List Int) (l1_1 : List (S45)) (a2 : Int) (a3 : Int) : Option (Bool) := (fencepostlaw10_head.f).bind fun t184 => ((fencepostlaw10_Great.f k l0_0 l0_1).bind fun t185 => (if t185 = true then (fencepostlaw10_ScSwap.j0 k a2 a3 t184 true l0_0 l0_1 l1_0 l1_1) else ((fencepostlaw10_Wide.f k l1_0 l1_1).bind fun t186 => (if t186 = true then (fencepostlaw10_ScSwap.j0 k a2 a3 t184 true l0_0 l0_1 l1_0 l1_1) else ((fencepostref10_Right.f k l0_0 l0_1 l1_0 l1_1).bind fun t187 => (if t187 = true then (fencepostlaw10_ScSwap.j0 k a2 a3 t184 (decide ((l1_1.length : Int) < 2)) l0_0 l0_1 l1_0 l1_1) else (fencepostlaw10_ScSwap.j0 k a2 a3 t184 true l0_0 l0_1 l1_0 l1_1)))))))
theorem fencepostlaw10_ScSwap.mono_l : ∀ k, (∀ y0 y1 y2 y3 y4 y5 y6 y7, LeO (fencepostlaw10_ScSwap.j0 k y0 y1 y2 y3 y4 y5 y6 y7) (fencepostlaw10_ScSwap.j0 (k + 1) y0 y1 y2 y3 y4 y5 y6 y7)) ∧ (∀ y0 y1 y2 y3 y4 y5 y6 y7 y8 y9 y10 y11 y12 y13 y14 y15 y16 y17 y18 y19, LeO (fencepostlaw10_ScSwap.j1 k y0 y1 y2 y3 y4 y5 y6 y7 y8 y9 y10 y11 y12 y13 y14 y15 y16 y17 y18 y19) (fencepostlaw10_ScSwap.j1 (k + 1) y0 y1 y2 y3 y4 y5 y6 y7 y8 y9 y10 y11 y12 y13 y14 y15 y16 y17 y18 y19)) ∧ (∀ y0 y1 y2 y3 y4 y5 y6 y7 y8 y9 y10 y11 y12 y13 y14 y15 y16 y17 y18 y19 y20, LeO (fencepostlaw10_ScSwap.j2 k y0 y1 y2 y3 y4 y5 y6 y7 y8 y9 y10 y11 y12 y13 y14 y15 y16 y17 y18 y19 y20) (fencepostlaw10_ScSwap.j2 (k + 1) y0 y1 y2 y3 y4 y5 y6 y7 y8 y9 y10 y11 y12 y13 y14 y15 y16 y17 y18 y19 y20)) ∧ (∀ y0 y1 y2 y3 y4 y5 y6 y7, LeO (fencepostlaw10_ScSwap.j3 k y0 y1 y2 y3 y4 y5 y6 y7) (fencepostlaw10_ScSwap.j3 (k + 1) y0 y1 y2 y3 y4 y5 y6 y7)) ∧ (∀ y0 y1 y2 y3 y4 y5 y6 y7 y8 y9, LeO (fencepostlaw10_ScSwap.j4 k y0 y1 y2 y3 y4 y5 y6 y7 y8 y9) (fencepostlaw10_ScSwap.j4 (k + 1) y0 y1 y2 y3 y4 y5 y6 y7 y8 y9))
 | 0 => ⟨fun _ _ _ _ _ _ _ _ r h => by simp [fencepostlaw10_ScSwap.j0] at h, fun _ _ _ _ _ _ _ _ _ _ _ _ _ _ _ _ _ _ _ _ r h => by simp [fencepostlaw10_ScSwap.j1] at h, fun _ _ _ _ _ _ _ _ _ _ _ _ _ _ _ _ _ _ _ _ _ r h => by simp [fencepostlaw10_ScSwap.j2] at h, fun _ _ _ _ _ _ _ _ r h => by simp [fencepostlaw10_ScSwap.j3] at h, fun _ _ _ _ _ _ _ _ _ _ r h => by simp [fencepostlaw10_ScSwap.j4] at h⟩
 | k + 1 => by
  obtain ⟨ih0, ih1, ih2, ih3, ih4⟩ := fencepostlaw10_ScSwap.mono_l k
  refine ⟨?_, ?_, ?_, ?_, ?_⟩
  ·intro y0 y1 y2 y3 y4 y5 y6 y7
   unfold fencepostlaw10_ScSwap.j0
   repeat' first
   | (with_reducible exact ih0 _ _ _ _ _ _ _ _)
   | (with_reducible exact ih1 _ _ _ _ _ _ _ _ _ _ _ _ _ _ _ _ _ _ _ _)
   | (with_reducible exact ih2 _ _ _ _ _ _ _ _ _ _ _ _ _ _ _ _ _ _ _ _ _)
   | (with_reducible exact ih3 _ _ _ _ _ _ _ _)
   | (with_reducible exact ih4 _ _ _ _ _ _ _ _ _ _)
   | (with_reducible exact fencepostlaw10_Great.mono _ _ _)
   | (with_reducible exact fencepostlaw10_Wide.mono _ _ _)
   | (with_reducible exact fencepostref10_Right.mono _ _ _ _ _)
   | (with_reducible exact fencepostref10_Same.mono _ _ _ _ _)
   | (with_reducible exact LeO.refl _)
   | (with_reducible exact LeO.none _)
   | (with_reducible refine LeO.ite ?_ ?_)
   | (with_reducible refine LeO.bind ?_ (fun _ => ?_))
   | exact ih0 _ _ _ _ _ _ _ _
   | exact ih1 _ _ _ _ _ _ _ _ _ _ _ _ _ _ _ _ _ _ _ _
   | exact ih2 _ _ _ _ _ _ _ _ _ _ _ _ _ _ _ _ _ _ _ _ _
   | exact ih3 _ _ _ _ _ _ _ _
   | exact ih4 _ _ _ _ _ _ _ _ _ _
   | exact fencepostlaw10_Great.mono _ _ _
   | exact fencepostlaw10_Wide.mono _ _ _
   | exact fencepostref10_Right.mono _ _ _ _ _
   | exact fencepostref10_Same.mono _ _ _ _ _
   | exact LeO.none _
   | refine LeO.ite ?_ ?_
   | refine LeO.bind ?_ (fun _ => ?_)
  ·intro y0 y1 y2 y3 y4 y5 y6 y7 y8 y9 y10 y11 y12 y13 y14 y15 y16 y17 y18 y19
   unfold fencepostlaw10_ScSwap.j1
   repeat' first
   | (with_reducible exact ih0 _ _ _ _ _ _ _ _)
   | (with_reducible exact ih1 _ _ _ _ _ _ _ _ _ _ _ _ _ _ _ _ _ _ _ _)
   | (with_reducible exact ih2 _ _ _ _ _ _ _ _ _ _ _ _ _ _ _ _ _ _ _ _ _)
   | (with_reducible exact ih3 _ _ _ _ _ _ _ _)
   | (with_reducible exact ih4 _ _ _ _ _ _ _ _ _ _)
   | (with_reducible exact fencepostlaw10_Great.mono _ _ _)
   | (with_reducible exact fencepostlaw10_Wide.mono _ _ _)
   | (with_reducible exact fencepostref10_Right.mono _ _ _ _ _)
   | (with_reducible exact fencepostref10_Same.mono _ _ _ _ _)
   | (with_reducible exact LeO.refl _)
   | (with_reducible exact LeO.none _)
   | (with_reducible refine LeO.ite ?_ ?_)
   | (with_reducible refine LeO.bind ?_ (fun _ => ?_))
   | exact ih0 _ _ _ _ _ _ _ _
   | exact ih1 _ _ _ _ _ _ _ _ _ _ _ _ _ _ _ _ _ _ _ _
   | exact ih2 _ _ _ _ _ _ _ _ _ _ _ _ _ _ _ _ _ _ _ _ _
   | exact ih3 _ _ _ _ _ _ _ _
   | exact ih4 _ _ _ _ _ _ _ _ _ _
   | exact fencepostlaw10_Great.mono _ _ _
   | exact fencepostlaw10_Wide.mono _ _ _
   | exact fencepostref10_Right.mono _ _ _ _ _
   | exact fencepostref10_Same.mono _ _ _ _ _
   | exact LeO.none _
   | refine LeO.ite ?_ ?_
   | refine LeO.bind ?_ (fun _ => ?_)
  ·intro y0 y1 y2 y3 y4 y5 y6 y7 y8 y9 y10 y11 y12 y13 y14 y15 y16 y17 y18 y19 y20
   unfold fencepostlaw10_ScSwap.j2
   repeat' first
   | (with_reducible exact ih0 _ _ _ _ _ _ _ _)
   | (with_reducible exact ih1 _ _ _ _ _ _ _ _ _ _ _ _ _ _ _ _ _ _ _ _)
   | (with_reducible exact ih2 _ _ _ _ _ _ _ _ _ _ _ _ _ _ _ _ _ _ _ _ _)
   | (with_reducible exact ih3 _ _ _ _ _ _ _ _)
   | (with_reducible exact ih4 _ _ _ _ _ _ _ _ _ _)
   | (with_reducible exact fencepostlaw10_Great.mono _ _ _)
   | (with_reducible exact fencepostlaw10_Wide.mono _ _ _)
   | (with_reducible exact fencepostref10_Right.mono _ _ _ _ _)
   | (with_reducible exact fencepostref10_Same.mono _ _ _ _ _)
   | (with_reducible exact LeO.refl _)
   | (with_reducible exact LeO.none _)
   | (with_reducible refine LeO.ite ?_ ?_)
   | (with_reducible refine LeO.bind ?_ (fun _ => ?_))
   | exact ih0 _ _ _ _ _ _ _ _
   | exact ih1 _ _ _ _ _ _ _ _ _ _ _ _ _ _ _ _ _ _ _ _
   | exact ih2 _ _ _ _ _ _ _ _ _ _ _ _ _ _ _ _ _ _ _ _ _
   | exact ih3 _ _ _ _ _ _ _ _
   | exact ih4 _ _ _ _ _ _ _ _ _ _
   | exact fencepostlaw10_Great.mono _ _ _
   | exact fencepostlaw10_Wide.mono _ _ _
   | exact fencepostref10_Right.mono _ _ _ _ _
   | exact fencepostref10_Same.mono _ _ _ _ _
   | exact LeO.none _
   | refine LeO.ite ?_ ?_
   | refine LeO.bind ?_ (fun _ => ?_)
  ·intro y0 y1 y2 y3 y4 y5 y6 y7
   unfold fencepostlaw10_ScSwap.j3
   repeat' first
   | (with_reducible exact ih0 _ _ _ _ _ _ _ _)
   | (with_reducible exact ih1 _ _ _ _ _ _ _ _ _ _ _ _ _ _ _ _ _ _ _ _)
   | (with_reducible exact ih2 _ _ _ _ _ _ _ _ _ _ _ _ _ _ _ _ _ _ _ _ _)
   | (with_reducible exact ih3 _ _ _ _ _ _ _ _)
   | (with_reducible exact ih4 _ _ _ _ _ _ _ _ _ _)
   | (with_reducible exact fencepostlaw10_Great.mono _ _ _)
   | (with_reducible exact fencepostlaw10_Wide.mono _ _ _)
   | (with_reducible exact fencepostref10_Right.mono _ _ _ _ _)
   | (with_reducible exact fencepostref10_Same.mono _ _ _ _ _)
   | (with_reducible exact LeO.refl _)
   | (with_reducible exact LeO.none _)
   | (with_reducible refine LeO.ite ?_ ?_)
   | (with_reducible refine LeO.bind ?_ (fun _ => ?_))
   | exact ih0 _ _ _ _ _ _ _ _
   | exact ih1 _ _ _ _ _ _ _ _ _ _ _ _ _ _ _ _ _ _ _ _
   | exact ih2 _ _ _ _ _ _ _ _ _ _ _ _ _ _ _ _ _ _ _ _ _
   | exact ih3 _ _ _ _ _ _ _ _
   | exact ih4 _ _ _ _ _ _ _ _ _ _
   | exact fencepostlaw10_Great.mono _ _ _
   | exact fencepostlaw10_Wide.mono _ _ _
   | exact fencepostref10_Right.mono _ _ _ _ _
   | exact fencepostref10_Same.mono _ _ _ _ _
   | exact LeO.none _
   | refine LeO.ite ?_ ?_
   | refine LeO.bind ?_ (fun _ => ?_)
  ·intro y0 y1 y2 y3 y4 y5 y6 y7 y8 y9
   unfold fencepostlaw10_ScSwap.j4
   repeat' first
   | (with_reducible exact ih0 _ _ _ _ _ _ _ _)
   | (with_reducible exact ih1 _ _ _ _ _ _ _ _ _ _ _ _ _ _ _ _ _ _ _ _)
   | (with_reducible exact ih2 _ _ _ _ _ _ _ _ _ _ _ _ _ _ _ _ _ _ _ _ _)
   | (with_reducible exact ih3 _ _ _ _ _ _ _ _)
   | (with_reducible exact ih4 _ _ _ _ _ _ _ _ _ _)
   | (with_reducible exact fencepostlaw10_Great.mono _ _ _)
   | (with_reducible exact fencepostlaw10_Wide.mono _ _ _)
   | (with_reducible exact fencepostref10_Right.mono _ _ _ _ _)
   | (with_reducible exact fencepostref10_Same.mono _ _ _ _ _)
   | (with_reducible exact LeO.refl _)
   | (with_reducible exact LeO.none _)
   | (with_reducible refine LeO.ite ?_ ?_)
   | (with_reducible refine LeO.bind ?_ (fun _ => ?_))
   | exact ih0 _ _ _ _ _ _ _ _
   | exact ih1 _ _ _ _ _ _ _ _ _ _ _ _ _ _ _ _ _ _ _ _
   | exact ih2 _ _ _ _ _ _ _ _ _ _ _ _ _ _ _ _ _ _ _ _ _
   | exact ih3 _ _ _ _ _ _ _ _
   | exact ih4 _ _ _ _ _ _ _ _ _ _
   | exact fencepostlaw10_Great.mono _ _ _
   | exact fencepostlaw10_Wide.mono _ _ _
   | exact fencepostref10_Right.mono _ _ _ _ _
   | exact fencepostref10_Same.mono _ _ _ _ _
   | exact LeO.none _
   | refine LeO.ite ?_ ?_
   | refine LeO.bind ?_ (fun _ => ?_)
theorem fencepostlaw10_ScSwap.mono : ∀ a0 a1 a2 a3 a4 a5 k, LeO (fencepostlaw10_ScSwap.f k a0 a1 a2 a3 a4 a5) (fencepostlaw10_ScSwap.f (k + 1) a0 a1 a2 a3 a4 a5) := by
 intro a0 a1 a2 a3 a4 a5 k
 obtain ⟨ih0, ih1, ih2, ih3, ih4⟩ := fencepostlaw10_ScSwap.mono_l k
 unfold fencepostlaw10_ScSwap.f
 repeat' first
  | (with_reducible exact ih0 _ _ _ _ _ _ _ _)
  | (with_reducible exact ih1 _ _ _ _ _ _ _ _ _ _ _ _ _ _ _ _ _ _ _ _)
  | (with_reducible exact ih2 _ _ _ _ _ _ _ _ _ _ _ _ _ _ _ _ _ _ _ _ _)
  | (with_reducible exact ih3 _ _ _ _ _ _ _ _)
  | (with_reducible exact ih4 _ _ _ _ _ _ _ _ _ _)
  | (with_reducible exact fencepostlaw10_Great.mono _ _ _)
  | (with_reducible exact fencepostlaw10_Wide.mono _ _ _)
  | (with_reducible exact fencepostref10_Right.mono _ _ _ _ _)
  | (with_reducible exact fencepostref10_Same.mono _ _ _ _ _)
  | (with_reducible exact LeO.refl _)
  | (with_reducible exact LeO.none _)
  | (with_reducible refine LeO.ite ?_ ?_)
  | (with_reducible refine LeO.bind ?_ (fun _ => ?_))
  | exact ih0 _ _ _ _ _ _ _ _
  | exact ih1 _ _ _ _ _ _ _ _ _ _ _ _ _ _ _ _ _ _ _ _
  | exact ih2 _ _ _ _ _ _ _ _ _ _ _ _ _ _ _ _ _ _ _ _ _
  | exact ih3 _ _ _ _ _ _ _ _
  | exact ih4 _ _ _ _ _ _ _ _ _ _
  | exact fencepostlaw10_Great.mono _ _ _
  | exact fencepostlaw10_Wide.mono _ _ _
  | exact fencepostref10_Right.mono _ _ _ _ _
  | exact fencepostref10_Same.mono _ _ _ _ _
  | exact LeO.none _
  | refine LeO.ite ?_ ?_
  | refine LeO.bind ?_ (fun _ => ?_)
set_option maxHeartbeats 8000000 in
set_option maxRecDepth 100000 in
theorem fencepostlaw10_ScSwap.calls (k : Nat) (A0_0 : Option Addr) (c0_0 : Nat) (l0_0 : List Int) (A0_1 : Option Addr) (c0_1 : Nat) (l0_1 : List (List (S39))) (A1_0 : Option Addr) (c1_0 : Nat) (l1_0 : List Int) (A1_1 : Option Addr) (c1_1 : Nat) (l1_1 : List (S45)) (a2 : Int) (a3 : Int) (r : Bool) (w : World) (hr0_0 : Kd.C (Kd.int .i64) w A0_0 l0_0.length l0_0) (hc0_0 : l0_0.length ≤ c0_0) (hr0_1 : Kd.C (Kd.slice 39 k39) w A0_1 l0_1.length l0_1) (hc0_1 : l0_1.length ≤ c0_1) (hr1_0 : Kd.C (Kd.int .i64) w A1_0 l1_0.length l1_0) (hc1_0 : l1_0.length ≤ c1_0) (hr1_1 : Kd.C k45 w A1_1 l1_1.length l1_1) (hc1_1 : l1_1.length ≤ c1_1) (ht_ : r = true) (h : fencepostlaw10_ScSwap.f k l0_0 l0_1 l1_0 l1_1 a2 a3 = some r) :
 Calls Try.prog 7 #[.agg #[.slice A0_0 l0_0.length c0_0, .slice A0_1 l0_1.length c0_1], .agg #[.slice A1_0 l1_0.length c1_0, .slice A1_1 l1_1.length c1_1], .int .u8 a2, .int .u8 a3] w fun e w' => e = .returned (.bool r) ∧ Below w.heap.size w w' := by
 have hu25 := Try.underlying25
 have hu28 := Try.underlying28
 have hu39 := Try.underlying39
 have HR0_0 := Aside0.mk hr0_0
 have HC0_0 := Aside0.mk hc0_0
 clear hr0_0 hc0_0
 have HR0_1 := Aside0.mk hr0_1
 have HC0_1 := Aside0.mk hc0_1
 clear hr0_1 hc0_1
 have HR1_0 := Aside0.mk hr1_0
 have HC1_0 := Aside0.mk hc1_0
 clear hr1_0 hc1_0
 have HR1_1 := Aside0.mk hr1_1
 have HC1_1 := Aside0.mk hc1_1
 clear hr1_1 hc1_1
 have HB := Aside0.mk (Below.refl w.heap.size w)
 have HT := Aside0.mk ht_
 clear ht_
 have H : ((fencepostlaw10_head.f).bind fun t184 => ((fencepostlaw10_Great.f k l0_0 l0_1).bind fun t185 => (if t185 = true then (fencepostlaw10_ScSwap.j0 k a2 a3 t184 true l0_0 l0_1 l1_0 l1_1) else ((fencepostlaw10_Wide.f k l1_0 l1_1).bind fun t186 => (if t186 = true then (fencepostlaw10_ScSwap.j0 k a2 a3 t184 true l0_0 l0_1 l1_0 l1_1) else ((fencepostref10_Right.f k l0_0 l0_1 l1_0 l1_1).bind fun t187 => (if t187 = true then (fencepostlaw10_ScSwap.j0 k a2 a3 t184 (decide ((l1_1.length : Int) < 2)) l0_0 l0_1 l1_0 l1_1) else (fencepostlaw10_ScSwap.j0 k a2 a3 t184 true l0_0 l0_1 l1_0 l1_1)))))))) = some r := h
 clear h
 replace H := Option.bind_eq_some_iff.mp H
 obtain ⟨t184, A50, H⟩ := H
 replace H : ((fencepostlaw10_Great.f k l0_0 l0_1).bind fun t185 => (if t185 = true then (fencepostlaw10_ScSwap.j0 k a2 a3 t184 true l0_0 l0_1 l1_0 l1_1) else ((fencepostlaw10_Wide.f k l1_0 l1_1).bind fun t186 => (if t186 = true then (fencepostlaw10_ScSwap.j0 k a2 a3 t184 true l0_0 l0_1 l1_0 l1_1) else ((fencepostref10_Right.f k l0_0 l0_1 l1_0 l1_1).bind fun t187 => (if t187 = true then (fencepostlaw10_ScSwap.j0 k a2 a3 t184 (decide ((l1_1.length : Int) < 2)) l0_0 l0_1 l1_0 l1_1) else (fencepostlaw10_ScSwap.j0 k a2 a3 t184 true l0_0 l0_1 l1_0 l1_1))))))) = some r := H
 have A5 := Aside0.mk A50
 clear A50
 have HC6 := Aside0.mk H
 clear H
 go_enter Try.func7, Try.ntmps7
 (try simp only [List.append_eq, List.cons_append, List.nil_append])
 go_upto_region 2 with (first | ((with_reducible refine gate_dst (N := 4) rfl ?_); (try (refine gate_guard (by rfl) ?_; dsimp only)); refine box_event ?hg (N := 4) ?hd (cs := #[.slice A0_0 l0_0.length c0_0, .slice A0_1 l0_1.length c0_1]) (t := 25) ?hr ?_; (case hd => rfl); (case hg => rfl); (case hr => first | (go_simp; done) | (go_simp; rfl)); intro gb182 hg w7 hbox hb; have n0_ := Aside0.mk (below_step (by repeat (first | (with_reducible first | exact HB.out | apply below_alloc | apply pw_below_drewN | apply below_drew1) | exact HB.out)) hb); have n1_ := Aside0.mk (hbox); have n2_ := Aside0.mk ((by rw [hg]; exact (below_size (by repeat (first | (with_reducible first | exact HB.out | apply below_alloc | apply pw_below_drewN | apply below_drew1) | exact HB.out))) : w.heap.size ≤ gb182)); have n3_ := Aside0.mk ((by rw [hg]; exact (below_size (by repeat (first | (with_reducible first | exact HB.out | apply below_alloc | apply pw_below_drewN | apply below_drew1) | exact HB.out))) : w.heap.size ≤ gb182)); clear HB; have HB := n0_; have BK182 := n1_; have GW182 := n2_; have GE182 := n3_; clear n0_ n1_ n2_ n3_; clear hb hbox hg) | ((with_reducible refine gate_dst (N := 5) rfl ?_); (try (refine gate_guard (by rfl) ?_; dsimp only)); refine box_event ?hg (N := 5) ?hd (cs := #[.slice A1_0 l1_0.length c1_0, .slice A1_1 l1_1.length c1_1]) (t := 28) ?hr ?_; (case hd => rfl); (case hg => rfl); (case hr => first | (go_simp; done) | (go_simp; rfl)); intro gb183 hg w8 hbox hb; have n0_ := Aside0.mk (blk_below (g := gb182) (o := .cells #[.slice A0_0 l0_0.length c0_0, .slice A0_1 l0_1.length c0_1] 25 (0, 0)) (by (with_reducible repeat (first | refine blk_drewN ?_ _ | refine blk_drew ?_ | refine blk_alloc ?_ _)); exact BK182.out) hb); have n1_ := Aside0.mk (below_step (by repeat (first | (with_reducible first | exact HB.out | apply below_alloc | apply pw_below_drewN | apply below_drew1 | refine below_set ?_ GE182.out) | exact HB.out)) hb); have n2_ := Aside0.mk (hbox); have n3_ := Aside0.mk ((by rw [hg]; exact (below_size (by repeat (first | (with_reducible first | exact HB.out | apply below_alloc | apply pw_below_drewN | apply below_drew1 | refine below_set ?_ GE182.out) | exact HB.out))) : w.heap.size ≤ gb183)); have n4_ := Aside0.mk ((by rw [hg]; exact (below_size (by repeat (first | (with_reducible first | exact HB.out | apply below_alloc | apply pw_below_drewN | apply below_drew1 | refine below_set ?_ GE182.out) | exact HB.out))) : w.heap.size ≤ gb183)); have n5_ := Aside0.mk ((by rw [hg]; exact Nat.ne_of_lt (blk_lt (g := gb182) (o := .cells #[.slice A0_0 l0_0.length c0_0, .slice A0_1 l0_1.length c0_1] 25 (0, 0)) (by (with_reducible repeat (first | refine blk_drewN ?_ _ | refine blk_drew ?_ | refine blk_alloc ?_ _)); exact BK182.out)) : gb182 ≠ gb183)); have n6_ := Aside0.mk ((by rw [hg]; exact Nat.ne_of_gt (blk_lt (g := gb182) (o := .cells #[.slice A0_0 l0_0.length c0_0, .slice A0_1 l0_1.length c0_1] 25 (0, 0)) (by (with_reducible repeat (first | refine blk_drewN ?_ _ | refine blk_drew ?_ | refine blk_alloc ?_ _)); exact BK182.out)) : gb183 ≠ gb182)); clear BK182; clear HB; have BK182 := n0_; have HB := n1_; have BK183 := n2_; have GW183 := n3_; have GE183 := n4_; have NB182_183 := n5_; have NB183_182 := n6_; clear n0_ n1_ n2_ n3_ n4_ n5_ n6_; clear hb hbox hg) | ((with_reducible refine gate_callee (f := 9) rfl ?_); refine goesL_ (some 26) rfl rfl Try.func9 (by kernel_rfl) rfl #[] rfl (by (try simp only [List.map_toArray, List.map_cons, List.map_nil]); first | done | rfl | (simp only [List.length_drop, List.length_take]; rfl)) ?_; (with_reducible refine (fencepostlaw10_head.calls  t184 _ A5.out).mono ?_); rintro e w9 ⟨rfl, hb⟩; refine ⟨_, rfl, ?_⟩; have n0_ := Aside0.mk (blk_below (g := gb182) (o := .cells #[.slice A0_0 l0_0.length c0_0, .slice A0_1 l0_1.length c0_1] 25 (0, 0)) (by (with_reducible repeat (first | refine blk_drewN ?_ _ | refine blk_drew ?_ | refine blk_alloc ?_ _)); exact BK182.out) hb); have n1_ := Aside0.mk (blk_below (g := gb183) (o := .cells #[.slice A1_0 l1_0.length c1_0, .slice A1_1 l1_1.length c1_1] 28 (0, 0)) (by (with_reducible repeat (first | refine blk_drewN ?_ _ | refine blk_drew ?_ | refine blk_alloc ?_ _)); exact BK183.out) hb); have n2_ := Aside0.mk (below_step (by repeat (first | (with_reducible first | exact HB.out | apply below_alloc | apply pw_below_drewN | apply below_drew1 | refine below_set ?_ GE182.out | refine below_set ?_ GE183.out) | exact HB.out)) hb); clear BK182; clear BK183; clear HB; have BK182 := n0_; have BK183 := n1_; have HB := n2_; clear n0_ n1_ n2_; (try clear hb); (try clear hb2); (try clear hk); (try clear hi)))
 (try simp only [Act.put, List.setIfInBounds_toArray, List.set_cons_zero, List.set_cons_succ])
 go_cut [44] (fun v44 wc => ∃ (kq : Nat) (x44_5 : Bool), v44 = .bool x44_5 ∧ Aside0 (fencepostlaw10_ScSwap.j0 kq a2 a3 t184 x44_5 l0_0 l0_1 l1_0 l1_1 = some r) ∧ Aside0 (kq ≤ k) ∧ Aside0 (wc.heap[gb182]? = some (.cells #[(.slice A0_0 l0_0.length c0_0), (.slice A0_1 l0_1.length c0_1)] 25 (0, 0))) ∧ Aside0 (wc.heap[gb183]? = some (.cells #[(.slice A1_0 l1_0.length c1_0), (.slice A1_1 l1_1.length c1_1)] 28 (0, 0))) ∧ Aside0 (Below w.heap.size w wc))
 case first =>
  have H := HC6.out
  clear HC6
  replace H := Option.bind_eq_some_iff.mp H
  obtain ⟨t185, A100, H⟩ := H
  replace H : (if t185 = true then (fencepostlaw10_ScSwap.j0 k a2 a3 t184 true l0_0 l0_1 l1_0 l1_1) else ((fencepostlaw10_Wide.f k l1_0 l1_1).bind fun t186 => (if t186 = true then (fencepostlaw10_ScSwap.j0 k a2 a3 t184 true l0_0 l0_1 l1_0 l1_1) else ((fencepostref10_Right.f k l0_0 l0_1 l1_0 l1_1).bind fun t187 => (if t187 = true then (fencepostlaw10_ScSwap.j0 k a2 a3 t184 (decide ((l1_1.length : Int) < 2)) l0_0 l0_1 l1_0 l1_1) else (fencepostlaw10_ScSwap.j0 k a2 a3 t184 true l0_0 l0_1 l1_0 l1_1)))))) = some r := H
  have A10 := Aside0.mk A100
  clear A100
  by_cases c11 : t185 = true
  ·subst c11
   have H1 : (fencepostlaw10_ScSwap.j0 k a2 a3 t184 true l0_0 l0_1 l1_0 l1_1) = some r := by rw [if_pos rfl] at H; exact H
   clear H
   have H := H1
   clear H1
   have H' := Aside0.mk H
   clear H
   have hnb12 := NB182_183.out
   have hnc12 := NB183_182.out
   have hcz13_0 : w9.cell? ⟨gb182, 0, none⟩ = some (.slice A0_0 l0_0.length c0_0) := (blk_cell BK182.out 0).trans rfl
   have hcz13_1 : w9.cell? ⟨gb182, 1, none⟩ = some (.slice A0_1 l0_1.length c0_1) := (blk_cell BK182.out 1).trans rfl
   have hfz13_0 := blk_frozen BK182.out 0
   have hfz13_1 := blk_frozen BK182.out 1
   go_wp2_with (first | ((with_reducible refine gate_callee (f := 10) rfl ?_); refine goesL_ (some 28) rfl rfl Try.func10 (by kernel_rfl) rfl #[.agg #[.slice A0_0 l0_0.length c0_0, .slice A0_1 l0_1.length c0_1]] rfl (by (try simp only [List.map_toArray, List.map_cons, List.map_nil]); first | done | rfl | (simp only [List.length_drop, List.length_take]; rfl)) ?_; (with_reducible refine (fencepostlaw10_Great.calls k _ _ l0_0 _ _ l0_1 true _ ?side1 ?side2 ?side3 ?side4 A10.out).mono ?_); (case side1 => repeat (first | exact (Kd.C_below HR0_0.out HB.out) | (with_reducible refine Kd.C_alloc ?_ _) | (with_reducible refine Kd.C_drewN ?_ _) | (with_reducible refine Kd.C_drew ?_))); (case side2 => exact HC0_0.out); (case side3 => repeat (first | exact (Kd.C_below HR0_1.out HB.out) | (with_reducible refine Kd.C_alloc ?_ _) | (with_reducible refine Kd.C_drewN ?_ _) | (with_reducible refine Kd.C_drew ?_))); (case side4 => exact HC0_1.out); rintro e w14 ⟨rfl, hb⟩; refine ⟨_, rfl, ?_⟩; have n0_ := Aside0.mk (blk_below (g := gb182) (o := .cells #[.slice A0_0 l0_0.length c0_0, .slice A0_1 l0_1.length c0_1] 25 (0, 0)) (by (with_reducible repeat (first | refine blk_drewN ?_ _ | refine blk_drew ?_ | refine blk_alloc ?_ _)); exact BK182.out) hb); have n1_ := Aside0.mk (blk_below (g := gb183) (o := .cells #[.slice A1_0 l1_0.length c1_0, .slice A1_1 l1_1.length c1_1] 28 (0, 0)) (by (with_reducible repeat (first | refine blk_drewN ?_ _ | refine blk_drew ?_ | refine blk_alloc ?_ _)); exact BK183.out) hb); have n2_ := Aside0.mk (below_step (by repeat (first | (with_reducible first | exact HB.out | apply below_alloc | apply pw_below_drewN | apply below_drew1 | refine below_set ?_ GE182.out | refine below_set ?_ GE183.out) | exact HB.out)) hb); clear BK182; clear BK183; clear HB; have BK182 := n0_; have BK183 := n1_; have HB := n2_; clear n0_ n1_ n2_; (try clear hb); (try clear hb2); (try clear hk); (try clear hi)))
   go_meet
   case rel => exact ⟨_, (true), (by first | rfl | (simp; done) | (simp [*]; done)), H', ⟨by first | omega | exact Nat.le_refl _⟩, ⟨by (with_reducible repeat (first | refine blk_drewN ?_ _ | refine blk_drew ?_ | refine blk_alloc ?_ _)); exact BK182.out⟩, ⟨by (with_reducible repeat (first | refine blk_drewN ?_ _ | refine blk_drew ?_ | refine blk_alloc ?_ _)); exact BK183.out⟩, ⟨by repeat (first | (with_reducible first | exact HB.out | apply below_alloc | apply pw_below_drewN | apply below_drew1 | refine below_set ?_ GE182.out | refine below_set ?_ GE183.out) | exact HB.out)⟩⟩
  ·replace c11 := Bool.eq_false_iff.mpr c11
   subst c11
   have H1 : ((fencepostlaw10_Wide.f k l1_0 l1_1).bind fun t186 => (if t186 = true then (fencepostlaw10_ScSwap.j0 k a2 a3 t184 true l0_0 l0_1 l1_0 l1_1) else ((fencepostref10_Right.f k l0_0 l0_1 l1_0 l1_1).bind fun t187 => (if t187 = true then (fencepostlaw10_ScSwap.j0 k a2 a3 t184 (decide ((l1_1.length : Int) < 2)) l0_0 l0_1 l1_0 l1_1) else (fencepostlaw10_ScSwap.j0 k a2 a3 t184 true l0_0 l0_1 l1_0 l1_1))))) = some r := by rw [if_neg (show ¬ (false = true) by decide)] at H; exact H
   clear H
   have H := H1
   clear H1
   replace H := Option.bind_eq_some_iff.mp H
   obtain ⟨t186, A150, H⟩ := H
   replace H : (if t186 = true then (fencepostlaw10_ScSwap.j0 k a2 a3 t184 true l0_0 l0_1 l1_0 l1_1) else ((fencepostref10_Right.f k l0_0 l0_1 l1_0 l1_1).bind fun t187 => (if t187 = true then (fencepostlaw10_ScSwap.j0 k a2 a3 t184 (decide ((l1_1.length : Int) < 2)) l0_0 l0_1 l1_0 l1_1) else (fencepostlaw10_ScSwap.j0 k a2 a3 t184 true l0_0 l0_1 l1_0 l1_1)))) = some r := H
   have A15 := Aside0.mk A150
   clear A150
   by_cases c16 : t186 = true
   ·subst c16
    have H1 : (fencepostlaw10_ScSwap.j0 k a2 a3 t184 true l0_0 l0_1 l1_0 l1_1) = some r := by rw [if_pos rfl] at H; exact H
    clear H
    have H := H1
    clear H1
    have H' := Aside0.mk H
    clear H
    have hnb17 := NB182_183.out
    have hnc17 := NB183_182.out
    have hcz18_0 : w9.cell? ⟨gb182, 0, none⟩ = some (.slice A0_0 l0_0.length c0_0) := (blk_cell BK182.out 0).trans rfl
    have hcz18_1 : w9.cell? ⟨gb182, 1, none⟩ = some (.slice A0_1 l0_1.length c0_1) := (blk_cell BK182.out 1).trans rfl
    have hfz18_0 := blk_frozen BK182.out 0
    have hfz18_1 := blk_frozen BK182.out 1
    go_wp2_with (first | ((with_reducible refine gate_callee (f := 10) rfl ?_); refine goesL_ (some 28) rfl rfl Try.func10 (by kernel_rfl) rfl #[.agg #[.slice A0_0 l0_0.length c0_0, .slice A0_1 l0_1.length c0_1]] rfl (by (try simp only [List.map_toArray, List.map_cons, List.map_nil]); first | done | rfl | (simp only [List.length_drop, List.length_take]; rfl)) ?_; (with_reducible refine (fencepostlaw10_Great.calls k _ _ l0_0 _ _ l0_1 false _ ?side1 ?side2 ?side3 ?side4 A10.out).mono ?_); (case side1 => repeat (first | exact (Kd.C_below HR0_0.out HB.out) | (with_reducible refine Kd.C_alloc ?_ _) | (with_reducible refine Kd.C_drewN ?_ _) | (with_reducible refine Kd.C_drew ?_))); (case side2 => exact HC0_0.out); (case side3 => repeat (first | exact (Kd.C_below HR0_1.out HB.out) | (with_reducible refine Kd.C_alloc ?_ _) | (with_reducible refine Kd.C_drewN ?_ _) | (with_reducible refine Kd.C_drew ?_))); (case side4 => exact HC0_1.out); rintro e w19 ⟨rfl, hb⟩; refine ⟨_, rfl, ?_⟩; have n0_ := Aside0.mk (blk_below (g := gb182) (o := .cells #[.slice A0_0 l0_0.length c0_0, .slice A0_1 l0_1.length c0_1] 25 (0, 0)) (by (with_reducible repeat (first | refine blk_drewN ?_ _ | refine blk_drew ?_ | refine blk_alloc ?_ _)); exact BK182.out) hb); have n1_ := Aside0.mk (blk_below (g := gb183) (o := .cells #[.slice A1_0 l1_0.length c1_0, .slice A1_1 l1_1.length c1_1] 28 (0, 0)) (by (with_reducible repeat (first | refine blk_drewN ?_ _ | refine blk_drew ?_ | refine blk_alloc ?_ _)); exact BK183.out) hb); have n2_ := Aside0.mk (below_step (by repeat (first | (with_reducible first | exact HB.out | apply below_alloc | apply pw_below_drewN | apply below_drew1 | refine below_set ?_ GE182.out | refine below_set ?_ GE183.out) | exact HB.out)) hb); clear BK182; clear BK183; clear HB; have BK182 := n0_; have BK183 := n1_; have HB := n2_; clear n0_ n1_ n2_; (try clear hb); (try clear hb2); (try clear hk); (try clear hi); have hcz20_0 : w19.cell? ⟨gb183, 0, none⟩ = some (.slice A1_0 l1_0.length c1_0) := (blk_cell BK183.out 0).trans rfl; have hcz20_1 : w19.cell? ⟨gb183, 1, none⟩ = some (.slice A1_1 l1_1.length c1_1) := (blk_cell BK183.out 1).trans rfl; have hfz20_0 := blk_frozen BK183.out 0; have hfz20_1 := blk_frozen BK183.out 1) | (go_at_call 11; (with_reducible refine (fencepostlaw10_Wide.calls k _ _ l1_0 _ _ l1_1 true _ ?side1 ?side2 ?side3 ?side4 A15.out).mono ?_); (case side1 => repeat (first | exact (Kd.C_below HR1_0.out HB.out) | (with_reducible refine Kd.C_alloc ?_ _) | (with_reducible refine Kd.C_drewN ?_ _) | (with_reducible refine Kd.C_drew ?_))); (case side2 => exact HC1_0.out); (case side3 => repeat (first | exact (Kd.C_below HR1_1.out HB.out) | (with_reducible refine Kd.C_alloc ?_ _) | (with_reducible refine Kd.C_drewN ?_ _) | (with_reducible refine Kd.C_drew ?_))); (case side4 => exact HC1_1.out); rintro e w21 ⟨rfl, hb⟩; have n0_ := Aside0.mk (blk_below (g := gb182) (o := .cells #[.slice A0_0 l0_0.length c0_0, .slice A0_1 l0_1.length c0_1] 25 (0, 0)) (by (with_reducible repeat (first | refine blk_drewN ?_ _ | refine blk_drew ?_ | refine blk_alloc ?_ _)); exact BK182.out) hb); have n1_ := Aside0.mk (blk_below (g := gb183) (o := .cells #[.slice A1_0 l1_0.length c1_0, .slice A1_1 l1_1.length c1_1] 28 (0, 0)) (by (with_reducible repeat (first | refine blk_drewN ?_ _ | refine blk_drew ?_ | refine blk_alloc ?_ _)); exact BK183.out) hb); have n2_ := Aside0.mk (below_step (by repeat (first | (with_reducible first | exact HB.out | apply below_alloc | apply pw_below_drewN | apply below_drew1 | refine below_set ?_ GE182.out | refine below_set ?_ GE183.out) | exact HB.out)) hb); clear BK182; clear BK183; clear HB; have BK182 := n0_; have BK183 := n1_; have HB := n2_; clear n0_ n1_ n2_; (try clear hb); (try clear hb2); (try clear hk); (try clear hi)))
    go_meet
    case rel => exact ⟨_, (true), (by first | rfl | (simp; done) | (simp [*]; done)), H', ⟨by first | omega | exact Nat.le_refl _⟩, ⟨by (with_reducible repeat (first | refine blk_drewN ?_ _ | refine blk_drew ?_ | refine blk_alloc ?_ _)); exact BK182.out⟩, ⟨by (with_reducible repeat (first | refine blk_drewN ?_ _ | refine blk_drew ?_ | refine blk_alloc ?_ _)); exact BK183.out⟩, ⟨by repeat (first | (with_reducible first | exact HB.out | apply below_alloc | apply pw_below_drewN | apply below_drew1 | refine below_set ?_ GE182.out | refine below_set ?_ GE183.out) | exact HB.out)⟩⟩
   ·replace c16 := Bool.eq_false_iff.mpr c16
    subst c16
    have H1 : ((fencepostref10_Right.f k l0_0 l0_1 l1_0 l1_1).bind fun t187 => (if t187 = true then (fencepostlaw10_ScSwap.j0 k a2 a3 t184 (decide ((l1_1.length : Int) < 2)) l0_0 l0_1 l1_0 l1_1) else (fencepostlaw10_ScSwap.j0 k a2 a3 t184 true l0_0 l0_1 l1_0 l1_1))) = some r := by rw [if_neg (show ¬ (false = true) by decide)] at H; exact H
    clear H
    have H := H1
    clear H1
    replace H := Option.bind_eq_some_iff.mp H
    obtain ⟨t187, A220, H⟩ := H
    replace H : (if t187 = true then (fencepostlaw10_ScSwap.j0 k a2 a3 t184 (decide ((l1_1.length : Int) < 2)) l0_0 l0_1 l1_0 l1_1) else (fencepostlaw10_ScSwap.j0 k a2 a3 t184 true l0_0 l0_1 l1_0 l1_1)) = some r := H
    have A22 := Aside0.mk A220
    clear A220
    by_cases c23 : t187 = true
    ·subst c23
     have H1 : (fencepostlaw10_ScSwap.j0 k a2 a3 t184 (decide ((l1_1.length : Int) < 2)) l0_0 l0_1 l1_0 l1_1) = some r := by rw [if_pos rfl] at H; exact H
     clear H
     have H := H1
     clear H1
     have H' := Aside0.mk H
     clear H
     have hnb24 := NB182_183.out
     have hnc24 := NB183_182.out
     have hcz25_0 : w9.cell? ⟨gb182, 0, none⟩ = some (.slice A0_0 l0_0.length c0_0) := (blk_cell BK182.out 0).trans rfl
     have hcz25_1 : w9.cell? ⟨gb182, 1, none⟩ = some (.slice A0_1 l0_1.length c0_1) := (blk_cell BK182.out 1).trans rfl
     have hfz25_0 := blk_frozen BK182.out 0
     have hfz25_1 := blk_frozen BK182.out 1
     go_wp2_with (first | ((with_reducible refine gate_callee (f := 10) rfl ?_); refine goesL_ (some 28) rfl rfl Try.func10 (by kernel_rfl) rfl #[.agg #[.slice A0_0 l0_0.length c0_0, .slice A0_1 l0_1.length c0_1]] rfl (by (try simp only [List.map_toArray, List.map_cons, List.map_nil]); first | done | rfl | (simp only [List.length_drop, List.length_take]; rfl)) ?_; (with_reducible refine (fencepostlaw10_Great.calls k _ _ l0_0 _ _ l0_1 false _ ?side1 ?side2 ?side3 ?side4 A10.out).mono ?_); (case side1 => repeat (first | exact (Kd.C_below HR0_0.out HB.out) | (with_reducible refine Kd.C_alloc ?_ _) | (with_reducible refine Kd.C_drewN ?_ _) | (with_reducible refine Kd.C_drew ?_))); (case side2 => exact HC0_0.out); (case side3 => repeat (first | exact (Kd.C_below HR0_1.out HB.out) | (with_reducible refine Kd.C_alloc ?_ _) | (with_reducible refine Kd.C_drewN ?_ _) | (with_reducible refine Kd.C_drew ?_))); (case side4 => exact HC0_1.out); rintro e w26 ⟨rfl, hb⟩; refine ⟨_, rfl, ?_⟩; have n0_ := Aside0.mk (blk_below (g := gb182) (o := .cells #[.slice A0_0 l0_0.length c0_0, .slice A0_1 l0_1.length c0_1] 25 (0, 0)) (by (with_reducible repeat (first | refine blk_drewN ?_ _ | refine blk_drew ?_ | refine blk_alloc ?_ _)); exact BK182.out) hb); have n1_ := Aside0.mk (blk_below (g := gb183) (o := .cells #[.slice A1_0 l1_0.length c1_0, .slice A1_1 l1_1.length c1_1] 28 (0, 0)) (by (with_reducible repeat (first | refine blk_drewN ?_ _ | refine blk_drew ?_ | refine blk_alloc ?_ _)); exact BK183.out) hb); have n2_ := Aside0.mk (below_step (by repeat (first | (with_reducible first | exact HB.out | apply below_alloc | apply pw_below_drewN | apply below_drew1 | refine below_set ?_ GE182.out | refine below_set ?_ GE183.out) | exact HB.out)) hb); clear BK182; clear BK183; clear HB; have BK182 := n0_; have BK183 := n1_; have HB := n2_; clear n0_ n1_ n2_; (try clear hb); (try clear hb2); (try clear hk); (try clear hi); have hcz27_0 : w26.cell? ⟨gb183, 0, none⟩ = some (.slice A1_0 l1_0.length c1_0) := (blk_cell BK183.out 0).trans rfl; have hcz27_1 : w26.cell? ⟨gb183, 1, none⟩ = some (.slice A1_1 l1_1.length c1_1) := (blk_cell BK183.out 1).trans rfl; have hfz27_0 := blk_frozen BK183.out 0; have hfz27_1 := blk_frozen BK183.out 1) | (go_at_call 11; (with_reducible refine (fencepostlaw10_Wide.calls k _ _ l1_0 _ _ l1_1 false _ ?side1 ?side2 ?side3 ?side4 A15.out).mono ?_); (case side1 => repeat (first | exact (Kd.C_below HR1_0.out HB.out) | (with_reducible refine Kd.C_alloc ?_ _) | (with_reducible refine Kd.C_drewN ?_ _) | (with_reducible refine Kd.C_drew ?_))); (case side2 => exact HC1_0.out); (case side3 => repeat (first | exact (Kd.C_below HR1_1.out HB.out) | (with_reducible refine Kd.C_alloc ?_ _) | (with_reducible refine Kd.C_drewN ?_ _) | (with_reducible refine Kd.C_drew ?_))); (case side4 => exact HC1_1.out); rintro e w28 ⟨rfl, hb⟩; have n0_ := Aside0.mk (blk_below (g := gb182) (o := .cells #[.slice A0_0 l0_0.length c0_0, .slice A0_1 l0_1.length c0_1] 25 (0, 0)) (by (with_reducible repeat (first | refine blk_drewN ?_ _ | refine blk_drew ?_ | refine blk_alloc ?_ _)); exact BK182.out) hb); have n1_ := Aside0.mk (blk_below (g := gb183) (o := .cells #[.slice A1_0 l1_0.length c1_0, .slice A1_1 l1_1.length c1_1] 28 (0, 0)) (by (with_reducible repeat (first | refine blk_drewN ?_ _ | refine blk_drew ?_ | refine blk_alloc ?_ _)); exact BK183.out) hb); have n2_ := Aside0.mk (below_step (by repeat (first | (with_reducible first | exact HB.out | apply below_alloc | apply pw_below_drewN | apply below_drew1 | refine below_set ?_ GE182.out | refine below_set ?_ GE183.out) | exact HB.out)) hb); clear BK182; clear BK183; clear HB; have BK182 := n0_; have BK183 := n1_; have HB := n2_; clear n0_ n1_ n2_; (try clear hb); (try clear hb2); (try clear hk); (try clear hi); have hcz29_0 : w28.cell? ⟨gb182, 0, none⟩ = some (.slice A0_0 l0_0.length c0_0) := (blk_cell BK182.out 0).trans rfl; have hcz29_1 : w28.cell? ⟨gb182, 1, none⟩ = some (.slice A0_1 l0_1.length c0_1) := (blk_cell BK182.out 1).trans rfl; have hfz29_0 := blk_frozen BK182.out 0; have hfz29_1 := blk_frozen BK182.out 1; have hcz30_0 : w28.cell? ⟨gb183, 0, none⟩ = some (.slice A1_0 l1_0.length c1_0) := (blk_cell BK183.out 0).trans rfl; have hcz30_1 : w28.cell? ⟨gb183, 1, none⟩ = some (.slice A1_1 l1_1.length c1_1) := (blk_cell BK183.out 1).trans rfl; have hfz30_0 := blk_frozen BK183.out 0; have hfz30_1 := blk_frozen BK183.out 1) | (go_at_call 13; (with_reducible refine (fencepostref10_Right.calls k _ _ l0_0 _ _ l0_1 _ _ l1_0 _ _ l1_1 true _ ?side1 ?side2 ?side3 ?side4 ?side5 ?side6 ?side7 ?side8 A22.out).mono ?_); (case side1 => repeat (first | exact (Kd.C_below HR0_0.out HB.out) | (with_reducible refine Kd.C_alloc ?_ _) | (with_reducible refine Kd.C_drewN ?_ _) | (with_reducible refine Kd.C_drew ?_))); (case side2 => exact HC0_0.out); (case side3 => repeat (first | exact (Kd.C_below HR0_1.out HB.out) | (with_reducible refine Kd.C_alloc ?_ _) | (with_reducible refine Kd.C_drewN ?_ _) | (with_reducible refine Kd.C_drew ?_))); (case side4 => exact HC0_1.out); (case side5 => repeat (first | exact (Kd.C_below HR1_0.out HB.out) | (with_reducible refine Kd.C_alloc ?_ _) | (with_reducible refine Kd.C_drewN ?_ _) | (with_reducible refine Kd.C_drew ?_))); (case side6 => exact HC1_0.out); (case side7 => repeat (first | exact (Kd.C_below HR1_1.out HB.out) | (with_reducible refine Kd.C_alloc ?_ _) | (with_reducible refine Kd.C_drewN ?_ _) | (with_reducible refine Kd.C_drew ?_))); (case side8 => exact HC1_1.out); rintro e w31 ⟨rfl, hb⟩; have n0_ := Aside0.mk (blk_below (g := gb182) (o := .cells #[.slice A0_0 l0_0.length c0_0, .slice A0_1 l0_1.length c0_1] 25 (0, 0)) (by (with_reducible repeat (first | refine blk_drewN ?_ _ | refine blk_drew ?_ | refine blk_alloc ?_ _)); exact BK182.out) hb); have n1_ := Aside0.mk (blk_below (g := gb183) (o := .cells #[.slice A1_0 l1_0.length c1_0, .slice A1_1 l1_1.length c1_1] 28 (0, 0)) (by (with_reducible repeat (first | refine blk_drewN ?_ _ | refine blk_drew ?_ | refine blk_alloc ?_ _)); exact BK183.out) hb); have n2_ := Aside0.mk (below_step (by repeat (first | (with_reducible first | exact HB.out | apply below_alloc | apply pw_below_drewN | apply below_drew1 | refine below_set ?_ GE182.out | refine below_set ?_ GE183.out) | exact HB.out)) hb); clear BK182; clear BK183; clear HB; have BK182 := n0_; have BK183 := n1_; have HB := n2_; clear n0_ n1_ n2_; (try clear hb); (try clear hb2); (try clear hk); (try clear hi); have hcz32_0 : w31.cell? ⟨gb183, 0, none⟩ = some (.slice A1_0 l1_0.length c1_0) := (blk_cell BK183.out 0).trans rfl; have hcz32_1 : w31.cell? ⟨gb183, 1, none⟩ = some (.slice A1_1 l1_1.length c1_1) := (blk_cell BK183.out 1).trans rfl; have hfz32_0 := blk_frozen BK183.out 0; have hfz32_1 := blk_frozen BK183.out 1))
     go_meet
     case rel => exact ⟨_, (decide ((l1_1.length : Int) < 2)), (by first | rfl | (simp; done) | (simp [*]; done)), H', ⟨by first | omega | exact Nat.le_refl _⟩, ⟨by (with_reducible repeat (first | refine blk_drewN ?_ _ | refine blk_drew ?_ | refine blk_alloc ?_ _)); exact BK182.out⟩, ⟨by (with_reducible repeat (first | refine blk_drewN ?_ _ | refine blk_drew ?_ | refine blk_alloc ?_ _)); exact BK183.out⟩, ⟨by repeat (first | (with_reducible first | exact HB.out | apply below_alloc | apply pw_below_drewN | apply below_drew1 | refine below_set ?_ GE182.out | refine below_set ?_ GE183.out) | exact HB.out)⟩⟩
    ·replace c23 := Bool.eq_false_iff.mpr c23
     subst c23
     have H1 : (fencepostlaw10_ScSwap.j0 k a2 a3 t184 true l0_0 l0_1 l1_0 l1_1) = some r := by rw [if_neg (show ¬ (false = true) by decide)] at H; exact H
     clear H
     have H := H1
     clear H1
     have H' := Aside0.mk H
     clear H
     have hnb33 := NB182_183.out
     have hnc33 := NB183_182.out
     have hcz34_0 : w9.cell? ⟨gb182, 0, none⟩ = some (.slice A0_0 l0_0.length c0_0) := (blk_cell BK182.out 0).trans rfl
     have hcz34_1 : w9.cell? ⟨gb182, 1, none⟩ = some (.slice A0_1 l0_1.length c0_1) := (blk_cell BK182.out 1).trans rfl
     have hfz34_0 := blk_frozen BK182.out 0
     have hfz34_1 := blk_frozen BK182.out 1
     go_wp2_with (first | ((with_reducible refine gate_callee (f := 10) rfl ?_); refine goesL_ (some 28) rfl rfl Try.func10 (by kernel_rfl) rfl #[.agg #[.slice A0_0 l0_0.length c0_0, .slice A0_1 l0_1.length c0_1]] rfl (by (try simp only [List.map_toArray, List.map_cons, List.map_nil]); first | done | rfl | (simp only [List.length_drop, List.length_take]; rfl)) ?_; (with_reducible refine (fencepostlaw10_Great.calls k _ _ l0_0 _ _ l0_1 false _ ?side1 ?side2 ?side3 ?side4 A10.out).mono ?_); (case side1 => repeat (first | exact (Kd.C_below HR0_0.out HB.out) | (with_reducible refine Kd.C_alloc ?_ _) | (with_reducible refine Kd.C_drewN ?_ _) | (with_reducible refine Kd.C_drew ?_))); (case side2 => exact HC0_0.out); (case side3 => repeat (first | exact (Kd.C_below HR0_1.out HB.out) | (with_reducible refine Kd.C_alloc ?_ _) | (with_reducible refine Kd.C_drewN ?_ _) | (with_reducible refine Kd.C_drew ?_))); (case side4 => exact HC0_1.out); rintro e w35 ⟨rfl, hb⟩; refine ⟨_, rfl, ?_⟩; have n0_ := Aside0.mk (blk_below (g := gb182) (o := .cells #[.slice A0_0 l0_0.length c0_0, .slice A0_1 l0_1.length c0_1] 25 (0, 0)) (by (with_reducible repeat (first | refine blk_drewN ?_ _ | refine blk_drew ?_ | refine blk_alloc ?_ _)); exact BK182.out) hb); have n1_ := Aside0.mk (blk_below (g := gb183) (o := .cells #[.slice A1_0 l1_0.length c1_0, .slice A1_1 l1_1.length c1_1] 28 (0, 0)) (by (with_reducible repeat (first | refine blk_drewN ?_ _ | refine blk_drew ?_ | refine blk_alloc ?_ _)); exact BK183.out) hb); have n2_ := Aside0.mk (below_step (by repeat (first | (with_reducible first | exact HB.out | apply below_alloc | apply pw_below_drewN | apply below_drew1 | refine below_set ?_ GE182.out | refine below_set ?_ GE183.out) | exact HB.out)) hb); clear BK182; clear BK183; clear HB; have BK182 := n0_; have BK183 := n1_; have HB := n2_; clear n0_ n1_ n2_; (try clear hb); (try clear hb2); (try clear hk); (try clear hi); have hcz36_0 : w35.cell? ⟨gb183, 0, none⟩ = some (.slice A1_0 l1_0.length c1_0) := (blk_cell BK183.out 0).trans rfl; have hcz36_1 : w35.cell? ⟨gb183, 1, none⟩ = some (.slice A1_1 l1_1.length c1_1) := (blk_cell BK183.out 1).trans rfl; have hfz36_0 := blk_frozen BK183.out 0; have hfz36_1 := blk_frozen BK183.out 1) | (go_at_call 11; (with_reducible refine (fencepostlaw10_Wide.calls k _ _ l1_0 _ _ l1_1 false _ ?side1 ?side2 ?side3 ?side4 A15.out).mono ?_); (case side1 => repeat (first | exact (Kd.C_below HR1_0.out HB.out) | (with_reducible refine Kd.C_alloc ?_ _) | (with_reducible refine Kd.C_drewN ?_ _) | (with_reducible refine Kd.C_drew ?_))); (case side2 => exact HC1_0.out); (case side3 => repeat (first | exact (Kd.C_below HR1_1.out HB.out) | (with_reducible refine Kd.C_alloc ?_ _) | (with_reducible refine Kd.C_drewN ?_ _) | (with_reducible refine Kd.C_drew ?_))); (case side4 => exact HC1_1.out); rintro e w37 ⟨rfl, hb⟩; have n0_ := Aside0.mk (blk_below (g := gb182) (o := .cells #[.slice A0_0 l0_0.length c0_0, .slice A0_1 l0_1.length c0_1] 25 (0, 0)) (by (with_reducible repeat (first | refine blk_drewN ?_ _ | refine blk_drew ?_ | refine blk_alloc ?_ _)); exact BK182.out) hb); have n1_ := Aside0.mk (blk_below (g := gb183) (o := .cells #[.slice A1_0 l1_0.length c1_0, .slice A1_1 l1_1.length c1_1] 28 (0, 0)) (by (with_reducible repeat (first | refine blk_drewN ?_ _ | refine blk_drew ?_ | refine blk_alloc ?_ _)); exact BK183.out) hb); have n2_ := Aside0.mk (below_step (by repeat (first | (with_reducible first | exact HB.out | apply below_alloc | apply pw_below_drewN | apply below_drew1 | refine below_set ?_ GE182.out | refine below_set ?_ GE183.out) | exact HB.out)) hb); clear BK182; clear BK183; clear HB; have BK182 := n0_; have BK183 := n1_; have HB := n2_; clear n0_ n1_ n2_; (try clear hb); (try clear hb2); (try clear hk); (try clear hi); have hcz38_0 : w37.cell? ⟨gb182, 0, none⟩ = some (.slice A0_0 l0_0.length c0_0) := (blk_cell BK182.out 0).trans rfl; have hcz38_1 : w37.cell? ⟨gb182, 1, none⟩ = some (.slice A0_1 l0_1.length c0_1) := (blk_cell BK182.out 1).trans rfl; have hfz38_0 := blk_frozen BK182.out 0; have hfz38_1 := blk_frozen BK182.out 1; have hcz39_0 : w37.cell? ⟨gb183, 0, none⟩ = some (.slice A1_0 l1_0.length c1_0) := (blk_cell BK183.out 0).trans rfl; have hcz39_1 : w37.cell? ⟨gb183, 1, none⟩ = some (.slice A1_1 l1_1.length c1_1) := (blk_cell BK183.out 1).trans rfl; have hfz39_0 := blk_frozen BK183.out 0; have hfz39_1 := blk_frozen BK183.out 1) | (go_at_call 13; (with_reducible refine (fencepostref10_Right.calls k _ _ l0_0 _ _ l0_1 _ _ l1_0 _ _ l1_1 false _ ?side1 ?side2 ?side3 ?side4 ?side5 ?side6 ?side7 ?side8 A22.out).mono ?_); (case side1 => repeat (first | exact (Kd.C_below HR0_0.out HB.out) | (with_reducible refine Kd.C_alloc ?_ _) | (with_reducible refine Kd.C_drewN ?_ _) | (with_reducible refine Kd.C_drew ?_))); (case side2 => exact HC0_0.out); (case side3 => repeat (first | exact (Kd.C_below HR0_1.out HB.out) | (with_reducible refine Kd.C_alloc ?_ _) | (with_reducible refine Kd.C_drewN ?_ _) | (with_reducible refine Kd.C_drew ?_))); (case side4 => exact HC0_1.out); (case side5 => repeat (first | exact (Kd.C_below HR1_0.out HB.out) | (with_reducible refine Kd.C_alloc ?_ _) | (with_reducible refine Kd.C_drewN ?_ _) | (with_reducible refine Kd.C_drew ?_))); (case side6 => exact HC1_0.out); (case side7 => repeat (first | exact (Kd.C_below HR1_1.out HB.out) | (with_reducible refine Kd.C_alloc ?_ _) | (with_reducible refine Kd.C_drewN ?_ _) | (with_reducible refine Kd.C_drew ?_))); (case side8 => exact HC1_1.out); rintro e w40 ⟨rfl, hb⟩; have n0_ := Aside0.mk (blk_below (g := gb182) (o := .cells #[.slice A0_0 l0_0.length c0_0, .slice A0_1 l0_1.length c0_1] 25 (0, 0)) (by (with_reducible repeat (first | refine blk_drewN ?_ _ | refine blk_drew ?_ | refine blk_alloc ?_ _)); exact BK182.out) hb); have n1_ := Aside0.mk (blk_below (g := gb183) (o := .cells #[.slice A1_0 l1_0.length c1_0, .slice A1_1 l1_1.length c1_1] 28 (0, 0)) (by (with_reducible repeat (first | refine blk_drewN ?_ _ | refine blk_drew ?_ | refine blk_alloc ?_ _)); exact BK183.out) hb); have n2_ := Aside0.mk (below_step (by repeat (first | (with_reducible first | exact HB.out | apply below_alloc | apply pw_below_drewN | apply below_drew1 | refine below_set ?_ GE182.out | refine below_set ?_ GE183.out) | exact HB.out)) hb); clear BK182; clear BK183; clear HB; have BK182 := n0_; have BK183 := n1_; have HB := n2_; clear n0_ n1_ n2_; (try clear hb); (try clear hb2); (try clear hk); (try clear hi)))
     go_meet
     case rel => exact ⟨_, (true), (by first | rfl | (simp; done) | (simp [*]; done)), H', ⟨by first | omega | exact Nat.le_refl _⟩, ⟨by (with_reducible repeat (first | refine blk_drewN ?_ _ | refine blk_drew ?_ | refine blk_alloc ?_ _)); exact BK182.out⟩, ⟨by (with_reducible repeat (first | refine blk_drewN ?_ _ | refine blk_drew ?_ | refine blk_alloc ?_ _)); exact BK183.out⟩, ⟨by repeat (first | (with_reducible first | exact HB.out | apply below_alloc | apply pw_below_drewN | apply below_drew1 | refine below_set ?_ GE182.out | refine below_set ?_ GE183.out) | exact HB.out)⟩⟩
 case rest =>
  clear HC6
  try clear c1
  try clear c2
  try clear p2
  try clear c3
  try clear c7
  try clear c9
  try clear c10
  try clear c11
  try clear c12
  try clear c16
  try clear c17
  try clear c23
  try clear c24
  try clear c33
  try clear hcz13_0
  try clear hcz13_1
  try clear hcz18_0
  try clear hcz18_1
  try clear hcz20_0
  try clear hcz20_1
  try clear hcz25_0
  try clear hcz25_1
  try clear hcz27_0
  try clear hcz27_1
  try clear hcz29_0
  try clear hcz29_1
  try clear hcz30_0
  try clear hcz30_1
  try clear hcz32_0
  try clear hcz32_1
  try clear hcz34_0
  try clear hcz34_1
  try clear hcz36_0
  try clear hcz36_1
  try clear hcz38_0
  try clear hcz38_1
  try clear hcz39_0
  try clear hcz39_1
  try clear hfz13_0
  try clear hfz13_1
  try clear hfz18_0
  try clear hfz18_1
  try clear hfz20_0
  try clear hfz20_1
  try clear hfz25_0
  try clear hfz25_1
  try clear hfz27_0
  try clear hfz27_1
  try clear hfz29_0
  try clear hfz29_1
  try clear hfz30_0
  try clear hfz30_1
  try clear hfz32_0
  try clear hfz32_1
  try clear hfz34_0
  try clear hfz34_1
  try clear hfz36_0
  try clear hfz36_1
  try clear hfz38_0
  try clear hfz38_1
  try clear hfz39_0
  try clear hfz39_1
  obtain ⟨kq, x44_5, rfl, HA, HJ5, BK182, BK183, HB⟩ := hcut
  cases kq with
  | zero => exact absurd HA.out (by simp [fencepostlaw10_ScSwap.j0])
  | succ kj5 =>
   have H := HA.out
   clear HA
   simp only [fencepostlaw10_ScSwap.j0] at H
   by_cases c41 : x44_5 = true
   ·subst c41
    have H1 : (some t184) = some r := by rw [if_pos rfl] at H; exact H
    clear H
    have H := H1
    clear H1
    obtain rfl := Option.some.inj H
    go_wp2
    go_ret
    exact ⟨by first | rfl | (simp [errW_none, errW_some] <;> rfl) | (simp [*, errW_none, errW_some] <;> rfl), by repeat (first | (with_reducible first | exact HB.out | apply below_alloc | apply pw_below_drewN | apply below_drew1 | refine below_set ?_ GE182.out | refine below_set ?_ GE183.out) | exact HB.out)⟩
   ·replace c41 := Bool.eq_false_iff.mpr c41
    subst c41
    have H1 : (if (l1_1.length : Int) = 0 then (none) else ((fencepostref10_At.f l0_0 l0_1 l1_0 l1_1 (Int.tmod (wrap64 (a2)) (l1_1.length : Int))).bind fun bt188 => ((fencepostref10_At.f l0_0 l0_1 l1_0 l1_1 (Int.tmod (wrap64 (a3)) (l1_1.length : Int))).bind fun bt195 => (if bt188.1 ≥ 2 then (fencepostlaw10_ScSwap.j1 kj5 t184 (Int.tmod (wrap64 (a2)) (l1_1.length : Int)) (Int.tmod (wrap64 (a3)) (l1_1.length : Int)) bt188.2.2.2.2.2 bt195.2.2.2.2.2 (decide (bt188.1 ≤ 5)) l0_0 l0_1 l1_0 l1_1 bt188.1 bt188.2.1 bt188.2.2.1 bt188.2.2.2.1 bt188.2.2.2.2.1 bt195.1 bt195.2.1 bt195.2.2.1 bt195.2.2.2.1 bt195.2.2.2.2.1) else (fencepostlaw10_ScSwap.j1 kj5 t184 (Int.tmod (wrap64 (a2)) (l1_1.length : Int)) (Int.tmod (wrap64 (a3)) (l1_1.length : Int)) bt188.2.2.2.2.2 bt195.2.2.2.2.2 false l0_0 l0_1 l1_0 l1_1 bt188.1 bt188.2.1 bt188.2.2.1 bt188.2.2.2.1 bt188.2.2.2.2.1 bt195.1 bt195.2.1 bt195.2.2.1 bt195.2.2.2.1 bt195.2.2.2.2.1))))) = some r := by rw [if_neg (show ¬ (false = true) by decide)] at H; exact H
    clear H
    have H := H1
    clear H1
    by_cases c42 : (l1_1.length : Int) = 0
    ·rw [if_pos c42] at H
     exact absurd H (by simp)
    ·rw [if_neg c42] at H
     have c42b0 : ((l1_1.length : Int) == 0) = false := beq_eq_false_iff_ne.mpr c42
     have c42b1 : ((l1_1.length : Int) != 0) = true := bne_iff_ne.mpr c42
     have c42b2 : ¬ (l1_1 = []) := fun h_ => c42 (by rw [h_]; rfl)
     replace H := Option.bind_eq_some_iff.mp H
     obtain ⟨⟨t188, t189, t190, t191, t192, t193⟩, A430, H⟩ := H
     replace H : ((fencepostref10_At.f l0_0 l0_1 l1_0 l1_1 (Int.tmod (wrap64 (a3)) (l1_1.length : Int))).bind fun bt195 => (if t188 ≥ 2 then (fencepostlaw10_ScSwap.j1 kj5 t184 (Int.tmod (wrap64 (a2)) (l1_1.length : Int)) (Int.tmod (wrap64 (a3)) (l1_1.length : Int)) t193 bt195.2.2.2.2.2 (decide (t188 ≤ 5)) l0_0 l0_1 l1_0 l1_1 t188 t189 t190 t191 t192 bt195.1 bt195.2.1 bt195.2.2.1 bt195.2.2.2.1 bt195.2.2.2.2.1) else (fencepostlaw10_ScSwap.j1 kj5 t184 (Int.tmod (wrap64 (a2)) (l1_1.length : Int)) (Int.tmod (wrap64 (a3)) (l1_1.length : Int)) t193 bt195.2.2.2.2.2 false l0_0 l0_1 l1_0 l1_1 t188 t189 t190 t191 t192 bt195.1 bt195.2.1 bt195.2.2.1 bt195.2.2.2.1 bt195.2.2.2.2.1))) = some r := H
     have A43 := Aside0.mk A430
     clear A430
     replace H := Option.bind_eq_some_iff.mp H
     obtain ⟨⟨t195, t196, t197, t198, t199, t200⟩, A440, H⟩ := H
     replace H : (if t188 ≥ 2 then (fencepostlaw10_ScSwap.j1 kj5 t184 (Int.tmod (wrap64 (a2)) (l1_1.length : Int)) (Int.tmod (wrap64 (a3)) (l1_1.length : Int)) t193 t200 (decide (t188 ≤ 5)) l0_0 l0_1 l1_0 l1_1 t188 t189 t190 t191 t192 t195 t196 t197 t198 t199) else (fencepostlaw10_ScSwap.j1 kj5 t184 (Int.tmod (wrap64 (a2)) (l1_1.length : Int)) (Int.tmod (wrap64 (a3)) (l1_1.length : Int)) t193 t200 false l0_0 l0_1 l1_0 l1_1 t188 t189 t190 t191 t192 t195 t196 t197 t198 t199)) = some r := H
     have A44 := Aside0.mk A440
     clear A440
     have HC45 := Aside0.mk H
     clear H
     have hnb46 := NB183_182.out
     have hnc46 := NB182_183.out
     have hcz47_0 : wc.cell? ⟨gb183, 0, none⟩ = some (.slice A1_0 l1_0.length c1_0) := (blk_cell BK183.out 0).trans rfl
     have hcz47_1 : wc.cell? ⟨gb183, 1, none⟩ = some (.slice A1_1 l1_1.length c1_1) := (blk_cell BK183.out 1).trans rfl
     have hfz47_0 := blk_frozen BK183.out 0
     have hfz47_1 := blk_frozen BK183.out 1
     have hcz48_0 : wc.cell? ⟨gb182, 0, none⟩ = some (.slice A0_0 l0_0.length c0_0) := (blk_cell BK182.out 0).trans rfl
     have hcz48_1 : wc.cell? ⟨gb182, 1, none⟩ = some (.slice A0_1 l0_1.length c0_1) := (blk_cell BK182.out 1).trans rfl
     have hfz48_0 := blk_frozen BK182.out 0
     have hfz48_1 := blk_frozen BK182.out 1
     go_upto_region 8 with (first | ((with_reducible refine gate_callee (f := 19) rfl ?_); refine goesL_ (some 62) rfl rfl Try.func19 (by kernel_rfl) rfl #[.agg #[.slice A0_0 l0_0.length c0_0, .slice A0_1 l0_1.length c0_1], .agg #[.slice A1_0 l1_0.length c1_0, .slice A1_1 l1_1.length c1_1], .int .i64 (Int.tmod (wrap64 (a2)) (l1_1.length : Int))] rfl (by (try simp only [List.map_toArray, List.map_cons, List.map_nil]); first | done | rfl | (simp only [List.length_drop, List.length_take]; rfl)) ?_; (with_reducible refine (fencepostref10_At.calls _ _ l0_0 _ _ l0_1 _ _ l1_0 _ _ l1_1 (Int.tmod (wrap64 (a2)) (l1_1.length : Int)) t188 t189 t190 t191 t192 t193 _ ?side1 ?side2 ?side3 ?side4 ?side5 ?side6 ?side7 ?side8 A43.out).mono ?_); (case side1 => repeat (first | exact (Kd.C_below HR0_0.out HB.out) | (with_reducible refine Kd.C_alloc ?_ _) | (with_reducible refine Kd.C_drewN ?_ _) | (with_reducible refine Kd.C_drew ?_))); (case side2 => exact HC0_0.out); (case side3 => repeat (first | exact (Kd.C_below HR0_1.out HB.out) | (with_reducible refine Kd.C_alloc ?_ _) | (with_reducible refine Kd.C_drewN ?_ _) | (with_reducible refine Kd.C_drew ?_))); (case side4 => exact HC0_1.out); (case side5 => repeat (first | exact (Kd.C_below HR1_0.out HB.out) | (with_reducible refine Kd.C_alloc ?_ _) | (with_reducible refine Kd.C_drewN ?_ _) | (with_reducible refine Kd.C_drew ?_))); (case side6 => exact HC1_0.out); (case side7 => repeat (first | exact (Kd.C_below HR1_1.out HB.out) | (with_reducible refine Kd.C_alloc ?_ _) | (with_reducible refine Kd.C_drewN ?_ _) | (with_reducible refine Kd.C_drew ?_))); (case side8 => exact HC1_1.out); rintro e w49 ⟨rfl, hb⟩; refine ⟨_, rfl, ?_⟩; have n0_ := Aside0.mk (blk_below (g := gb182) (o := .cells #[.slice A0_0 l0_0.length c0_0, .slice A0_1 l0_1.length c0_1] 25 (0, 0)) (by (with_reducible repeat (first | refine blk_drewN ?_ _ | refine blk_drew ?_ | refine blk_alloc ?_ _)); exact BK182.out) hb); have n1_ := Aside0.mk (blk_below (g := gb183) (o := .cells #[.slice A1_0 l1_0.length c1_0, .slice A1_1 l1_1.length c1_1] 28 (0, 0)) (by (with_reducible repeat (first | refine blk_drewN ?_ _ | refine blk_drew ?_ | refine blk_alloc ?_ _)); exact BK183.out) hb); have n2_ := Aside0.mk (below_step (by repeat (first | (with_reducible first | exact HB.out | apply below_alloc | apply pw_below_drewN | apply below_drew1 | refine below_set ?_ GE182.out | refine below_set ?_ GE183.out) | exact HB.out)) hb); clear BK182; clear BK183; clear HB; have BK182 := n0_; have BK183 := n1_; have HB := n2_; clear n0_ n1_ n2_; (try clear hb); (try clear hb2); (try clear hk); (try clear hi)) | ((with_reducible refine gate_dst (N := 12) rfl ?_); (try (refine gate_guard (by rfl) ?_; dsimp only)); refine box_event ?hg (N := 12) ?hd (cs := #[.int .i64 0, .int .i64 0, .int .i64 0, .int .i64 0, .int .i64 0]) (t := 39) ?hr ?_; (case hd => rfl); (case hg => rfl); (case hr => first | (go_simp; done) | (go_simp; rfl)); intro gb194 hg w50 hbox hb; have n0_ := Aside0.mk (blk_below (g := gb182) (o := .cells #[.slice A0_0 l0_0.length c0_0, .slice A0_1 l0_1.length c0_1] 25 (0, 0)) (by (with_reducible repeat (first | refine blk_drewN ?_ _ | refine blk_drew ?_ | refine blk_alloc ?_ _)); exact BK182.out) hb); have n1_ := Aside0.mk (blk_below (g := gb183) (o := .cells #[.slice A1_0 l1_0.length c1_0, .slice A1_1 l1_1.length c1_1] 28 (0, 0)) (by (with_reducible repeat (first | refine blk_drewN ?_ _ | refine blk_drew ?_ | refine blk_alloc ?_ _)); exact BK183.out) hb); have n2_ := Aside0.mk (below_step (by repeat (first | (with_reducible first | exact HB.out | apply below_alloc | apply pw_below_drewN | apply below_drew1 | refine below_set ?_ GE182.out | refine below_set ?_ GE183.out) | exact HB.out)) hb); have n3_ := Aside0.mk (hbox); have n4_ := Aside0.mk ((by rw [hg]; exact (below_size (by repeat (first | (with_reducible first | exact HB.out | apply below_alloc | apply pw_below_drewN | apply below_drew1 | refine below_set ?_ GE182.out | refine below_set ?_ GE183.out) | exact HB.out))) : w.heap.size ≤ gb194)); have n5_ := Aside0.mk ((by rw [hg]; exact (below_size (by repeat (first | (with_reducible first | exact HB.out | apply below_alloc | apply pw_below_drewN | apply below_drew1 | refine below_set ?_ GE182.out | refine below_set ?_ GE183.out) | exact HB.out))) : w.heap.size ≤ gb194)); have n6_ := Aside0.mk ((by rw [hg]; exact Nat.ne_of_lt (blk_lt (g := gb182) (o := .cells #[.slice A0_0 l0_0.length c0_0, .slice A0_1 l0_1.length c0_1] 25 (0, 0)) (by (with_reducible repeat (first | refine blk_drewN ?_ _ | refine blk_drew ?_ | refine blk_alloc ?_ _)); exact BK182.out)) : gb182 ≠ gb194)); have n7_ := Aside0.mk ((by rw [hg]; exact Nat.ne_of_gt (blk_lt (g := gb182) (o := .cells #[.slice A0_0 l0_0.length c0_0, .slice A0_1 l0_1.length c0_1] 25 (0, 0)) (by (with_reducible repeat (first | refine blk_drewN ?_ _ | refine blk_drew ?_ | refine blk_alloc ?_ _)); exact BK182.out)) : gb194 ≠ gb182)); have n8_ := Aside0.mk ((by rw [hg]; exact Nat.ne_of_lt (blk_lt (g := gb183) (o := .cells #[.slice A1_0 l1_0.length c1_0, .slice A1_1 l1_1.length c1_1] 28 (0, 0)) (by (with_reducible repeat (first | refine blk_drewN ?_ _ | refine blk_drew ?_ | refine blk_alloc ?_ _)); exact BK183.out)) : gb183 ≠ gb194)); have n9_ := Aside0.mk ((by rw [hg]; exact Nat.ne_of_gt (blk_lt (g := gb183) (o := .cells #[.slice A1_0 l1_0.length c1_0, .slice A1_1 l1_1.length c1_1] 28 (0, 0)) (by (with_reducible repeat (first | refine blk_drewN ?_ _ | refine blk_drew ?_ | refine blk_alloc ?_ _)); exact BK183.out)) : gb194 ≠ gb183)); clear BK182; clear BK183; clear HB; have BK182 := n0_; have BK183 := n1_; have HB := n2_; have BK194 := n3_; have GW194 := n4_; have GE194 := n5_; have NB182_194 := n6_; have NB194_182 := n7_; have NB183_194 := n8_; have NB194_183 := n9_; clear n0_ n1_ n2_ n3_ n4_ n5_ n6_ n7_ n8_ n9_; clear hb hbox hg; have hnb51 := NB194_182.out; have hnc51 := NB182_194.out; have hnb52 := NB194_183.out; have hnc52 := NB183_194.out; have hcz53_0 : w50.cell? ⟨gb194, 0, none⟩ = some (.int .i64 0) := (blk_cell BK194.out 0).trans rfl; have hcz53_1 : w50.cell? ⟨gb194, 1, none⟩ = some (.int .i64 0) := (blk_cell BK194.out 1).trans rfl; have hcz53_2 : w50.cell? ⟨gb194, 2, none⟩ = some (.int .i64 0) := (blk_cell BK194.out 2).trans rfl; have hcz53_3 : w50.cell? ⟨gb194, 3, none⟩ = some (.int .i64 0) := (blk_cell BK194.out 3).trans rfl; have hcz53_4 : w50.cell? ⟨gb194, 4, none⟩ = some (.int .i64 0) := (blk_cell BK194.out 4).trans rfl; have hfz53_0 := blk_frozen BK194.out 0; have hfz53_1 := blk_frozen BK194.out 1; have hfz53_2 := blk_frozen BK194.out 2; have hfz53_3 := blk_frozen BK194.out 3; have hfz53_4 := blk_frozen BK194.out 4; have hcz54_0 : w50.cell? ⟨gb182, 0, none⟩ = some (.slice A0_0 l0_0.length c0_0) := (blk_cell BK182.out 0).trans rfl; have hcz54_1 : w50.cell? ⟨gb182, 1, none⟩ = some (.slice A0_1 l0_1.length c0_1) := (blk_cell BK182.out 1).trans rfl; have hfz54_0 := blk_frozen BK182.out 0; have hfz54_1 := blk_frozen BK182.out 1; have hcz55_0 : w50.cell? ⟨gb183, 0, none⟩ = some (.slice A1_0 l1_0.length c1_0) := (blk_cell BK183.out 0).trans rfl; have hcz55_1 : w50.cell? ⟨gb183, 1, none⟩ = some (.slice A1_1 l1_1.length c1_1) := (blk_cell BK183.out 1).trans rfl; have hfz55_0 := blk_frozen BK183.out 0; have hfz55_1 := blk_frozen BK183.out 1) | ((with_reducible refine gate_callee (f := 19) rfl ?_); refine goesL_ (some 69) rfl rfl Try.func19 (by kernel_rfl) rfl #[.agg #[.slice A0_0 l0_0.length c0_0, .slice A0_1 l0_1.length c0_1], .agg #[.slice A1_0 l1_0.length c1_0, .slice A1_1 l1_1.length c1_1], .int .i64 (Int.tmod (wrap64 (a3)) (l1_1.length : Int))] rfl (by (try simp only [List.map_toArray, List.map_cons, List.map_nil]); first | done | rfl | (simp only [List.length_drop, List.length_take]; rfl)) ?_; (with_reducible refine (fencepostref10_At.calls _ _ l0_0 _ _ l0_1 _ _ l1_0 _ _ l1_1 (Int.tmod (wrap64 (a3)) (l1_1.length : Int)) t195 t196 t197 t198 t199 t200 _ ?side1 ?side2 ?side3 ?side4 ?side5 ?side6 ?side7 ?side8 A44.out).mono ?_); (case side1 => exact Kd.C_below HR0_0.out (by repeat (first | (with_reducible first | exact HB.out | apply below_alloc | apply pw_below_drewN | apply below_drew1 | refine below_set ?_ GE182.out | refine below_set ?_ GE183.out | refine below_set ?_ GE194.out) | exact HB.out))); (case side2 => exact HC0_0.out); (case side3 => exact Kd.C_below HR0_1.out (by repeat (first | (with_reducible first | exact HB.out | apply below_alloc | apply pw_below_drewN | apply below_drew1 | refine below_set ?_ GE182.out | refine below_set ?_ GE183.out | refine below_set ?_ GE194.out) | exact HB.out))); (case side4 => exact HC0_1.out); (case side5 => exact Kd.C_below HR1_0.out (by repeat (first | (with_reducible first | exact HB.out | apply below_alloc | apply pw_below_drewN | apply below_drew1 | refine below_set ?_ GE182.out | refine below_set ?_ GE183.out | refine below_set ?_ GE194.out) | exact HB.out))); (case side6 => exact HC1_0.out); (case side7 => exact Kd.C_below HR1_1.out (by repeat (first | (with_reducible first | exact HB.out | apply below_alloc | apply pw_below_drewN | apply below_drew1 | refine below_set ?_ GE182.out | refine below_set ?_ GE183.out | refine below_set ?_ GE194.out) | exact HB.out))); (case side8 => exact HC1_1.out); rintro e w56 ⟨rfl, hb⟩; refine ⟨_, rfl, ?_⟩; have n0_ := Aside0.mk (blk_below (g := gb182) (o := .cells #[.slice A0_0 l0_0.length c0_0, .slice A0_1 l0_1.length c0_1] 25 (0, 0)) (by (with_reducible repeat (first | refine blk_drewN ?_ _ | refine blk_drew ?_ | refine blk_alloc ?_ _)); refine blk_far ?_ NB182_194.out _; (with_reducible repeat (first | refine blk_drewN ?_ _ | refine blk_drew ?_ | refine blk_alloc ?_ _)); refine blk_far ?_ NB182_194.out _; (with_reducible repeat (first | refine blk_drewN ?_ _ | refine blk_drew ?_ | refine blk_alloc ?_ _)); refine blk_far ?_ NB182_194.out _; (with_reducible repeat (first | refine blk_drewN ?_ _ | refine blk_drew ?_ | refine blk_alloc ?_ _)); refine blk_far ?_ NB182_194.out _; (with_reducible repeat (first | refine blk_drewN ?_ _ | refine blk_drew ?_ | refine blk_alloc ?_ _)); refine blk_far ?_ NB182_194.out _; (with_reducible repeat (first | refine blk_drewN ?_ _ | refine blk_drew ?_ | refine blk_alloc ?_ _)); exact BK182.out) hb); have n1_ := Aside0.mk (blk_below (g := gb183) (o := .cells #[.slice A1_0 l1_0.length c1_0, .slice A1_1 l1_1.length c1_1] 28 (0, 0)) (by (with_reducible repeat (first | refine blk_drewN ?_ _ | refine blk_drew ?_ | refine blk_alloc ?_ _)); refine blk_far ?_ NB183_194.out _; (with_reducible repeat (first | refine blk_drewN ?_ _ | refine blk_drew ?_ | refine blk_alloc ?_ _)); refine blk_far ?_ NB183_194.out _; (with_reducible repeat (first | refine blk_drewN ?_ _ | refine blk_drew ?_ | refine blk_alloc ?_ _)); refine blk_far ?_ NB183_194.out _; (with_reducible repeat (first | refine blk_drewN ?_ _ | refine blk_drew ?_ | refine blk_alloc ?_ _)); refine blk_far ?_ NB183_194.out _; (with_reducible repeat (first | refine blk_drewN ?_ _ | refine blk_drew ?_ | refine blk_alloc ?_ _)); refine blk_far ?_ NB183_194.out _; (with_reducible repeat (first | refine blk_drewN ?_ _ | refine blk_drew ?_ | refine blk_alloc ?_ _)); exact BK183.out) hb); have n2_ := Aside0.mk (blk_below (g := gb194) (o := .cells #[.int .i64 t188, .int .i64 t189, .int .i64 t190, .int .i64 t191, .int .i64 t192] 39 (0, 0)) (by (with_reducible repeat (first | refine blk_drewN ?_ _ | refine blk_drew ?_ | refine blk_alloc ?_ _)); refine blk_put (cs := #[.int .i64 t188, .int .i64 t189, .int .i64 t190, .int .i64 t191, .int .i64 0]) ?_ 4 _ rfl; (with_reducible repeat (first | refine blk_drewN ?_ _ | refine blk_drew ?_ | refine blk_alloc ?_ _)); refine blk_put (cs := #[.int .i64 t188, .int .i64 t189, .int .i64 t190, .int .i64 0, .int .i64 0]) ?_ 3 _ rfl; (with_reducible repeat (first | refine blk_drewN ?_ _ | refine blk_drew ?_ | refine blk_alloc ?_ _)); refine blk_put (cs := #[.int .i64 t188, .int .i64 t189, .int .i64 0, .int .i64 0, .int .i64 0]) ?_ 2 _ rfl; (with_reducible repeat (first | refine blk_drewN ?_ _ | refine blk_drew ?_ | refine blk_alloc ?_ _)); refine blk_put (cs := #[.int .i64 t188, .int .i64 0, .int .i64 0, .int .i64 0, .int .i64 0]) ?_ 1 _ rfl; (with_reducible repeat (first | refine blk_drewN ?_ _ | refine blk_drew ?_ | refine blk_alloc ?_ _)); refine blk_put (cs := #[.int .i64 0, .int .i64 0, .int .i64 0, .int .i64 0, .int .i64 0]) ?_ 0 _ rfl; (with_reducible repeat (first | refine blk_drewN ?_ _ | refine blk_drew ?_ | refine blk_alloc ?_ _)); exact BK194.out) hb); have n3_ := Aside0.mk (below_step (by repeat (first | (with_reducible first | exact HB.out | apply below_alloc | apply pw_below_drewN | apply below_drew1 | refine below_set ?_ GE182.out | refine below_set ?_ GE183.out | refine below_set ?_ GE194.out) | exact HB.out)) hb); clear BK182; clear BK183; clear BK194; clear HB; have BK182 := n0_; have BK183 := n1_; have BK194 := n2_; have HB := n3_; clear n0_ n1_ n2_ n3_; (try clear hb); (try clear hb2); (try clear hk); (try clear hi)) | ((with_reducible refine gate_dst (N := 14) rfl ?_); (try (refine gate_guard (by rfl) ?_; dsimp only)); refine box_event ?hg (N := 14) ?hd (cs := #[.int .i64 0, .int .i64 0, .int .i64 0, .int .i64 0, .int .i64 0]) (t := 39) ?hr ?_; (case hd => rfl); (case hg => rfl); (case hr => first | (go_simp; done) | (go_simp; rfl)); intro gb201 hg w57 hbox hb; have n0_ := Aside0.mk (blk_below (g := gb182) (o := .cells #[.slice A0_0 l0_0.length c0_0, .slice A0_1 l0_1.length c0_1] 25 (0, 0)) (by (with_reducible repeat (first | refine blk_drewN ?_ _ | refine blk_drew ?_ | refine blk_alloc ?_ _)); exact BK182.out) hb); have n1_ := Aside0.mk (blk_below (g := gb183) (o := .cells #[.slice A1_0 l1_0.length c1_0, .slice A1_1 l1_1.length c1_1] 28 (0, 0)) (by (with_reducible repeat (first | refine blk_drewN ?_ _ | refine blk_drew ?_ | refine blk_alloc ?_ _)); exact BK183.out) hb); have n2_ := Aside0.mk (blk_below (g := gb194) (o := .cells #[.int .i64 t188, .int .i64 t189, .int .i64 t190, .int .i64 t191, .int .i64 t192] 39 (0, 0)) (by (with_reducible repeat (first | refine blk_drewN ?_ _ | refine blk_drew ?_ | refine blk_alloc ?_ _)); exact BK194.out) hb); have n3_ := Aside0.mk (below_step (by repeat (first | (with_reducible first | exact HB.out | apply below_alloc | apply pw_below_drewN | apply below_drew1 | refine below_set ?_ GE182.out | refine below_set ?_ GE183.out | refine below_set ?_ GE194.out) | exact HB.out)) hb); have n4_ := Aside0.mk (hbox); have n5_ := Aside0.mk ((by rw [hg]; exact (below_size (by repeat (first | (with_reducible first | exact HB.out | apply below_alloc | apply pw_below_drewN | apply below_drew1 | refine below_set ?_ GE182.out | refine below_set ?_ GE183.out | refine below_set ?_ GE194.out) | exact HB.out))) : w.heap.size ≤ gb201)); have n6_ := Aside0.mk ((by rw [hg]; exact (below_size (by repeat (first | (with_reducible first | exact HB.out | apply below_alloc | apply pw_below_drewN | apply below_drew1 | refine below_set ?_ GE182.out | refine below_set ?_ GE183.out | refine below_set ?_ GE194.out) | exact HB.out))) : w.heap.size ≤ gb201)); have n7_ := Aside0.mk ((by rw [hg]; exact Nat.ne_of_lt (blk_lt (g := gb182) (o := .cells #[.slice A0_0 l0_0.length c0_0, .slice A0_1 l0_1.length c0_1] 25 (0, 0)) (by (with_reducible repeat (first | refine blk_drewN ?_ _ | refine blk_drew ?_ | refine blk_alloc ?_ _)); exact BK182.out)) : gb182 ≠ gb201)); have n8_ := Aside0.mk ((by rw [hg]; exact Nat.ne_of_gt (blk_lt (g := gb182) (o := .cells #[.slice A0_0 l0_0.length c0_0, .slice A0_1 l0_1.length c0_1] 25 (0, 0)) (by (with_reducible repeat (first | refine blk_drewN ?_ _ | refine blk_drew ?_ | refine blk_alloc ?_ _)); exact BK182.out)) : gb201 ≠ gb182)); have n9_ := Aside0.mk ((by rw [hg]; exact Nat.ne_of_lt (blk_lt (g := gb183) (o := .cells #[.slice A1_0 l1_0.length c1_0, .slice A1_1 l1_1.length c1_1] 28 (0, 0)) (by (with_reducible repeat (first | refine blk_drewN ?_ _ | refine blk_drew ?_ | refine blk_alloc ?_ _)); exact BK183.out)) : gb183 ≠ gb201)); have n10_ := Aside0.mk ((by rw [hg]; exact Nat.ne_of_gt (blk_lt (g := gb183) (o := .cells #[.slice A1_0 l1_0.length c1_0, .slice A1_1 l1_1.length c1_1] 28 (0, 0)) (by (with_reducible repeat (first | refine blk_drewN ?_ _ | refine blk_drew ?_ | refine blk_alloc ?_ _)); exact BK183.out)) : gb201 ≠ gb183)); have n11_ := Aside0.mk ((by rw [hg]; exact Nat.ne_of_lt (blk_lt (g := gb194) (o := .cells #[.int .i64 t188, .int .i64 t189, .int .i64 t190, .int .i64 t191, .int .i64 t192] 39 (0, 0)) (by (with_reducible repeat (first | refine blk_drewN ?_ _ | refine blk_drew ?_ | refine blk_alloc ?_ _)); exact BK194.out)) : gb194 ≠ gb201)); have n12_ := Aside0.mk ((by rw [hg]; exact Nat.ne_of_gt (blk_lt (g := gb194) (o := .cells #[.int .i64 t188, .int .i64 t189, .int .i64 t190, .int .i64 t191, .int .i64 t192] 39 (0, 0)) (by (with_reducible repeat (first | refine blk_drewN ?_ _ | refine blk_drew ?_ | refine blk_alloc ?_ _)); exact BK194.out)) : gb201 ≠ gb194)); clear BK182; clear BK183; clear BK194; clear HB; have BK182 := n0_; have BK183 := n1_; have BK194 := n2_; have HB := n3_; have BK201 := n4_; have GW201 := n5_; have GE201 := n6_; have NB182_201 := n7_; have NB201_182 := n8_; have NB183_201 := n9_; have NB201_183 := n10_; have NB194_201 := n11_; have NB201_194 := n12_; clear n0_ n1_ n2_ n3_ n4_ n5_ n6_ n7_ n8_ n9_ n10_ n11_ n12_; clear hb hbox hg; have hnb58 := NB201_182.out; have hnc58 := NB182_201.out; have hnb59 := NB201_183.out; have hnc59 := NB183_201.out; have hnb60 := NB201_194.out; have hnc60 := NB194_201.out; have hcz61_0 : w57.cell? ⟨gb201, 0, none⟩ = some (.int .i64 0) := (blk_cell BK201.out 0).trans rfl; have hcz61_1 : w57.cell? ⟨gb201, 1, none⟩ = some (.int .i64 0) := (blk_cell BK201.out 1).trans rfl; have hcz61_2 : w57.cell? ⟨gb201, 2, none⟩ = some (.int .i64 0) := (blk_cell BK201.out 2).trans rfl; have hcz61_3 : w57.cell? ⟨gb201, 3, none⟩ = some (.int .i64 0) := (blk_cell BK201.out 3).trans rfl; have hcz61_4 : w57.cell? ⟨gb201, 4, none⟩ = some (.int .i64 0) := (blk_cell BK201.out 4).trans rfl; have hfz61_0 := blk_frozen BK201.out 0; have hfz61_1 := blk_frozen BK201.out 1; have hfz61_2 := blk_frozen BK201.out 2; have hfz61_3 := blk_frozen BK201.out 3; have hfz61_4 := blk_frozen BK201.out 4))
     (try simp only [Act.put, List.setIfInBounds_toArray, List.set_cons_zero, List.set_cons_succ])
     go_cut [16] (fun v16 wc => ∃ (kq : Nat) (x16_44 : Bool), v16 = .bool x16_44 ∧ Aside0 (fencepostlaw10_ScSwap.j1 kq t184 (Int.tmod (wrap64 (a2)) (l1_1.length : Int)) (Int.tmod (wrap64 (a3)) (l1_1.length : Int)) t193 t200 x16_44 l0_0 l0_1 l1_0 l1_1 t188 t189 t190 t191 t192 t195 t196 t197 t198 t199 = some r) ∧ Aside0 (kq ≤ kj5) ∧ Aside0 (wc.heap[gb182]? = some (.cells #[(.slice A0_0 l0_0.length c0_0), (.slice A0_1 l0_1.length c0_1)] 25 (0, 0))) ∧ Aside0 (wc.heap[gb183]? = some (.cells #[(.slice A1_0 l1_0.length c1_0), (.slice A1_1 l1_1.length c1_1)] 28 (0, 0))) ∧ Aside0 (wc.heap[gb194]? = some (.cells #[.int .i64 t188, .int .i64 t189, .int .i64 t190, .int .i64 t191, .int .i64 t192] 39 (0, 0))) ∧ Aside0 (wc.heap[gb201]? = some (.cells #[.int .i64 t195, .int .i64 t196, .int .i64 t197, .int .i64 t198, .int .i64 t199] 39 (0, 0))) ∧ Aside0 (Below w.heap.size w wc))
     case first =>
      have H := HC45.out
      clear HC45
      by_cases c62 : t188 ≥ 2
      ·rw [if_pos c62] at H
       have c62b0 : decide (2 ≤ t188) = true := decide_eq_true c62
       clear c62
       (first | rw [c62b0] | (simp only [i64_w, i32_w]; rw [c62b0]) | skip)
       have H' := Aside0.mk H
       clear H
       have hnb63 := NB194_182.out
       have hnc63 := NB182_194.out
       have hnb64 := NB194_183.out
       have hnc64 := NB183_194.out
       have hnb65 := NB194_201.out
       have hnc65 := NB201_194.out
       have hcz66_0 : w57.cell? ⟨gb194, 0, none⟩ = some (.int .i64 t188) := (blk_cell BK194.out 0).trans rfl
       have hcz66_1 : w57.cell? ⟨gb194, 1, none⟩ = some (.int .i64 t189) := (blk_cell BK194.out 1).trans rfl
       have hcz66_2 : w57.cell? ⟨gb194, 2, none⟩ = some (.int .i64 t190) := (blk_cell BK194.out 2).trans rfl
       have hcz66_3 : w57.cell? ⟨gb194, 3, none⟩ = some (.int .i64 t191) := (blk_cell BK194.out 3).trans rfl
       have hcz66_4 : w57.cell? ⟨gb194, 4, none⟩ = some (.int .i64 t192) := (blk_cell BK194.out 4).trans rfl
       have hfz66_0 := blk_frozen BK194.out 0
       have hfz66_1 := blk_frozen BK194.out 1
       have hfz66_2 := blk_frozen BK194.out 2
       have hfz66_3 := blk_frozen BK194.out 3
       have hfz66_4 := blk_frozen BK194.out 4
       go_wp2
       go_meet
       case rel => exact ⟨_, (decide (t188 ≤ 5)), (by first | rfl | (simp; done) | (simp [*]; done)), H', ⟨by have := HJ5.out; first | omega | exact Nat.le_refl _⟩, ⟨by (with_reducible repeat (first | refine blk_drewN ?_ _ | refine blk_drew ?_ | refine blk_alloc ?_ _)); refine blk_far ?_ NB182_201.out _; (with_reducible repeat (first | refine blk_drewN ?_ _ | refine blk_drew ?_ | refine blk_alloc ?_ _)); refine blk_far ?_ NB182_201.out _; (with_reducible repeat (first | refine blk_drewN ?_ _ | refine blk_drew ?_ | refine blk_alloc ?_ _)); refine blk_far ?_ NB182_201.out _; (with_reducible repeat (first | refine blk_drewN ?_ _ | refine blk_drew ?_ | refine blk_alloc ?_ _)); refine blk_far ?_ NB182_201.out _; (with_reducible repeat (first | refine blk_drewN ?_ _ | refine blk_drew ?_ | refine blk_alloc ?_ _)); refine blk_far ?_ NB182_201.out _; (with_reducible repeat (first | refine blk_drewN ?_ _ | refine blk_drew ?_ | refine blk_alloc ?_ _)); exact BK182.out⟩, ⟨by (with_reducible repeat (first | refine blk_drewN ?_ _ | refine blk_drew ?_ | refine blk_alloc ?_ _)); refine blk_far ?_ NB183_201.out _; (with_reducible repeat (first | refine blk_drewN ?_ _ | refine blk_drew ?_ | refine blk_alloc ?_ _)); refine blk_far ?_ NB183_201.out _; (with_reducible repeat (first | refine blk_drewN ?_ _ | refine blk_drew ?_ | refine blk_alloc ?_ _)); refine blk_far ?_ NB183_201.out _; (with_reducible repeat (first | refine blk_drewN ?_ _ | refine blk_drew ?_ | refine blk_alloc ?_ _)); refine blk_far ?_ NB183_201.out _; (with_reducible repeat (first | refine blk_drewN ?_ _ | refine blk_drew ?_ | refine blk_alloc ?_ _)); refine blk_far ?_ NB183_201.out _; (with_reducible repeat (first | refine blk_drewN ?_ _ | refine blk_drew ?_ | refine blk_alloc ?_ _)); exact BK183.out⟩, ⟨by (with_reducible repeat (first | refine blk_drewN ?_ _ | refine blk_drew ?_ | refine blk_alloc ?_ _)); refine blk_far ?_ NB194_201.out _; (with_reducible repeat (first | refine blk_drewN ?_ _ | refine blk_drew ?_ | refine blk_alloc ?_ _)); refine blk_far ?_ NB194_201.out _; (with_reducible repeat (first | refine blk_drewN ?_ _ | refine blk_drew ?_ | refine blk_alloc ?_ _)); refine blk_far ?_ NB194_201.out _; (with_reducible repeat (first | refine blk_drewN ?_ _ | refine blk_drew ?_ | refine blk_alloc ?_ _)); refine blk_far ?_ NB194_201.out _; (with_reducible repeat (first | refine blk_drewN ?_ _ | refine blk_drew ?_ | refine blk_alloc ?_ _)); refine blk_far ?_ NB194_201.out _; (with_reducible repeat (first | refine blk_drewN ?_ _ | refine blk_drew ?_ | refine blk_alloc ?_ _)); exact BK194.out⟩, ⟨by (with_reducible repeat (first | refine blk_drewN ?_ _ | refine blk_drew ?_ | refine blk_alloc ?_ _)); refine blk_put (cs := #[.int .i64 t195, .int .i64 t196, .int .i64 t197, .int .i64 t198, .int .i64 0]) ?_ 4 _ rfl; (with_reducible repeat (first | refine blk_drewN ?_ _ | refine blk_drew ?_ | refine blk_alloc ?_ _)); refine blk_put (cs := #[.int .i64 t195, .int .i64 t196, .int .i64 t197, .int .i64 0, .int .i64 0]) ?_ 3 _ rfl; (with_reducible repeat (first | refine blk_drewN ?_ _ | refine blk_drew ?_ | refine blk_alloc ?_ _)); refine blk_put (cs := #[.int .i64 t195, .int .i64 t196, .int .i64 0, .int .i64 0, .int .i64 0]) ?_ 2 _ rfl; (with_reducible repeat (first | refine blk_drewN ?_ _ | refine blk_drew ?_ | refine blk_alloc ?_ _)); refine blk_put (cs := #[.int .i64 t195, .int .i64 0, .int .i64 0, .int .i64 0, .int .i64 0]) ?_ 1 _ rfl; (with_reducible repeat (first | refine blk_drewN ?_ _ | refine blk_drew ?_ | refine blk_alloc ?_ _)); refine blk_put (cs := #[.int .i64 0, .int .i64 0, .int .i64 0, .int .i64 0, .int .i64 0]) ?_ 0 _ rfl; (with_reducible repeat (first | refine blk_drewN ?_ _ | refine blk_drew ?_ | refine blk_alloc ?_ _)); exact BK201.out⟩, ⟨by repeat (first | (with_reducible first | exact HB.out | apply below_alloc | apply pw_below_drewN | apply below_drew1 | refine below_set ?_ GE182.out | refine below_set ?_ GE183.out | refine below_set ?_ GE194.out | refine below_set ?_ GE201.out) | exact HB.out)⟩⟩
      ·rw [if_neg c62] at H
       have c62b0 : decide (2 ≤ t188) = false := decide_eq_false c62
       clear c62
       (first | rw [c62b0] | (simp only [i64_w, i32_w]; rw [c62b0]) | skip)
       have H' := Aside0.mk H
       clear H
       have hnb67 := NB194_182.out
       have hnc67 := NB182_194.out
       have hnb68 := NB194_183.out
       have hnc68 := NB183_194.out
       have hnb69 := NB194_201.out
       have hnc69 := NB201_194.out
       have hcz70_0 : w57.cell? ⟨gb194, 0, none⟩ = some (.int .i64 t188) := (blk_cell BK194.out 0).trans rfl
       have hcz70_1 : w57.cell? ⟨gb194, 1, none⟩ = some (.int .i64 t189) := (blk_cell BK194.out 1).trans rfl
       have hcz70_2 : w57.cell? ⟨gb194, 2, none⟩ = some (.int .i64 t190) := (blk_cell BK194.out 2).trans rfl
       have hcz70_3 : w57.cell? ⟨gb194, 3, none⟩ = some (.int .i64 t191) := (blk_cell BK194.out 3).trans rfl
       have hcz70_4 : w57.cell? ⟨gb194, 4, none⟩ = some (.int .i64 t192) := (blk_cell BK194.out 4).trans rfl
       have hfz70_0 := blk_frozen BK194.out 0
       have hfz70_1 := blk_frozen BK194.out 1
       have hfz70_2 := blk_frozen BK194.out 2
       have hfz70_3 := blk_frozen BK194.out 3
       have hfz70_4 := blk_frozen BK194.out 4
       go_wp2
       go_meet
       case rel => exact ⟨_, (false), (by first | rfl | (simp; done) | (simp [*]; done)), H', ⟨by have := HJ5.out; first | omega | exact Nat.le_refl _⟩, ⟨by (with_reducible repeat (first | refine blk_drewN ?_ _ | refine blk_drew ?_ | refine blk_alloc ?_ _)); refine blk_far ?_ NB182_201.out _; (with_reducible repeat (first | refine blk_drewN ?_ _ | refine blk_drew ?_ | refine blk_alloc ?_ _)); refine blk_far ?_ NB182_201.out _; (with_reducible repeat (first | refine blk_drewN ?_ _ | refine blk_drew ?_ | refine blk_alloc ?_ _)); refine blk_far ?_ NB182_201.out _; (with_reducible repeat (first | refine blk_drewN ?_ _ | refine blk_drew ?_ | refine blk_alloc ?_ _)); refine blk_far ?_ NB182_201.out _; (with_reducible repeat (first | refine blk_drewN ?_ _ | refine blk_drew ?_ | refine blk_alloc ?_ _)); refine blk_far ?_ NB182_201.out _; (with_reducible repeat (first | refine blk_drewN ?_ _ | refine blk_drew ?_ | refine blk_alloc ?_ _)); exact BK182.out⟩, ⟨by (with_reducible repeat (first | refine blk_drewN ?_ _ | refine blk_drew ?_ | refine blk_alloc ?_ _)); refine blk_far ?_ NB183_201.out _; (with_reducible repeat (first | refine blk_drewN ?_ _ | refine blk_drew ?_ | refine blk_alloc ?_ _)); refine blk_far ?_ NB183_201.out _; (with_reducible repeat (first | refine blk_drewN ?_ _ | refine blk_drew ?_ | refine blk_alloc ?_ _)); refine blk_far ?_ NB183_201.out _; (with_reducible repeat (first | refine blk_drewN ?_ _ | refine blk_drew ?_ | refine blk_alloc ?_ _)); refine blk_far ?_ NB183_201.out _; (with_reducible repeat (first | refine blk_drewN ?_ _ | refine blk_drew ?_ | refine blk_alloc ?_ _)); refine blk_far ?_ NB183_201.out _; (with_reducible repeat (first | refine blk_drewN ?_ _ | refine blk_drew ?_ | refine blk_alloc ?_ _)); exact BK183.out⟩, ⟨by (with_reducible repeat (first | refine blk_drewN ?_ _ | refine blk_drew ?_ | refine blk_alloc ?_ _)); refine blk_far ?_ NB194_201.out _; (with_reducible repeat (first | refine blk_drewN ?_ _ | refine blk_drew ?_ | refine blk_alloc ?_ _)); refine blk_far ?_ NB194_201.out _; (with_reducible repeat (first | refine blk_drewN ?_ _ | refine blk_drew ?_ | refine blk_alloc ?_ _)); refine blk_far ?_ NB194_201.out _; (with_reducible repeat (first | refine blk_drewN ?_ _ | refine blk_drew ?_ | refine blk_alloc ?_ _)); refine blk_far ?_ NB194_201.out _; (with_reducible repeat (first | refine blk_drewN ?_ _ | refine blk_drew ?_ | refine blk_alloc ?_ _)); refine blk_far ?_ NB194_201.out _; (with_reducible repeat (first | refine blk_drewN ?_ _ | refine blk_drew ?_ | refine blk_alloc ?_ _)); exact BK194.out⟩, ⟨by (with_reducible repeat (first | refine blk_drewN ?_ _ | refine blk_drew ?_ | refine blk_alloc ?_ _)); refine blk_put (cs := #[.int .i64 t195, .int .i64 t196, .int .i64 t197, .int .i64 t198, .int .i64 0]) ?_ 4 _ rfl; (with_reducible repeat (first | refine blk_drewN ?_ _ | refine blk_drew ?_ | refine blk_alloc ?_ _)); refine blk_put (cs := #[.int .i64 t195, .int .i64 t196, .int .i64 t197, .int .i64 0, .int .i64 0]) ?_ 3 _ rfl; (with_reducible repeat (first | refine blk_drewN ?_ _ | refine blk_drew ?_ | refine blk_alloc ?_ _)); refine blk_put (cs := #[.int .i64 t195, .int .i64 t196, .int .i64 0, .int .i64 0, .int .i64 0]) ?_ 2 _ rfl; (with_reducible repeat (first | refine blk_drewN ?_ _ | refine blk_drew ?_ | refine blk_alloc ?_ _)); refine blk_put (cs := #[.int .i64 t195, .int .i64 0, .int .i64 0, .int .i64 0, .int .i64 0]) ?_ 1 _ rfl; (with_reducible repeat (first | refine blk_drewN ?_ _ | refine blk_drew ?_ | refine blk_alloc ?_ _)); refine blk_put (cs := #[.int .i64 0, .int .i64 0, .int .i64 0, .int .i64 0, .int .i64 0]) ?_ 0 _ rfl; (with_reducible repeat (first | refine blk_drewN ?_ _ | refine blk_drew ?_ | refine blk_alloc ?_ _)); exact BK201.out⟩, ⟨by repeat (first | (with_reducible first | exact HB.out | apply below_alloc | apply pw_below_drewN | apply below_drew1 | refine below_set ?_ GE182.out | refine below_set ?_ GE183.out | refine below_set ?_ GE194.out | refine below_set ?_ GE201.out) | exact HB.out)⟩⟩
     case rest =>
      clear HC45
      try clear c1
      try clear c2
      try clear p2
      try clear c3
      try clear c4
      try clear c5
      try clear c6
      try clear p6
      try clear c7
      try clear c9
      try clear c10
      try clear c11
      try clear c12
      try clear c16
      try clear c17
      try clear c19
      try clear c23
      try clear c24
      try clear c33
      try clear c41
      try clear c42
      try clear c42b0
      try clear c42b1
      try clear c42b2
      try clear c46
      try clear c51
      try clear c52
      try clear c58
      try clear c59
      try clear c60
      try clear c62
      try clear c62b0
      try clear c63
      try clear c64
      try clear p64
      try clear c65
      try clear c67
      try clear c68
      try clear c69
      try clear hcz13_0
      try clear hcz13_1
      try clear hcz18_0
      try clear hcz18_1
      try clear hcz20_0
      try clear hcz20_1
      try clear hcz25_0
      try clear hcz25_1
      try clear hcz27_0
      try clear hcz27_1
      try clear hcz29_0
      try clear hcz29_1
      try clear hcz30_0
      try clear hcz30_1
      try clear hcz32_0
      try clear hcz32_1
      try clear hcz34_0
      try clear hcz34_1
      try clear hcz36_0
      try clear hcz36_1
      try clear hcz38_0
      try clear hcz38_1
      try clear hcz39_0
      try clear hcz39_1
      try clear hcz47_0
      try clear hcz47_1
      try clear hcz48_0
      try clear hcz48_1
      try clear hcz53_0
      try clear hcz53_1
      try clear hcz53_2
      try clear hcz53_3
      try clear hcz53_4
      try clear hcz54_0
      try clear hcz54_1
      try clear hcz55_0
      try clear hcz55_1
      try clear hcz61_0
      try clear hcz61_1
      try clear hcz61_2
      try clear hcz61_3
      try clear hcz61_4
      try clear hcz66_0
      try clear hcz66_1
      try clear hcz66_2
      try clear hcz66_3
      try clear hcz66_4
      try clear hcz70_0
      try clear hcz70_1
      try clear hcz70_2
      try clear hcz70_3
      try clear hcz70_4
      try clear hfz13_0
      try clear hfz13_1
      try clear hfz18_0
      try clear hfz18_1
      try clear hfz20_0
      try clear hfz20_1
      try clear hfz25_0
      try clear hfz25_1
      try clear hfz27_0
      try clear hfz27_1
      try clear hfz29_0
      try clear hfz29_1
      try clear hfz30_0
      try clear hfz30_1
      try clear hfz32_0
      try clear hfz32_1
      try clear hfz34_0
      try clear hfz34_1
      try clear hfz36_0
      try clear hfz36_1
      try clear hfz38_0
      try clear hfz38_1
      try clear hfz39_0
      try clear hfz39_1
      try clear hfz47_0
      try clear hfz47_1
      try clear hfz48_0
      try clear hfz48_1
      try clear hfz53_0
      try clear hfz53_1
      try clear hfz53_2
      try clear hfz53_3
      try clear hfz53_4
      try clear hfz54_0
      try clear hfz54_1
      try clear hfz55_0
      try clear hfz55_1
      try clear hfz61_0
      try clear hfz61_1
      try clear hfz61_2
      try clear hfz61_3
      try clear hfz61_4
      try clear hfz66_0
      try clear hfz66_1
      try clear hfz66_2
      try clear hfz66_3
      try clear hfz66_4
      try clear hfz70_0
      try clear hfz70_1
      try clear hfz70_2
      try clear hfz70_3
      try clear hfz70_4
      try clear p2
      obtain ⟨kq, x16_44, rfl, HA, HJ44, BK182, BK183, BK194, BK201, HB⟩ := hcut
      cases kq with
      | zero => exact absurd HA.out (by simp [fencepostlaw10_ScSwap.j1])
      | succ kj44 =>
       have H := HA.out
       clear HA
       simp only [fencepostlaw10_ScSwap.j1] at H
       have HC71 := Aside0.mk H
       clear H
       go_upto_region 9 with (fail)
       go_cut [17] (fun v17 wc => ∃ (kq : Nat) (x17_70 : Bool), v17 = .bool x17_70 ∧ Aside0 (fencepostlaw10_ScSwap.j2 kq t184 (Int.tmod (wrap64 (a2)) (l1_1.length : Int)) (Int.tmod (wrap64 (a3)) (l1_1.length : Int)) t193 t200 x16_44 x17_70 l0_0 l0_1 l1_0 l1_1 t188 t189 t190 t191 t192 t195 t196 t197 t198 t199 = some r) ∧ Aside0 (kq ≤ kj44) ∧ Aside0 (wc.heap[gb182]? = some (.cells #[(.slice A0_0 l0_0.length c0_0), (.slice A0_1 l0_1.length c0_1)] 25 (0, 0))) ∧ Aside0 (wc.heap[gb183]? = some (.cells #[(.slice A1_0 l1_0.length c1_0), (.slice A1_1 l1_1.length c1_1)] 28 (0, 0))) ∧ Aside0 (wc.heap[gb194]? = some (.cells #[.int .i64 t188, .int .i64 t189, .int .i64 t190, .int .i64 t191, .int .i64 t192] 39 (0, 0))) ∧ Aside0 (wc.heap[gb201]? = some (.cells #[.int .i64 t195, .int .i64 t196, .int .i64 t197, .int .i64 t198, .int .i64 t199] 39 (0, 0))) ∧ Aside0 (Below w.heap.size w wc))
       case first =>
        have H := HC71.out
        clear HC71
        by_cases c72 : t195 ≥ 2
        ·rw [if_pos c72] at H
         have c72b0 : decide (2 ≤ t195) = true := decide_eq_true c72
         clear c72
         (first | rw [c72b0] | (simp only [i64_w, i32_w]; rw [c72b0]) | skip)
         have H' := Aside0.mk H
         clear H
         have hnb73 := NB201_182.out
         have hnc73 := NB182_201.out
         have hnb74 := NB201_183.out
         have hnc74 := NB183_201.out
         have hnb75 := NB201_194.out
         have hnc75 := NB194_201.out
         have hcz76_0 : wc.cell? ⟨gb201, 0, none⟩ = some (.int .i64 t195) := (blk_cell BK201.out 0).trans rfl
         have hcz76_1 : wc.cell? ⟨gb201, 1, none⟩ = some (.int .i64 t196) := (blk_cell BK201.out 1).trans rfl
         have hcz76_2 : wc.cell? ⟨gb201, 2, none⟩ = some (.int .i64 t197) := (blk_cell BK201.out 2).trans rfl
         have hcz76_3 : wc.cell? ⟨gb201, 3, none⟩ = some (.int .i64 t198) := (blk_cell BK201.out 3).trans rfl
         have hcz76_4 : wc.cell? ⟨gb201, 4, none⟩ = some (.int .i64 t199) := (blk_cell BK201.out 4).trans rfl
         have hfz76_0 := blk_frozen BK201.out 0
         have hfz76_1 := blk_frozen BK201.out 1
         have hfz76_2 := blk_frozen BK201.out 2
         have hfz76_3 := blk_frozen BK201.out 3
         have hfz76_4 := blk_frozen BK201.out 4
         go_wp2
         go_meet
         case rel => exact ⟨_, (decide (t195 ≤ 5)), (by first | rfl | (simp; done) | (simp [*]; done)), H', ⟨by have := HJ5.out; have := HJ44.out; first | omega | exact Nat.le_refl _⟩, ⟨by (with_reducible repeat (first | refine blk_drewN ?_ _ | refine blk_drew ?_ | refine blk_alloc ?_ _)); exact BK182.out⟩, ⟨by (with_reducible repeat (first | refine blk_drewN ?_ _ | refine blk_drew ?_ | refine blk_alloc ?_ _)); exact BK183.out⟩, ⟨by (with_reducible repeat (first | refine blk_drewN ?_ _ | refine blk_drew ?_ | refine blk_alloc ?_ _)); exact BK194.out⟩, ⟨by (with_reducible repeat (first | refine blk_drewN ?_ _ | refine blk_drew ?_ | refine blk_alloc ?_ _)); exact BK201.out⟩, ⟨by repeat (first | (with_reducible first | exact HB.out | apply below_alloc | apply pw_below_drewN | apply below_drew1 | refine below_set ?_ GE182.out | refine below_set ?_ GE183.out | refine below_set ?_ GE194.out | refine below_set ?_ GE201.out) | exact HB.out)⟩⟩
        ·rw [if_neg c72] at H
         have c72b0 : decide (2 ≤ t195) = false := decide_eq_false c72
         clear c72
         (first | rw [c72b0] | (simp only [i64_w, i32_w]; rw [c72b0]) | skip)
         have H' := Aside0.mk H
         clear H
         have hnb77 := NB201_182.out
         have hnc77 := NB182_201.out
         have hnb78 := NB201_183.out
         have hnc78 := NB183_201.out
         have hnb79 := NB201_194.out
         have hnc79 := NB194_201.out
         have hcz80_0 : wc.cell? ⟨gb201, 0, none⟩ = some (.int .i64 t195) := (blk_cell BK201.out 0).trans rfl
         have hcz80_1 : wc.cell? ⟨gb201, 1, none⟩ = some (.int .i64 t196) := (blk_cell BK201.out 1).trans rfl
         have hcz80_2 : wc.cell? ⟨gb201, 2, none⟩ = some (.int .i64 t197) := (blk_cell BK201.out 2).trans rfl
         have hcz80_3 : wc.cell? ⟨gb201, 3, none⟩ = some (.int .i64 t198) := (blk_cell BK201.out 3).trans rfl
         have hcz80_4 : wc.cell? ⟨gb201, 4, none⟩ = some (.int .i64 t199) := (blk_cell BK201.out 4).trans rfl
         have hfz80_0 := blk_frozen BK201.out 0
         have hfz80_1 := blk_frozen BK201.out 1
         have hfz80_2 := blk_frozen BK201.out 2
         have hfz80_3 := blk_frozen BK201.out 3
         have hfz80_4 := blk_frozen BK201.out 4
         go_wp2
         go_meet
         case rel => exact ⟨_, (false), (by first | rfl | (simp; done) | (simp [*]; done)), H', ⟨by have := HJ5.out; have := HJ44.out; first | omega | exact Nat.le_refl _⟩, ⟨by (with_reducible repeat (first | refine blk_drewN ?_ _ | refine blk_drew ?_ | refine blk_alloc ?_ _)); exact BK182.out⟩, ⟨by (with_reducible repeat (first | refine blk_drewN ?_ _ | refine blk_drew ?_ | refine blk_alloc ?_ _)); exact BK183.out⟩, ⟨by (with_reducible repeat (first | refine blk_drewN ?_ _ | refine blk_drew ?_ | refine blk_alloc ?_ _)); exact BK194.out⟩, ⟨by (with_reducible repeat (first | refine blk_drewN ?_ _ | refine blk_drew ?_ | refine blk_alloc ?_ _)); exact BK201.out⟩, ⟨by repeat (first | (with_reducible first | exact HB.out | apply below_alloc | apply pw_below_drewN | apply below_drew1 | refine below_set ?_ GE182.out | refine below_set ?_ GE183.out | refine below_set ?_ GE194.out | refine below_set ?_ GE201.out) | exact HB.out)⟩⟩
       case rest =>
        clear HC71
        try clear c1
        try clear c2
        try clear p2
        try clear c3
        try clear c4
        try clear c5
        try clear c6
        try clear p6
        try clear c7
        try clear c9
        try clear c10
        try clear c11
        try clear c12
        try clear c16
        try clear c17
        try clear c19
        try clear c23
        try clear c24
        try clear c33
        try clear c41
        try clear c42
        try clear c42b0
        try clear c42b1
        try clear c42b2
        try clear c46
        try clear c51
        try clear c52
        try clear c58
        try clear c59
        try clear c60
        try clear c62
        try clear c62b0
        try clear c63
        try clear c64
        try clear p64
        try clear c65
        try clear c67
        try clear c68
        try clear c69
        try clear c72
        try clear c72b0
        try clear c73
        try clear c74
        try clear c75
        try clear c77
        try clear c78
        try clear c79
        try clear hcz13_0
        try clear hcz13_1
        try clear hcz18_0
        try clear hcz18_1
        try clear hcz20_0
        try clear hcz20_1
        try clear hcz25_0
        try clear hcz25_1
        try clear hcz27_0
        try clear hcz27_1
        try clear hcz29_0
        try clear hcz29_1
        try clear hcz30_0
        try clear hcz30_1
        try clear hcz32_0
        try clear hcz32_1
        try clear hcz34_0
        try clear hcz34_1
        try clear hcz36_0
        try clear hcz36_1
        try clear hcz38_0
        try clear hcz38_1
        try clear hcz39_0
        try clear hcz39_1
        try clear hcz47_0
        try clear hcz47_1
        try clear hcz48_0
        try clear hcz48_1
        try clear hcz53_0
        try clear hcz53_1
        try clear hcz53_2
        try clear hcz53_3
        try clear hcz53_4
        try clear hcz54_0
        try clear hcz54_1
        try clear hcz55_0
        try clear hcz55_1
        try clear hcz61_0
        try clear hcz61_1
        try clear hcz61_2
        try clear hcz61_3
        try clear hcz61_4
        try clear hcz66_0
        try clear hcz66_1
        try clear hcz66_2
        try clear hcz66_3
        try clear hcz66_4
        try clear hcz70_0
        try clear hcz70_1
        try clear hcz70_2
        try clear hcz70_3
        try clear hcz70_4
        try clear hcz76_0
        try clear hcz76_1
        try clear hcz76_2
        try clear hcz76_3
        try clear hcz76_4
        try clear hcz80_0
        try clear hcz80_1
        try clear hcz80_2
        try clear hcz80_3
        try clear hcz80_4
        try clear hfz13_0
        try clear hfz13_1
        try clear hfz18_0
        try clear hfz18_1
        try clear hfz20_0
        try clear hfz20_1
        try clear hfz25_0
        try clear hfz25_1
        try clear hfz27_0
        try clear hfz27_1
        try clear hfz29_0
        try clear hfz29_1
        try clear hfz30_0
        try clear hfz30_1
        try clear hfz32_0
        try clear hfz32_1
        try clear hfz34_0
        try clear hfz34_1
        try clear hfz36_0
        try clear hfz36_1
        try clear hfz38_0
        try clear hfz38_1
        try clear hfz39_0
        try clear hfz39_1
        try clear hfz47_0
        try clear hfz47_1
        try clear hfz48_0
        try clear hfz48_1
        try clear hfz53_0
        try clear hfz53_1
        try clear hfz53_2
        try clear hfz53_3
        try clear hfz53_4
        try clear hfz54_0
        try clear hfz54_1
        try clear hfz55_0
        try clear hfz55_1
        try clear hfz61_0
        try clear hfz61_1
        try clear hfz61_2
        try clear hfz61_3
        try clear hfz61_4
        try clear hfz66_0
        try clear hfz66_1
        try clear hfz66_2
        try clear hfz66_3
        try clear hfz66_4
        try clear hfz70_0
        try clear hfz70_1
        try clear hfz70_2
        try clear hfz70_3
        try clear hfz70_4
        try clear hfz76_0
        try clear hfz76_1
        try clear hfz76_2
        try clear hfz76_3
        try clear hfz76_4
        try clear hfz80_0
        try clear hfz80_1
        try clear hfz80_2
        try clear hfz80_3
        try clear hfz80_4
        try clear p2
        try clear p6
        try clear p64
        obtain ⟨kq, x17_70, rfl, HA, HJ70, BK182, BK183, BK194, BK201, HB⟩ := hcut
        cases kq with
        | zero => exact absurd HA.out (by simp [fencepostlaw10_ScSwap.j2])
        | succ kj70 =>
         have H := HA.out
         clear HA
         simp only [fencepostlaw10_ScSwap.j2] at H
         have HC81 := Aside0.mk H
         clear H
         go_upto_region 10 with (fail)
         go_cut [111] (fun v111 wc => ∃ (kq : Nat) (x111_80 : Bool), v111 = .bool x111_80 ∧ Aside0 (fencepostlaw10_ScSwap.j3 kq t184 (Int.tmod (wrap64 (a2)) (l1_1.length : Int)) (Int.tmod (wrap64 (a3)) (l1_1.length : Int)) x111_80 l0_0 l0_1 l1_0 l1_1 = some r) ∧ Aside0 (kq ≤ kj70) ∧ Aside0 (wc.heap[gb182]? = some (.cells #[(.slice A0_0 l0_0.length c0_0), (.slice A0_1 l0_1.length c0_1)] 25 (0, 0))) ∧ Aside0 (wc.heap[gb183]? = some (.cells #[(.slice A1_0 l1_0.length c1_0), (.slice A1_1 l1_1.length c1_1)] 28 (0, 0))) ∧ Aside0 (wc.heap[gb194]? = some (.cells #[.int .i64 t188, .int .i64 t189, .int .i64 t190, .int .i64 t191, .int .i64 t192] 39 (0, 0))) ∧ Aside0 (wc.heap[gb201]? = some (.cells #[.int .i64 t195, .int .i64 t196, .int .i64 t197, .int .i64 t198, .int .i64 t199] 39 (0, 0))) ∧ Aside0 (Below w.heap.size w wc))
         case first =>
          have H := HC81.out
          clear HC81
          by_cases c82 : (Int.tmod (wrap64 (a2)) (l1_1.length : Int)) = (Int.tmod (wrap64 (a3)) (l1_1.length : Int))
          ·rw [if_pos c82] at H
           have c82b0 : ((Int.tmod (wrap64 (a2)) (l1_1.length : Int)) == (Int.tmod (wrap64 (a3)) (l1_1.length : Int))) = true := beq_iff_eq.mpr c82
           have c82b1 : ((Int.tmod (wrap64 (a2)) (l1_1.length : Int)) != (Int.tmod (wrap64 (a3)) (l1_1.length : Int))) = false := bne_eq_false_iff_eq.mpr c82
           clear c82
           (first | rw [c82b0] | (simp only [i64_w, i32_w]; rw [c82b0]) | skip)
           have H' := Aside0.mk H
           clear H
           go_wp2
           go_meet
           case rel => exact ⟨_, (true), (by first | rfl | (simp; done) | (simp [*]; done)), H', ⟨by have := HJ5.out; have := HJ44.out; have := HJ70.out; first | omega | exact Nat.le_refl _⟩, ⟨by (with_reducible repeat (first | refine blk_drewN ?_ _ | refine blk_drew ?_ | refine blk_alloc ?_ _)); exact BK182.out⟩, ⟨by (with_reducible repeat (first | refine blk_drewN ?_ _ | refine blk_drew ?_ | refine blk_alloc ?_ _)); exact BK183.out⟩, ⟨by (with_reducible repeat (first | refine blk_drewN ?_ _ | refine blk_drew ?_ | refine blk_alloc ?_ _)); exact BK194.out⟩, ⟨by (with_reducible repeat (first | refine blk_drewN ?_ _ | refine blk_drew ?_ | refine blk_alloc ?_ _)); exact BK201.out⟩, ⟨by repeat (first | (with_reducible first | exact HB.out | apply below_alloc | apply pw_below_drewN | apply below_drew1 | refine below_set ?_ GE182.out | refine below_set ?_ GE183.out | refine below_set ?_ GE194.out | refine below_set ?_ GE201.out) | exact HB.out)⟩⟩
          ·rw [if_neg c82] at H
           have c82b0 : ((Int.tmod (wrap64 (a2)) (l1_1.length : Int)) == (Int.tmod (wrap64 (a3)) (l1_1.length : Int))) = false := beq_eq_false_iff_ne.mpr c82
           have c82b1 : ((Int.tmod (wrap64 (a2)) (l1_1.length : Int)) != (Int.tmod (wrap64 (a3)) (l1_1.length : Int))) = true := bne_iff_ne.mpr c82
           (first | rw [c82b0] | (simp only [i64_w, i32_w]; rw [c82b0]) | skip)
           by_cases c83 : t193 = true
           ·subst c83
            have H1 : (if t200 = true then (if x16_44 = true then (if x17_70 = true then (fencepostlaw10_ScSwap.j3 kj70 t184 (Int.tmod (wrap64 (a2)) (l1_1.length : Int)) (Int.tmod (wrap64 (a3)) (l1_1.length : Int)) (t190 == t197) l0_0 l0_1 l1_0 l1_1) else (fencepostlaw10_ScSwap.j3 kj70 t184 (Int.tmod (wrap64 (a2)) (l1_1.length : Int)) (Int.tmod (wrap64 (a3)) (l1_1.length : Int)) false l0_0 l0_1 l1_0 l1_1)) else (fencepostlaw10_ScSwap.j3 kj70 t184 (Int.tmod (wrap64 (a2)) (l1_1.length : Int)) (Int.tmod (wrap64 (a3)) (l1_1.length : Int)) false l0_0 l0_1 l1_0 l1_1)) else (fencepostlaw10_ScSwap.j3 kj70 t184 (Int.tmod (wrap64 (a2)) (l1_1.length : Int)) (Int.tmod (wrap64 (a3)) (l1_1.length : Int)) true l0_0 l0_1 l1_0 l1_1)) = some r := by rw [if_pos rfl] at H; exact H
            clear H
            have H := H1
            clear H1
            by_cases c84 : t200 = true
            ·subst c84
             have H1 : (if x16_44 = true then (if x17_70 = true then (fencepostlaw10_ScSwap.j3 kj70 t184 (Int.tmod (wrap64 (a2)) (l1_1.length : Int)) (Int.tmod (wrap64 (a3)) (l1_1.length : Int)) (t190 == t197) l0_0 l0_1 l1_0 l1_1) else (fencepostlaw10_ScSwap.j3 kj70 t184 (Int.tmod (wrap64 (a2)) (l1_1.length : Int)) (Int.tmod (wrap64 (a3)) (l1_1.length : Int)) false l0_0 l0_1 l1_0 l1_1)) else (fencepostlaw10_ScSwap.j3 kj70 t184 (Int.tmod (wrap64 (a2)) (l1_1.length : Int)) (Int.tmod (wrap64 (a3)) (l1_1.length : Int)) false l0_0 l0_1 l1_0 l1_1)) = some r := by rw [if_pos rfl] at H; exact H
             clear H
             have H := H1
             clear H1
             by_cases c85 : x16_44 = true
             ·subst c85
              have H1 : (if x17_70 = true then (fencepostlaw10_ScSwap.j3 kj70 t184 (Int.tmod (wrap64 (a2)) (l1_1.length : Int)) (Int.tmod (wrap64 (a3)) (l1_1.length : Int)) (t190 == t197) l0_0 l0_1 l1_0 l1_1) else (fencepostlaw10_ScSwap.j3 kj70 t184 (Int.tmod (wrap64 (a2)) (l1_1.length : Int)) (Int.tmod (wrap64 (a3)) (l1_1.length : Int)) false l0_0 l0_1 l1_0 l1_1)) = some r := by rw [if_pos rfl] at H; exact H
              clear H
              have H := H1
              clear H1
              by_cases c86 : x17_70 = true
              ·subst c86
               have H1 : (fencepostlaw10_ScSwap.j3 kj70 t184 (Int.tmod (wrap64 (a2)) (l1_1.length : Int)) (Int.tmod (wrap64 (a3)) (l1_1.length : Int)) (t190 == t197) l0_0 l0_1 l1_0 l1_1) = some r := by rw [if_pos rfl] at H; exact H
               clear H
               have H := H1
               clear H1
               have H' := Aside0.mk H
               clear H
               have hnb87 := NB194_182.out
               have hnc87 := NB182_194.out
               have hnb88 := NB194_183.out
               have hnc88 := NB183_194.out
               have hnb89 := NB194_201.out
               have hnc89 := NB201_194.out
               have hcz90_0 : wc.cell? ⟨gb194, 0, none⟩ = some (.int .i64 t188) := (blk_cell BK194.out 0).trans rfl
               have hcz90_1 : wc.cell? ⟨gb194, 1, none⟩ = some (.int .i64 t189) := (blk_cell BK194.out 1).trans rfl
               have hcz90_2 : wc.cell? ⟨gb194, 2, none⟩ = some (.int .i64 t190) := (blk_cell BK194.out 2).trans rfl
               have hcz90_3 : wc.cell? ⟨gb194, 3, none⟩ = some (.int .i64 t191) := (blk_cell BK194.out 3).trans rfl
               have hcz90_4 : wc.cell? ⟨gb194, 4, none⟩ = some (.int .i64 t192) := (blk_cell BK194.out 4).trans rfl
               have hfz90_0 := blk_frozen BK194.out 0
               have hfz90_1 := blk_frozen BK194.out 1
               have hfz90_2 := blk_frozen BK194.out 2
               have hfz90_3 := blk_frozen BK194.out 3
               have hfz90_4 := blk_frozen BK194.out 4
               have hnb91 := NB201_182.out
               have hnc91 := NB182_201.out
               have hnb92 := NB201_183.out
               have hnc92 := NB183_201.out
               have hcz93_0 : wc.cell? ⟨gb201, 0, none⟩ = some (.int .i64 t195) := (blk_cell BK201.out 0).trans rfl
               have hcz93_1 : wc.cell? ⟨gb201, 1, none⟩ = some (.int .i64 t196) := (blk_cell BK201.out 1).trans rfl
               have hcz93_2 : wc.cell? ⟨gb201, 2, none⟩ = some (.int .i64 t197) := (blk_cell BK201.out 2).trans rfl
               have hcz93_3 : wc.cell? ⟨gb201, 3, none⟩ = some (.int .i64 t198) := (blk_cell BK201.out 3).trans rfl
               have hcz93_4 : wc.cell? ⟨gb201, 4, none⟩ = some (.int .i64 t199) := (blk_cell BK201.out 4).trans rfl
               have hfz93_0 := blk_frozen BK201.out 0
               have hfz93_1 := blk_frozen BK201.out 1
               have hfz93_2 := blk_frozen BK201.out 2
               have hfz93_3 := blk_frozen BK201.out 3
               have hfz93_4 := blk_frozen BK201.out 4
               go_wp2
               go_meet
               case rel => exact ⟨_, ((t190 == t197)), (by first | rfl | (simp; done) | (simp [*]; done)), H', ⟨by have := HJ5.out; have := HJ44.out; have := HJ70.out; first | omega | exact Nat.le_refl _⟩, ⟨by (with_reducible repeat (first | refine blk_drewN ?_ _ | refine blk_drew ?_ | refine blk_alloc ?_ _)); exact BK182.out⟩, ⟨by (with_reducible repeat (first | refine blk_drewN ?_ _ | refine blk_drew ?_ | refine blk_alloc ?_ _)); exact BK183.out⟩, ⟨by (with_reducible repeat (first | refine blk_drewN ?_ _ | refine blk_drew ?_ | refine blk_alloc ?_ _)); exact BK194.out⟩, ⟨by (with_reducible repeat (first | refine blk_drewN ?_ _ | refine blk_drew ?_ | refine blk_alloc ?_ _)); exact BK201.out⟩, ⟨by repeat (first | (with_reducible first | exact HB.out | apply below_alloc | apply pw_below_drewN | apply below_drew1 | refine below_set ?_ GE182.out | refine below_set ?_ GE183.out | refine below_set ?_ GE194.out | refine below_set ?_ GE201.out) | exact HB.out)⟩⟩
              ·replace c86 := Bool.eq_false_iff.mpr c86
               subst c86
               have H1 : (fencepostlaw10_ScSwap.j3 kj70 t184 (Int.tmod (wrap64 (a2)) (l1_1.length : Int)) (Int.tmod (wrap64 (a3)) (l1_1.length : Int)) false l0_0 l0_1 l1_0 l1_1) = some r := by rw [if_neg (show ¬ (false = true) by decide)] at H; exact H
               clear H
               have H := H1
               clear H1
               have H' := Aside0.mk H
               clear H
               go_wp2
               go_meet
               case rel => exact ⟨_, (false), (by first | rfl | (simp; done) | (simp [*]; done)), H', ⟨by have := HJ5.out; have := HJ44.out; have := HJ70.out; first | omega | exact Nat.le_refl _⟩, ⟨by (with_reducible repeat (first | refine blk_drewN ?_ _ | refine blk_drew ?_ | refine blk_alloc ?_ _)); exact BK182.out⟩, ⟨by (with_reducible repeat (first | refine blk_drewN ?_ _ | refine blk_drew ?_ | refine blk_alloc ?_ _)); exact BK183.out⟩, ⟨by (with_reducible repeat (first | refine blk_drewN ?_ _ | refine blk_drew ?_ | refine blk_alloc ?_ _)); exact BK194.out⟩, ⟨by (with_reducible repeat (first | refine blk_drewN ?_ _ | refine blk_drew ?_ | refine blk_alloc ?_ _)); exact BK201.out⟩, ⟨by repeat (first | (with_reducible first | exact HB.out | apply below_alloc | apply pw_below_drewN | apply below_drew1 | refine below_set ?_ GE182.out | refine below_set ?_ GE183.out | refine below_set ?_ GE194.out | refine below_set ?_ GE201.out) | exact HB.out)⟩⟩
             ·replace c85 := Bool.eq_false_iff.mpr c85
              subst c85
              have H1 : (fencepostlaw10_ScSwap.j3 kj70 t184 (Int.tmod (wrap64 (a2)) (l1_1.length : Int)) (Int.tmod (wrap64 (a3)) (l1_1.length : Int)) false l0_0 l0_1 l1_0 l1_1) = some r := by rw [if_neg (show ¬ (false = true) by decide)] at H; exact H
              clear H
              have H := H1
              clear H1
              have H' := Aside0.mk H
              clear H
              go_wp2
              go_meet
              case rel => exact ⟨_, (false), (by first | rfl | (simp; done) | (simp [*]; done)), H', ⟨by have := HJ5.out; have := HJ44.out; have := HJ70.out; first | omega | exact Nat.le_refl _⟩, ⟨by (with_reducible repeat (first | refine blk_drewN ?_ _ | refine blk_drew ?_ | refine blk_alloc ?_ _)); exact BK182.out⟩, ⟨by (with_reducible repeat (first | refine blk_drewN ?_ _ | refine blk_drew ?_ | refine blk_alloc ?_ _)); exact BK183.out⟩, ⟨by (with_reducible repeat (first | refine blk_drewN ?_ _ | refine blk_drew ?_ | refine blk_alloc ?_ _)); exact BK194.out⟩, ⟨by (with_reducible repeat (first | refine blk_drewN ?_ _ | refine blk_drew ?_ | refine blk_alloc ?_ _)); exact BK201.out⟩, ⟨by repeat (first | (with_reducible first | exact HB.out | apply below_alloc | apply pw_below_drewN | apply below_drew1 | refine below_set ?_ GE182.out | refine below_set ?_ GE183.out | refine below_set ?_ GE194.out | refine below_set ?_ GE201.out) | exact HB.out)⟩⟩
            ·replace c84 := Bool.eq_false_iff.mpr c84
             subst c84
             have H1 : (fencepostlaw10_ScSwap.j3 kj70 t184 (Int.tmod (wrap64 (a2)) (l1_1.length : Int)) (Int.tmod (wrap64 (a3)) (l1_1.length : Int)) true l0_0 l0_1 l1_0 l1_1) = some r := by rw [if_neg (show ¬ (false = true) by decide)] at H; exact H
             clear H
             have H := H1
             clear H1
             have H' := Aside0.mk H
             clear H
             go_wp2
             go_meet
             case rel => exact ⟨_, (true), (by first | rfl | (simp; done) | (simp [*]; done)), H', ⟨by have := HJ5.out; have := HJ44.out; have := HJ70.out; first | omega | exact Nat.le_refl _⟩, ⟨by (with_reducible repeat (first | refine blk_drewN ?_ _ | refine blk_drew ?_ | refine blk_alloc ?_ _)); exact BK182.out⟩, ⟨by (with_reducible repeat (first | refine blk_drewN ?_ _ | refine blk_drew ?_ | refine blk_alloc ?_ _)); exact BK183.out⟩, ⟨by (with_reducible repeat (first | refine blk_drewN ?_ _ | refine blk_drew ?_ | refine blk_alloc ?_ _)); exact BK194.out⟩, ⟨by (with_reducible repeat (first | refine blk_drewN ?_ _ | refine blk_drew ?_ | refine blk_alloc ?_ _)); exact BK201.out⟩, ⟨by repeat (first | (with_reducible first | exact HB.out | apply below_alloc | apply pw_below_drewN | apply below_drew1 | refine below_set ?_ GE182.out | refine below_set ?_ GE183.out | refine below_set ?_ GE194.out | refine below_set ?_ GE201.out) | exact HB.out)⟩⟩
           ·replace c83 := Bool.eq_false_iff.mpr c83
            subst c83
            have H1 : (fencepostlaw10_ScSwap.j3 kj70 t184 (Int.tmod (wrap64 (a2)) (l1_1.length : Int)) (Int.tmod (wrap64 (a3)) (l1_1.length : Int)) true l0_0 l0_1 l1_0 l1_1) = some r := by rw [if_neg (show ¬ (false = true) by decide)] at H; exact H
            clear H
            have H := H1
            clear H1
            have H' := Aside0.mk H
            clear H
            go_wp2
            go_meet
            case rel => exact ⟨_, (true), (by first | rfl | (simp; done) | (simp [*]; done)), H', ⟨by have := HJ5.out; have := HJ44.out; have := HJ70.out; first | omega | exact Nat.le_refl _⟩, ⟨by (with_reducible repeat (first | refine blk_drewN ?_ _ | refine blk_drew ?_ | refine blk_alloc ?_ _)); exact BK182.out⟩, ⟨by (with_reducible repeat (first | refine blk_drewN ?_ _ | refine blk_drew ?_ | refine blk_alloc ?_ _)); exact BK183.out⟩, ⟨by (with_reducible repeat (first | refine blk_drewN ?_ _ | refine blk_drew ?_ | refine blk_alloc ?_ _)); exact BK194.out⟩, ⟨by (with_reducible repeat (first | refine blk_drewN ?_ _ | refine blk_drew ?_ | refine blk_alloc ?_ _)); exact BK201.out⟩, ⟨by repeat (first | (with_reducible first | exact HB.out | apply below_alloc | apply pw_below_drewN | apply below_drew1 | refine below_set ?_ GE182.out | refine below_set ?_ GE183.out | refine below_set ?_ GE194.out | refine below_set ?_ GE201.out) | exact HB.out)⟩⟩
         case rest =>
          clear HC81
          try clear c1
          try clear c2
          try clear p2
          try clear c3
          try clear c4
          try clear c5
          try clear c6
          try clear p6
          try clear c7
          try clear c8
          try clear c9
          try clear c10
          try clear c11
          try clear c12
          try clear c16
          try clear c17
          try clear c19
          try clear c23
          try clear c24
          try clear c33
          try clear c41
          try clear c42
          try clear c42b0
          try clear c42b1
          try clear c42b2
          try clear c46
          try clear c51
          try clear c52
          try clear c58
          try clear c59
          try clear c60
          try clear c62
          try clear c62b0
          try clear c63
          try clear c64
          try clear p64
          try clear c65
          try clear c67
          try clear c68
          try clear c69
          try clear c72
          try clear c72b0
          try clear c73
          try clear c74
          try clear c75
          try clear c77
          try clear c78
          try clear c79
          try clear c82
          try clear c82b0
          try clear c82b1
          try clear c83
          try clear c84
          try clear c85
          try clear c86
          try clear c87
          try clear c88
          try clear c89
          try clear c91
          try clear c92
          try clear hcz13_0
          try clear hcz13_1
          try clear hcz18_0
          try clear hcz18_1
          try clear hcz20_0
          try clear hcz20_1
          try clear hcz25_0
          try clear hcz25_1
          try clear hcz27_0
          try clear hcz27_1
          try clear hcz29_0
          try clear hcz29_1
          try clear hcz30_0
          try clear hcz30_1
          try clear hcz32_0
          try clear hcz32_1
          try clear hcz34_0
          try clear hcz34_1
          try clear hcz36_0
          try clear hcz36_1
          try clear hcz38_0
          try clear hcz38_1
          try clear hcz39_0
          try clear hcz39_1
          try clear hcz47_0
          try clear hcz47_1
          try clear hcz48_0
          try clear hcz48_1
          try clear hcz53_0
          try clear hcz53_1
          try clear hcz53_2
          try clear hcz53_3
          try clear hcz53_4
          try clear hcz54_0
          try clear hcz54_1
          try clear hcz55_0
          try clear hcz55_1
          try clear hcz61_0
          try clear hcz61_1
          try clear hcz61_2
          try clear hcz61_3
          try clear hcz61_4
          try clear hcz66_0
          try clear hcz66_1
          try clear hcz66_2
          try clear hcz66_3
          try clear hcz66_4
          try clear hcz70_0
          try clear hcz70_1
          try clear hcz70_2
          try clear hcz70_3
          try clear hcz70_4
          try clear hcz76_0
          try clear hcz76_1
          try clear hcz76_2
          try clear hcz76_3
          try clear hcz76_4
          try clear hcz80_0
          try clear hcz80_1
          try clear hcz80_2
          try clear hcz80_3
          try clear hcz80_4
          try clear hcz90_0
          try clear hcz90_1
          try clear hcz90_2
          try clear hcz90_3
          try clear hcz90_4
          try clear hcz93_0
          try clear hcz93_1
          try clear hcz93_2
          try clear hcz93_3
          try clear hcz93_4
          try clear hfz13_0
          try clear hfz13_1
          try clear hfz18_0
          try clear hfz18_1
          try clear hfz20_0
          try clear hfz20_1
          try clear hfz25_0
          try clear hfz25_1
          try clear hfz27_0
          try clear hfz27_1
          try clear hfz29_0
          try clear hfz29_1
          try clear hfz30_0
          try clear hfz30_1
          try clear hfz32_0
          try clear hfz32_1
          try clear hfz34_0
          try clear hfz34_1
          try clear hfz36_0
          try clear hfz36_1
          try clear hfz38_0
          try clear hfz38_1
          try clear hfz39_0
          try clear hfz39_1
          try clear hfz47_0
          try clear hfz47_1
          try clear hfz48_0
          try clear hfz48_1
          try clear hfz53_0
          try clear hfz53_1
          try clear hfz53_2
          try clear hfz53_3
          try clear hfz53_4
          try clear hfz54_0
          try clear hfz54_1
          try clear hfz55_0
          try clear hfz55_1
          try clear hfz61_0
          try clear hfz61_1
          try clear hfz61_2
          try clear hfz61_3
          try clear hfz61_4
          try clear hfz66_0
          try clear hfz66_1
          try clear hfz66_2
          try clear hfz66_3
          try clear hfz66_4
          try clear hfz70_0
          try clear hfz70_1
          try clear hfz70_2
          try clear hfz70_3
          try clear hfz70_4
          try clear hfz76_0
          try clear hfz76_1
          try clear hfz76_2
          try clear hfz76_3
          try clear hfz76_4
          try clear hfz80_0
          try clear hfz80_1
          try clear hfz80_2
          try clear hfz80_3
          try clear hfz80_4
          try clear hfz90_0
          try clear hfz90_1
          try clear hfz90_2
          try clear hfz90_3
          try clear hfz90_4
          try clear hfz93_0
          try clear hfz93_1
          try clear hfz93_2
          try clear hfz93_3
          try clear hfz93_4
          try clear p2
          try clear p6
          try clear p64
          obtain ⟨kq, x111_80, rfl, HA, HJ80, BK182, BK183, BK194, BK201, HB⟩ := hcut
          cases kq with
          | zero => exact absurd HA.out (by simp [fencepostlaw10_ScSwap.j3])
          | succ kj80 =>
           have H := HA.out
           clear HA
           simp only [fencepostlaw10_ScSwap.j3] at H
           by_cases c94 : x111_80 = true
           ·subst c94
            have H1 : (some t184) = some r := by rw [if_pos rfl] at H; exact H
            clear H
            have H := H1
            clear H1
            obtain rfl := Option.some.inj H
            go_wp2
            go_ret
            exact ⟨by first | rfl | (simp [errW_none, errW_some] <;> rfl) | (simp [*, errW_none, errW_some] <;> rfl), by repeat (first | (with_reducible first | exact HB.out | apply below_alloc | apply pw_below_drewN | apply below_drew1 | refine below_set ?_ GE182.out | refine below_set ?_ GE183.out | refine below_set ?_ GE194.out | refine below_set ?_ GE201.out) | exact HB.out)⟩
           ·replace c94 := Bool.eq_false_iff.mpr c94
            subst c94
            have H1 : ((sc_Step.f l0_0 l0_1 l1_0 l1_1 (Int.tmod (wrap64 (a2)) (l1_1.length : Int))).bind fun bt202 => ((sc_Step.f l0_0 l0_1 l1_0 l1_1 (Int.tmod (wrap64 (a3)) (l1_1.length : Int))).bind fun bt210 => ((fencepostref10_Right.f kj80 l0_0 l0_1 bt202.1 bt202.2.1).bind fun t218 => (if t218 = true then ((fencepostref10_Right.f kj80 l0_0 l0_1 bt210.1 bt210.2.1).bind fun t219 => (fencepostlaw10_ScSwap.j4 kj80 t184 (Int.tmod (wrap64 (a2)) (l1_1.length : Int)) (Int.tmod (wrap64 (a3)) (l1_1.length : Int)) (!t219) l0_0 l0_1 bt202.1 bt202.2.1 bt210.1 bt210.2.1)) else (fencepostlaw10_ScSwap.j4 kj80 t184 (Int.tmod (wrap64 (a2)) (l1_1.length : Int)) (Int.tmod (wrap64 (a3)) (l1_1.length : Int)) true l0_0 l0_1 bt202.1 bt202.2.1 bt210.1 bt210.2.1))))) = some r := by rw [if_neg (show ¬ (false = true) by decide)] at H; exact H
            clear H
            have H := H1
            clear H1
            replace H := Option.bind_eq_some_iff.mp H
            obtain ⟨⟨t202, t205, t208⟩, A950, H⟩ := H
            replace H : ((sc_Step.f l0_0 l0_1 l1_0 l1_1 (Int.tmod (wrap64 (a3)) (l1_1.length : Int))).bind fun bt210 => ((fencepostref10_Right.f kj80 l0_0 l0_1 t202 t205).bind fun t218 => (if t218 = true then ((fencepostref10_Right.f kj80 l0_0 l0_1 bt210.1 bt210.2.1).bind fun t219 => (fencepostlaw10_ScSwap.j4 kj80 t184 (Int.tmod (wrap64 (a2)) (l1_1.length : Int)) (Int.tmod (wrap64 (a3)) (l1_1.length : Int)) (!t219) l0_0 l0_1 t202 t205 bt210.1 bt210.2.1)) else (fencepostlaw10_ScSwap.j4 kj80 t184 (Int.tmod (wrap64 (a2)) (l1_1.length : Int)) (Int.tmod (wrap64 (a3)) (l1_1.length : Int)) true l0_0 l0_1 t202 t205 bt210.1 bt210.2.1)))) = some r := H
            have A95 := Aside0.mk A950
            clear A950
            replace H := Option.bind_eq_some_iff.mp H
            obtain ⟨⟨t210, t213, t216⟩, A960, H⟩ := H
            replace H : ((fencepostref10_Right.f kj80 l0_0 l0_1 t202 t205).bind fun t218 => (if t218 = true then ((fencepostref10_Right.f kj80 l0_0 l0_1 t210 t213).bind fun t219 => (fencepostlaw10_ScSwap.j4 kj80 t184 (Int.tmod (wrap64 (a2)) (l1_1.length : Int)) (Int.tmod (wrap64 (a3)) (l1_1.length : Int)) (!t219) l0_0 l0_1 t202 t205 t210 t213)) else (fencepostlaw10_ScSwap.j4 kj80 t184 (Int.tmod (wrap64 (a2)) (l1_1.length : Int)) (Int.tmod (wrap64 (a3)) (l1_1.length : Int)) true l0_0 l0_1 t202 t205 t210 t213))) = some r := H
            have A96 := Aside0.mk A960
            clear A960
            have HC97 := Aside0.mk H
            clear H
            have hnb98 := NB182_183.out
            have hnc98 := NB183_182.out
            have hnb99 := NB182_194.out
            have hnc99 := NB194_182.out
            have hnb100 := NB182_201.out
            have hnc100 := NB201_182.out
            have hcz101_0 : wc.cell? ⟨gb182, 0, none⟩ = some (.slice A0_0 l0_0.length c0_0) := (blk_cell BK182.out 0).trans rfl
            have hcz101_1 : wc.cell? ⟨gb182, 1, none⟩ = some (.slice A0_1 l0_1.length c0_1) := (blk_cell BK182.out 1).trans rfl
            have hfz101_0 := blk_frozen BK182.out 0
            have hfz101_1 := blk_frozen BK182.out 1
            have hnb102 := NB183_194.out
            have hnc102 := NB194_183.out
            have hnb103 := NB183_201.out
            have hnc103 := NB201_183.out
            have hcz104_0 : wc.cell? ⟨gb183, 0, none⟩ = some (.slice A1_0 l1_0.length c1_0) := (blk_cell BK183.out 0).trans rfl
            have hcz104_1 : wc.cell? ⟨gb183, 1, none⟩ = some (.slice A1_1 l1_1.length c1_1) := (blk_cell BK183.out 1).trans rfl
            have hfz104_0 := blk_frozen BK183.out 0
            have hfz104_1 := blk_frozen BK183.out 1
            go_upto_region 14 with (first | ((with_reducible refine gate_callee (f := 17) rfl ?_); refine goesL_ (some 117) rfl rfl Try.func17 (by kernel_rfl) rfl #[.agg #[.slice A0_0 l0_0.length c0_0, .slice A0_1 l0_1.length c0_1], .agg #[.slice A1_0 l1_0.length c1_0, .slice A1_1 l1_1.length c1_1], .int .i64 (Int.tmod (wrap64 (a2)) (l1_1.length : Int))] rfl (by (try simp only [List.map_toArray, List.map_cons, List.map_nil]); first | done | rfl | (simp only [List.length_drop, List.length_take]; rfl)) ?_; (with_reducible refine (sc_Step.calls _ _ l0_0 _ _ l0_1 _ _ l1_0 _ _ l1_1 (Int.tmod (wrap64 (a2)) (l1_1.length : Int)) t202 t205 t208 _ ?side1 ?side2 ?side3 ?side4 ?side5 ?side6 ?side7 ?side8 A95.out).mono ?_); (case side1 => repeat (first | exact (Kd.C_below HR0_0.out HB.out) | (with_reducible refine Kd.C_alloc ?_ _) | (with_reducible refine Kd.C_drewN ?_ _) | (with_reducible refine Kd.C_drew ?_))); (case side2 => exact HC0_0.out); (case side3 => repeat (first | exact (Kd.C_below HR0_1.out HB.out) | (with_reducible refine Kd.C_alloc ?_ _) | (with_reducible refine Kd.C_drewN ?_ _) | (with_reducible refine Kd.C_drew ?_))); (case side4 => exact HC0_1.out); (case side5 => repeat (first | exact (Kd.C_below HR1_0.out HB.out) | (with_reducible refine Kd.C_alloc ?_ _) | (with_reducible refine Kd.C_drewN ?_ _) | (with_reducible refine Kd.C_drew ?_))); (case side6 => exact HC1_0.out); (case side7 => repeat (first | exact (Kd.C_below HR1_1.out HB.out) | (with_reducible refine Kd.C_alloc ?_ _) | (with_reducible refine Kd.C_drewN ?_ _) | (with_reducible refine Kd.C_drew ?_))); (case side8 => exact HC1_1.out); rintro e w105 ⟨v203, v206, rfl, ho0, ho1, hb⟩; refine ⟨_, rfl, ?_⟩; have n0_ := Aside0.mk (Kd.V_lower (Kd.V_mono (ok' := fun k_ => k_ ≠ gb182 ∧ k_ ≠ gb183 ∧ k_ ≠ gb194 ∧ k_ ≠ gb201) ho0 (fun k_ hk_ => ⟨(Kd.freshB (g := gb182) (o := .cells #[.slice A0_0 l0_0.length c0_0, .slice A0_1 l0_1.length c0_1] 25 (0, 0)) (by (with_reducible repeat (first | refine blk_drewN ?_ _ | refine blk_drew ?_ | refine blk_alloc ?_ _)); exact BK182.out) k_ hk_), (Kd.freshB (g := gb183) (o := .cells #[.slice A1_0 l1_0.length c1_0, .slice A1_1 l1_1.length c1_1] 28 (0, 0)) (by (with_reducible repeat (first | refine blk_drewN ?_ _ | refine blk_drew ?_ | refine blk_alloc ?_ _)); exact BK183.out) k_ hk_), (Kd.freshB (g := gb194) (o := .cells #[.int .i64 t188, .int .i64 t189, .int .i64 t190, .int .i64 t191, .int .i64 t192] 39 (0, 0)) (by (with_reducible repeat (first | refine blk_drewN ?_ _ | refine blk_drew ?_ | refine blk_alloc ?_ _)); exact BK194.out) k_ hk_), (Kd.freshB (g := gb201) (o := .cells #[.int .i64 t195, .int .i64 t196, .int .i64 t197, .int .i64 t198, .int .i64 t199] 39 (0, 0)) (by (with_reducible repeat (first | refine blk_drewN ?_ _ | refine blk_drew ?_ | refine blk_alloc ?_ _)); exact BK201.out) k_ hk_)⟩)) (below_size (by repeat (first | (with_reducible first | exact HB.out | apply below_alloc | apply pw_below_drewN | apply below_drew1 | refine below_set ?_ GE182.out | refine below_set ?_ GE183.out | refine below_set ?_ GE194.out | refine below_set ?_ GE201.out) | exact HB.out)))); have n1_ := Aside0.mk (Kd.V_lower (Kd.V_mono (ok' := fun k_ => k_ ≠ gb182 ∧ k_ ≠ gb183 ∧ k_ ≠ gb194 ∧ k_ ≠ gb201) ho1 (fun k_ hk_ => ⟨(Kd.freshB (g := gb182) (o := .cells #[.slice A0_0 l0_0.length c0_0, .slice A0_1 l0_1.length c0_1] 25 (0, 0)) (by (with_reducible repeat (first | refine blk_drewN ?_ _ | refine blk_drew ?_ | refine blk_alloc ?_ _)); exact BK182.out) k_ hk_), (Kd.freshB (g := gb183) (o := .cells #[.slice A1_0 l1_0.length c1_0, .slice A1_1 l1_1.length c1_1] 28 (0, 0)) (by (with_reducible repeat (first | refine blk_drewN ?_ _ | refine blk_drew ?_ | refine blk_alloc ?_ _)); exact BK183.out) k_ hk_), (Kd.freshB (g := gb194) (o := .cells #[.int .i64 t188, .int .i64 t189, .int .i64 t190, .int .i64 t191, .int .i64 t192] 39 (0, 0)) (by (with_reducible repeat (first | refine blk_drewN ?_ _ | refine blk_drew ?_ | refine blk_alloc ?_ _)); exact BK194.out) k_ hk_), (Kd.freshB (g := gb201) (o := .cells #[.int .i64 t195, .int .i64 t196, .int .i64 t197, .int .i64 t198, .int .i64 t199] 39 (0, 0)) (by (with_reducible repeat (first | refine blk_drewN ?_ _ | refine blk_drew ?_ | refine blk_alloc ?_ _)); exact BK201.out) k_ hk_)⟩)) (below_size (by repeat (first | (with_reducible first | exact HB.out | apply below_alloc | apply pw_below_drewN | apply below_drew1 | refine below_set ?_ GE182.out | refine below_set ?_ GE183.out | refine below_set ?_ GE194.out | refine below_set ?_ GE201.out) | exact HB.out)))); have n2_ := Aside0.mk (blk_below (g := gb182) (o := .cells #[.slice A0_0 l0_0.length c0_0, .slice A0_1 l0_1.length c0_1] 25 (0, 0)) (by (with_reducible repeat (first | refine blk_drewN ?_ _ | refine blk_drew ?_ | refine blk_alloc ?_ _)); exact BK182.out) hb); have n3_ := Aside0.mk (blk_below (g := gb183) (o := .cells #[.slice A1_0 l1_0.length c1_0, .slice A1_1 l1_1.length c1_1] 28 (0, 0)) (by (with_reducible repeat (first | refine blk_drewN ?_ _ | refine blk_drew ?_ | refine blk_alloc ?_ _)); exact BK183.out) hb); have n4_ := Aside0.mk (blk_below (g := gb194) (o := .cells #[.int .i64 t188, .int .i64 t189, .int .i64 t190, .int .i64 t191, .int .i64 t192] 39 (0, 0)) (by (with_reducible repeat (first | refine blk_drewN ?_ _ | refine blk_drew ?_ | refine blk_alloc ?_ _)); exact BK194.out) hb); have n5_ := Aside0.mk (blk_below (g := gb201) (o := .cells #[.int .i64 t195, .int .i64 t196, .int .i64 t197, .int .i64 t198, .int .i64 t199] 39 (0, 0)) (by (with_reducible repeat (first | refine blk_drewN ?_ _ | refine blk_drew ?_ | refine blk_alloc ?_ _)); exact BK201.out) hb); have n6_ := Aside0.mk (below_step (by repeat (first | (with_reducible first | exact HB.out | apply below_alloc | apply pw_below_drewN | apply below_drew1 | refine below_set ?_ GE182.out | refine below_set ?_ GE183.out | refine below_set ?_ GE194.out | refine below_set ?_ GE201.out) | exact HB.out)) hb); clear BK182; clear BK183; clear BK194; clear BK201; clear HB; have HO204 := n0_; have HO207 := n1_; have BK182 := n2_; have BK183 := n3_; have BK194 := n4_; have BK201 := n5_; have HB := n6_; clear n0_ n1_ n2_ n3_ n4_ n5_ n6_; (try clear hb); (try clear hb2); (try clear hk); (try clear hi); (try clear ho0); (try clear ho1)) | ((with_reducible refine gate_dst (N := 18) rfl ?_); (try (refine gate_guard (by rfl) ?_; dsimp only)); refine box_event ?hg (N := 18) ?hd (cs := #[.slice none 0 0, .slice none 0 0]) (t := 28) ?hr ?_; (case hd => rfl); (case hg => rfl); (case hr => first | (go_simp; done) | (go_simp; rfl)); intro gb209 hg w106 hbox hb; have n0_ := Aside0.mk (Kd.V_below (Kd.V_elderB (by (with_reducible repeat (first | apply Kd.V_alloc | apply Kd.V_drewN | apply Kd.V_drew)); exact HO204.out) gb209 (Nat.le_of_eq hg.symm)) hb); have n1_ := Aside0.mk (Kd.V_below (Kd.V_elderB (by (with_reducible repeat (first | apply Kd.V_alloc | apply Kd.V_drewN | apply Kd.V_drew)); exact HO207.out) gb209 (Nat.le_of_eq hg.symm)) hb); have n2_ := Aside0.mk (blk_below (g := gb182) (o := .cells #[.slice A0_0 l0_0.length c0_0, .slice A0_1 l0_1.length c0_1] 25 (0, 0)) (by (with_reducible repeat (first | refine blk_drewN ?_ _ | refine blk_drew ?_ | refine blk_alloc ?_ _)); exact BK182.out) hb); have n3_ := Aside0.mk (blk_below (g := gb183) (o := .cells #[.slice A1_0 l1_0.length c1_0, .slice A1_1 l1_1.length c1_1] 28 (0, 0)) (by (with_reducible repeat (first | refine blk_drewN ?_ _ | refine blk_drew ?_ | refine blk_alloc ?_ _)); exact BK183.out) hb); have n4_ := Aside0.mk (blk_below (g := gb194) (o := .cells #[.int .i64 t188, .int .i64 t189, .int .i64 t190, .int .i64 t191, .int .i64 t192] 39 (0, 0)) (by (with_reducible repeat (first | refine blk_drewN ?_ _ | refine blk_drew ?_ | refine blk_alloc ?_ _)); exact BK194.out) hb); have n5_ := Aside0.mk (blk_below (g := gb201) (o := .cells #[.int .i64 t195, .int .i64 t196, .int .i64 t197, .int .i64 t198, .int .i64 t199] 39 (0, 0)) (by (with_reducible repeat (first | refine blk_drewN ?_ _ | refine blk_drew ?_ | refine blk_alloc ?_ _)); exact BK201.out) hb); have n6_ := Aside0.mk (below_step (by repeat (first | (with_reducible first | exact HB.out | apply below_alloc | apply pw_below_drewN | apply below_drew1 | refine below_set ?_ GE182.out | refine below_set ?_ GE183.out | refine below_set ?_ GE194.out | refine below_set ?_ GE201.out) | exact HB.out)) hb); have n7_ := Aside0.mk (hbox); have n8_ := Aside0.mk ((by rw [hg]; exact (below_size (by repeat (first | (with_reducible first | exact HB.out | apply below_alloc | apply pw_below_drewN | apply below_drew1 | refine below_set ?_ GE182.out | refine below_set ?_ GE183.out | refine below_set ?_ GE194.out | refine below_set ?_ GE201.out) | exact HB.out))) : w.heap.size ≤ gb209)); have n9_ := Aside0.mk ((by rw [hg]; exact (below_size (by repeat (first | (with_reducible first | exact HB.out | apply below_alloc | apply pw_below_drewN | apply below_drew1 | refine below_set ?_ GE182.out | refine below_set ?_ GE183.out | refine below_set ?_ GE194.out | refine below_set ?_ GE201.out) | exact HB.out))) : w.heap.size ≤ gb209)); have n10_ := Aside0.mk ((by rw [hg]; exact Nat.ne_of_lt (blk_lt (g := gb182) (o := .cells #[.slice A0_0 l0_0.length c0_0, .slice A0_1 l0_1.length c0_1] 25 (0, 0)) (by (with_reducible repeat (first | refine blk_drewN ?_ _ | refine blk_drew ?_ | refine blk_alloc ?_ _)); exact BK182.out)) : gb182 ≠ gb209)); have n11_ := Aside0.mk ((by rw [hg]; exact Nat.ne_of_gt (blk_lt (g := gb182) (o := .cells #[.slice A0_0 l0_0.length c0_0, .slice A0_1 l0_1.length c0_1] 25 (0, 0)) (by (with_reducible repeat (first | refine blk_drewN ?_ _ | refine blk_drew ?_ | refine blk_alloc ?_ _)); exact BK182.out)) : gb209 ≠ gb182)); have n12_ := Aside0.mk ((by rw [hg]; exact Nat.ne_of_lt (blk_lt (g := gb183) (o := .cells #[.slice A1_0 l1_0.length c1_0, .slice A1_1 l1_1.length c1_1] 28 (0, 0)) (by (with_reducible repeat (first | refine blk_drewN ?_ _ | refine blk_drew ?_ | refine blk_alloc ?_ _)); exact BK183.out)) : gb183 ≠ gb209)); have n13_ := Aside0.mk ((by rw [hg]; exact Nat.ne_of_gt (blk_lt (g := gb183) (o := .cells #[.slice A1_0 l1_0.length c1_0, .slice A1_1 l1_1.length c1_1] 28 (0, 0)) (by (with_reducible repeat (first | refine blk_drewN ?_ _ | refine blk_drew ?_ | refine blk_alloc ?_ _)); exact BK183.out)) : gb209 ≠ gb183)); have n14_ := Aside0.mk ((by rw [hg]; exact Nat.ne_of_lt (blk_lt (g := gb194) (o := .cells #[.int .i64 t188, .int .i64 t189, .int .i64 t190, .int .i64 t191, .int .i64 t192] 39 (0, 0)) (by (with_reducible repeat (first | refine blk_drewN ?_ _ | refine blk_drew ?_ | refine blk_alloc ?_ _)); exact BK194.out)) : gb194 ≠ gb209)); have n15_ := Aside0.mk ((by rw [hg]; exact Nat.ne_of_gt (blk_lt (g := gb194) (o := .cells #[.int .i64 t188, .int .i64 t189, .int .i64 t190, .int .i64 t191, .int .i64 t192] 39 (0, 0)) (by (with_reducible repeat (first | refine blk_drewN ?_ _ | refine blk_drew ?_ | refine blk_alloc ?_ _)); exact BK194.out)) : gb209 ≠ gb194)); have n16_ := Aside0.mk ((by rw [hg]; exact Nat.ne_of_lt (blk_lt (g := gb201) (o := .cells #[.int .i64 t195, .int .i64 t196, .int .i64 t197, .int .i64 t198, .int .i64 t199] 39 (0, 0)) (by (with_reducible repeat (first | refine blk_drewN ?_ _ | refine blk_drew ?_ | refine blk_alloc ?_ _)); exact BK201.out)) : gb201 ≠ gb209)); have n17_ := Aside0.mk ((by rw [hg]; exact Nat.ne_of_gt (blk_lt (g := gb201) (o := .cells #[.int .i64 t195, .int .i64 t196, .int .i64 t197, .int .i64 t198, .int .i64 t199] 39 (0, 0)) (by (with_reducible repeat (first | refine blk_drewN ?_ _ | refine blk_drew ?_ | refine blk_alloc ?_ _)); exact BK201.out)) : gb209 ≠ gb201)); clear HO204; clear HO207; clear BK182; clear BK183; clear BK194; clear BK201; clear HB; have HO204 := n0_; have HO207 := n1_; have BK182 := n2_; have BK183 := n3_; have BK194 := n4_; have BK201 := n5_; have HB := n6_; have BK209 := n7_; have GW209 := n8_; have GE209 := n9_; have NB182_209 := n10_; have NB209_182 := n11_; have NB183_209 := n12_; have NB209_183 := n13_; have NB194_209 := n14_; have NB209_194 := n15_; have NB201_209 := n16_; have NB209_201 := n17_; clear n0_ n1_ n2_ n3_ n4_ n5_ n6_ n7_ n8_ n9_ n10_ n11_ n12_ n13_ n14_ n15_ n16_ n17_; clear hb hbox hg; obtain ⟨Ao107, co107, eo107⟩ := Kd.V_slice HO204.out; subst eo107; have hnb108 := NB209_182.out; have hnc108 := NB182_209.out; have hnb109 := NB209_183.out; have hnc109 := NB183_209.out; have hnb110 := NB209_194.out; have hnc110 := NB194_209.out; have hnb111 := NB209_201.out; have hnc111 := NB201_209.out; have hcz112_0 : w106.cell? ⟨gb209, 0, none⟩ = some (.slice none 0 0) := (blk_cell BK209.out 0).trans rfl; have hcz112_1 : w106.cell? ⟨gb209, 1, none⟩ = some (.slice none 0 0) := (blk_cell BK209.out 1).trans rfl; have hfz112_0 := blk_frozen BK209.out 0; have hfz112_1 := blk_frozen BK209.out 1; obtain ⟨Ao113, co113, eo113⟩ := Kd.V_slice HO207.out; subst eo113; have hcz114_0 : w106.cell? ⟨gb182, 0, none⟩ = some (.slice A0_0 l0_0.length c0_0) := (blk_cell BK182.out 0).trans rfl; have hcz114_1 : w106.cell? ⟨gb182, 1, none⟩ = some (.slice A0_1 l0_1.length c0_1) := (blk_cell BK182.out 1).trans rfl; have hfz114_0 := blk_frozen BK182.out 0; have hfz114_1 := blk_frozen BK182.out 1; have hcz115_0 : w106.cell? ⟨gb183, 0, none⟩ = some (.slice A1_0 l1_0.length c1_0) := (blk_cell BK183.out 0).trans rfl; have hcz115_1 : w106.cell? ⟨gb183, 1, none⟩ = some (.slice A1_1 l1_1.length c1_1) := (blk_cell BK183.out 1).trans rfl; have hfz115_0 := blk_frozen BK183.out 0; have hfz115_1 := blk_frozen BK183.out 1) | ((with_reducible refine gate_callee (f := 17) rfl ?_); refine goesL_ (some 124) rfl rfl Try.func17 (by kernel_rfl) rfl #[.agg #[.slice A0_0 l0_0.length c0_0, .slice A0_1 l0_1.length c0_1], .agg #[.slice A1_0 l1_0.length c1_0, .slice A1_1 l1_1.length c1_1], .int .i64 (Int.tmod (wrap64 (a3)) (l1_1.length : Int))] rfl (by (try simp only [List.map_toArray, List.map_cons, List.map_nil]); first | done | rfl | (simp only [List.length_drop, List.length_take]; rfl)) ?_; (with_reducible refine (sc_Step.calls _ _ l0_0 _ _ l0_1 _ _ l1_0 _ _ l1_1 (Int.tmod (wrap64 (a3)) (l1_1.length : Int)) t210 t213 t216 _ ?side1 ?side2 ?side3 ?side4 ?side5 ?side6 ?side7 ?side8 A96.out).mono ?_); (case side1 => exact Kd.C_below HR0_0.out (by repeat (first | (with_reducible first | exact HB.out | apply below_alloc | apply pw_below_drewN | apply below_drew1 | refine below_set ?_ GE182.out | refine below_set ?_ GE183.out | refine below_set ?_ GE194.out | refine below_set ?_ GE201.out | refine below_set ?_ GE209.out) | exact HB.out))); (case side2 => exact HC0_0.out); (case side3 => exact Kd.C_below HR0_1.out (by repeat (first | (with_reducible first | exact HB.out | apply below_alloc | apply pw_below_drewN | apply below_drew1 | refine below_set ?_ GE182.out | refine below_set ?_ GE183.out | refine below_set ?_ GE194.out | refine below_set ?_ GE201.out | refine below_set ?_ GE209.out) | exact HB.out))); (case side4 => exact HC0_1.out); (case side5 => exact Kd.C_below HR1_0.out (by repeat (first | (with_reducible first | exact HB.out | apply below_alloc | apply pw_below_drewN | apply below_drew1 | refine below_set ?_ GE182.out | refine below_set ?_ GE183.out | refine below_set ?_ GE194.out | refine below_set ?_ GE201.out | refine below_set ?_ GE209.out) | exact HB.out))); (case side6 => exact HC1_0.out); (case side7 => exact Kd.C_below HR1_1.out (by repeat (first | (with_reducible first | exact HB.out | apply below_alloc | apply pw_below_drewN | apply below_drew1 | refine below_set ?_ GE182.out | refine below_set ?_ GE183.out | refine below_set ?_ GE194.out | refine below_set ?_ GE201.out | refine below_set ?_ GE209.out) | exact HB.out))); (case side8 => exact HC1_1.out); rintro e w116 ⟨v211, v214, rfl, ho0, ho1, hb⟩; refine ⟨_, rfl, ?_⟩; have n0_ := Aside0.mk (Kd.V_below (by (with_reducible repeat (first | apply Kd.V_alloc | apply Kd.V_drewN | apply Kd.V_drew)); exact (Kd.V_mono (Kd.V_far (p := ⟨gb209, 1, none⟩) (Kd.V_far (p := ⟨gb209, 0, none⟩) (Kd.V_mono HO204.out (fun k_ hk => (⟨hk, hk.2⟩ : _ ∧ k_ ≠ gb209))) (fun _ hk => hk.2) (.slice Ao107 t202.length co107)) (fun _ hk => hk.2) (.slice Ao113 t205.length co113)) (fun _ h_ => h_.1))) hb); have n1_ := Aside0.mk (Kd.V_below (by (with_reducible repeat (first | apply Kd.V_alloc | apply Kd.V_drewN | apply Kd.V_drew)); exact (Kd.V_mono (Kd.V_far (p := ⟨gb209, 1, none⟩) (Kd.V_far (p := ⟨gb209, 0, none⟩) (Kd.V_mono HO207.out (fun k_ hk => (⟨hk, hk.2⟩ : _ ∧ k_ ≠ gb209))) (fun _ hk => hk.2) (.slice Ao107 t202.length co107)) (fun _ hk => hk.2) (.slice Ao113 t205.length co113)) (fun _ h_ => h_.1))) hb); have n2_ := Aside0.mk (Kd.V_lower (Kd.V_mono (ok' := fun k_ => k_ ≠ gb182 ∧ k_ ≠ gb183 ∧ k_ ≠ gb194 ∧ k_ ≠ gb201 ∧ k_ ≠ gb209) ho0 (fun k_ hk_ => ⟨(Kd.freshB (g := gb182) (o := .cells #[.slice A0_0 l0_0.length c0_0, .slice A0_1 l0_1.length c0_1] 25 (0, 0)) (by (with_reducible repeat (first | refine blk_drewN ?_ _ | refine blk_drew ?_ | refine blk_alloc ?_ _)); refine blk_far ?_ NB182_209.out _; (with_reducible repeat (first | refine blk_drewN ?_ _ | refine blk_drew ?_ | refine blk_alloc ?_ _)); refine blk_far ?_ NB182_209.out _; (with_reducible repeat (first | refine blk_drewN ?_ _ | refine blk_drew ?_ | refine blk_alloc ?_ _)); exact BK182.out) k_ hk_), (Kd.freshB (g := gb183) (o := .cells #[.slice A1_0 l1_0.length c1_0, .slice A1_1 l1_1.length c1_1] 28 (0, 0)) (by (with_reducible repeat (first | refine blk_drewN ?_ _ | refine blk_drew ?_ | refine blk_alloc ?_ _)); refine blk_far ?_ NB183_209.out _; (with_reducible repeat (first | refine blk_drewN ?_ _ | refine blk_drew ?_ | refine blk_alloc ?_ _)); refine blk_far ?_ NB183_209.out _; (with_reducible repeat (first | refine blk_drewN ?_ _ | refine blk_drew ?_ | refine blk_alloc ?_ _)); exact BK183.out) k_ hk_), (Kd.freshB (g := gb194) (o := .cells #[.int .i64 t188, .int .i64 t189, .int .i64 t190, .int .i64 t191, .int .i64 t192] 39 (0, 0)) (by (with_reducible repeat (first | refine blk_drewN ?_ _ | refine blk_drew ?_ | refine blk_alloc ?_ _)); refine blk_far ?_ NB194_209.out _; (with_reducible repeat (first | refine blk_drewN ?_ _ | refine blk_drew ?_ | refine blk_alloc ?_ _)); refine blk_far ?_ NB194_209.out _; (with_reducible repeat (first | refine blk_drewN ?_ _ | refine blk_drew ?_ | refine blk_alloc ?_ _)); exact BK194.out) k_ hk_), (Kd.freshB (g := gb201) (o := .cells #[.int .i64 t195, .int .i64 t196, .int .i64 t197, .int .i64 t198, .int .i64 t199] 39 (0, 0)) (by (with_reducible repeat (first | refine blk_drewN ?_ _ | refine blk_drew ?_ | refine blk_alloc ?_ _)); refine blk_far ?_ NB201_209.out _; (with_reducible repeat (first | refine blk_drewN ?_ _ | refine blk_drew ?_ | refine blk_alloc ?_ _)); refine blk_far ?_ NB201_209.out _; (with_reducible repeat (first | refine blk_drewN ?_ _ | refine blk_drew ?_ | refine blk_alloc ?_ _)); exact BK201.out) k_ hk_), (Kd.freshB (g := gb209) (o := .cells #[.slice Ao107 t202.length co107, .slice Ao113 t205.length co113] 28 (0, 0)) (by (with_reducible repeat (first | refine blk_drewN ?_ _ | refine blk_drew ?_ | refine blk_alloc ?_ _)); refine blk_put (cs := #[.slice Ao107 t202.length co107, .slice none 0 0]) ?_ 1 _ rfl; (with_reducible repeat (first | refine blk_drewN ?_ _ | refine blk_drew ?_ | refine blk_alloc ?_ _)); refine blk_put (cs := #[.slice none 0 0, .slice none 0 0]) ?_ 0 _ rfl; (with_reducible repeat (first | refine blk_drewN ?_ _ | refine blk_drew ?_ | refine blk_alloc ?_ _)); exact BK209.out) k_ hk_)⟩)) (below_size (by repeat (first | (with_reducible first | exact HB.out | apply below_alloc | apply pw_below_drewN | apply below_drew1 | refine below_set ?_ GE182.out | refine below_set ?_ GE183.out | refine below_set ?_ GE194.out | refine below_set ?_ GE201.out | refine below_set ?_ GE209.out) | exact HB.out)))); have n3_ := Aside0.mk (Kd.V_lower (Kd.V_mono (ok' := fun k_ => k_ ≠ gb182 ∧ k_ ≠ gb183 ∧ k_ ≠ gb194 ∧ k_ ≠ gb201 ∧ k_ ≠ gb209) ho1 (fun k_ hk_ => ⟨(Kd.freshB (g := gb182) (o := .cells #[.slice A0_0 l0_0.length c0_0, .slice A0_1 l0_1.length c0_1] 25 (0, 0)) (by (with_reducible repeat (first | refine blk_drewN ?_ _ | refine blk_drew ?_ | refine blk_alloc ?_ _)); refine blk_far ?_ NB182_209.out _; (with_reducible repeat (first | refine blk_drewN ?_ _ | refine blk_drew ?_ | refine blk_alloc ?_ _)); refine blk_far ?_ NB182_209.out _; (with_reducible repeat (first | refine blk_drewN ?_ _ | refine blk_drew ?_ | refine blk_alloc ?_ _)); exact BK182.out) k_ hk_), (Kd.freshB (g := gb183) (o := .cells #[.slice A1_0 l1_0.length c1_0, .slice A1_1 l1_1.length c1_1] 28 (0, 0)) (by (with_reducible repeat (first | refine blk_drewN ?_ _ | refine blk_drew ?_ | refine blk_alloc ?_ _)); refine blk_far ?_ NB183_209.out _; (with_reducible repeat (first | refine blk_drewN ?_ _ | refine blk_drew ?_ | refine blk_alloc ?_ _)); refine blk_far ?_ NB183_209.out _; (with_reducible repeat (first | refine blk_drewN ?_ _ | refine blk_drew ?_ | refine blk_alloc ?_ _)); exact BK183.out) k_ hk_), (Kd.freshB (g := gb194) (o := .cells #[.int .i64 t188, .int .i64 t189, .int .i64 t190, .int .i64 t191, .int .i64 t192] 39 (0, 0)) (by (with_reducible repeat (first | refine blk_drewN ?_ _ | refine blk_drew ?_ | refine blk_alloc ?_ _)); refine blk_far ?_ NB194_209.out _; (with_reducible repeat (first | refine blk_drewN ?_ _ | refine blk_drew ?_ | refine blk_alloc ?_ _)); refine blk_far ?_ NB194_209.out _; (with_reducible repeat (first | refine blk_drewN ?_ _ | refine blk_drew ?_ | refine blk_alloc ?_ _)); exact BK194.out) k_ hk_), (Kd.freshB (g := gb201) (o := .cells #[.int .i64 t195, .int .i64 t196, .int .i64 t197, .int .i64 t198, .int .i64 t199] 39 (0, 0)) (by (with_reducible repeat (first | refine blk_drewN ?_ _ | refine blk_drew ?_ | refine blk_alloc ?_ _)); refine blk_far ?_ NB201_209.out _; (with_reducible repeat (first | refine blk_drewN ?_ _ | refine blk_drew ?_ | refine blk_alloc ?_ _)); refine blk_far ?_ NB201_209.out _; (with_reducible repeat (first | refine blk_drewN ?_ _ | refine blk_drew ?_ | refine blk_alloc ?_ _)); exact BK201.out) k_ hk_), (Kd.freshB (g := gb209) (o := .cells #[.slice Ao107 t202.length co107, .slice Ao113 t205.length co113] 28 (0, 0)) (by (with_reducible repeat (first | refine blk_drewN ?_ _ | refine blk_drew ?_ | refine blk_alloc ?_ _)); refine blk_put (cs := #[.slice Ao107 t202.length co107, .slice none 0 0]) ?_ 1 _ rfl; (with_reducible repeat (first | refine blk_drewN ?_ _ | refine blk_drew ?_ | refine blk_alloc ?_ _)); refine blk_put (cs := #[.slice none 0 0, .slice none 0 0]) ?_ 0 _ rfl; (with_reducible repeat (first | refine blk_drewN ?_ _ | refine blk_drew ?_ | refine blk_alloc ?_ _)); exact BK209.out) k_ hk_)⟩)) (below_size (by repeat (first | (with_reducible first | exact HB.out | apply below_alloc | apply pw_below_drewN | apply below_drew1 | refine below_set ?_ GE182.out | refine below_set ?_ GE183.out | refine below_set ?_ GE194.out | refine below_set ?_ GE201.out | refine below_set ?_ GE209.out) | exact HB.out)))); have n4_ := Aside0.mk (blk_below (g := gb182) (o := .cells #[.slice A0_0 l0_0.length c0_0, .slice A0_1 l0_1.length c0_1] 25 (0, 0)) (by (with_reducible repeat (first | refine blk_drewN ?_ _ | refine blk_drew ?_ | refine blk_alloc ?_ _)); refine blk_far ?_ NB182_209.out _; (with_reducible repeat (first | refine blk_drewN ?_ _ | refine blk_drew ?_ | refine blk_alloc ?_ _)); refine blk_far ?_ NB182_209.out _; (with_reducible repeat (first | refine blk_drewN ?_ _ | refine blk_drew ?_ | refine blk_alloc ?_ _)); exact BK182.out) hb); have n5_ := Aside0.mk (blk_below (g := gb183) (o := .cells #[.slice A1_0 l1_0.length c1_0, .slice A1_1 l1_1.length c1_1] 28 (0, 0)) (by (with_reducible repeat (first | refine blk_drewN ?_ _ | refine blk_drew ?_ | refine blk_alloc ?_ _)); refine blk_far ?_ NB183_209.out _; (with_reducible repeat (first | refine blk_drewN ?_ _ | refine blk_drew ?_ | refine blk_alloc ?_ _)); refine blk_far ?_ NB183_209.out _; (with_reducible repeat (first | refine blk_drewN ?_ _ | refine blk_drew ?_ | refine blk_alloc ?_ _)); exact BK183.out) hb); have n6_ := Aside0.mk (blk_below (g := gb194) (o := .cells #[.int .i64 t188, .int .i64 t189, .int .i64 t190, .int .i64 t191, .int .i64 t192] 39 (0, 0)) (by (with_reducible repeat (first | refine blk_drewN ?_ _ | refine blk_drew ?_ | refine blk_alloc ?_ _)); refine blk_far ?_ NB194_209.out _; (with_reducible repeat (first | refine blk_drewN ?_ _ | refine blk_drew ?_ | refine blk_alloc ?_ _)); refine blk_far ?_ NB194_209.out _; (with_reducible repeat (first | refine blk_drewN ?_ _ | refine blk_drew ?_ | refine blk_alloc ?_ _)); exact BK194.out) hb); have n7_ := Aside0.mk (blk_below (g := gb201) (o := .cells #[.int .i64 t195, .int .i64 t196, .int .i64 t197, .int .i64 t198, .int .i64 t199] 39 (0, 0)) (by (with_reducible repeat (first | refine blk_drewN ?_ _ | refine blk_drew ?_ | refine blk_alloc ?_ _)); refine blk_far ?_ NB201_209.out _; (with_reducible repeat (first | refine blk_drewN ?_ _ | refine blk_drew ?_ | refine blk_alloc ?_ _)); refine blk_far ?_ NB201_209.out _; (with_reducible repeat (first | refine blk_drewN ?_ _ | refine blk_drew ?_ | refine blk_alloc ?_ _)); exact BK201.out) hb); have n8_ := Aside0.mk (blk_below (g := gb209) (o := .cells #[.slice Ao107 t202.length co107, .slice Ao113 t205.length co113] 28 (0, 0)) (by (with_reducible repeat (first | refine blk_drewN ?_ _ | refine blk_drew ?_ | refine blk_alloc ?_ _)); refine blk_put (cs := #[.slice Ao107 t202.length co107, .slice none 0 0]) ?_ 1 _ rfl; (with_reducible repeat (first | refine blk_drewN ?_ _ | refine blk_drew ?_ | refine blk_alloc ?_ _)); refine blk_put (cs := #[.slice none 0 0, .slice none 0 0]) ?_ 0 _ rfl; (with_reducible repeat (first | refine blk_drewN ?_ _ | refine blk_drew ?_ | refine blk_alloc ?_ _)); exact BK209.out) hb); have n9_ := Aside0.mk (below_step (by repeat (first | (with_reducible first | exact HB.out | apply below_alloc | apply pw_below_drewN | apply below_drew1 | refine below_set ?_ GE182.out | refine below_set ?_ GE183.out | refine below_set ?_ GE194.out | refine below_set ?_ GE201.out | refine below_set ?_ GE209.out) | exact HB.out)) hb); clear HO204; clear HO207; clear BK182; clear BK183; clear BK194; clear BK201; clear BK209; clear HB; have HO204 := n0_; have HO207 := n1_; have HO212 := n2_; have HO215 := n3_; have BK182 := n4_; have BK183 := n5_; have BK194 := n6_; have BK201 := n7_; have BK209 := n8_; have HB := n9_; clear n0_ n1_ n2_ n3_ n4_ n5_ n6_ n7_ n8_ n9_; (try clear hb); (try clear hb2); (try clear hk); (try clear hi); (try clear ho0); (try clear ho1)) | ((with_reducible refine gate_dst (N := 20) rfl ?_); (try (refine gate_guard (by rfl) ?_; dsimp only)); refine box_event ?hg (N := 20) ?hd (cs := #[.slice none 0 0, .slice none 0 0]) (t := 28) ?hr ?_; (case hd => rfl); (case hg => rfl); (case hr => first | (go_simp; done) | (go_simp; rfl)); intro gb217 hg w117 hbox hb; have n0_ := Aside0.mk (Kd.V_below (Kd.V_elderB (by (with_reducible repeat (first | apply Kd.V_alloc | apply Kd.V_drewN | apply Kd.V_drew)); exact HO204.out) gb217 (Nat.le_of_eq hg.symm)) hb); have n1_ := Aside0.mk (Kd.V_below (Kd.V_elderB (by (with_reducible repeat (first | apply Kd.V_alloc | apply Kd.V_drewN | apply Kd.V_drew)); exact HO207.out) gb217 (Nat.le_of_eq hg.symm)) hb); have n2_ := Aside0.mk (Kd.V_below (Kd.V_elderB (by (with_reducible repeat (first | apply Kd.V_alloc | apply Kd.V_drewN | apply Kd.V_drew)); exact HO212.out) gb217 (Nat.le_of_eq hg.symm)) hb); have n3_ := Aside0.mk (Kd.V_below (Kd.V_elderB (by (with_reducible repeat (first | apply Kd.V_alloc | apply Kd.V_drewN | apply Kd.V_drew)); exact HO215.out) gb217 (Nat.le_of_eq hg.symm)) hb); have n4_ := Aside0.mk (blk_below (g := gb182) (o := .cells #[.slice A0_0 l0_0.length c0_0, .slice A0_1 l0_1.length c0_1] 25 (0, 0)) (by (with_reducible repeat (first | refine blk_drewN ?_ _ | refine blk_drew ?_ | refine blk_alloc ?_ _)); exact BK182.out) hb); have n5_ := Aside0.mk (blk_below (g := gb183) (o := .cells #[.slice A1_0 l1_0.length c1_0, .slice A1_1 l1_1.length c1_1] 28 (0, 0)) (by (with_reducible repeat (first | refine blk_drewN ?_ _ | refine blk_drew ?_ | refine blk_alloc ?_ _)); exact BK183.out) hb); have n6_ := Aside0.mk (blk_below (g := gb194) (o := .cells #[.int .i64 t188, .int .i64 t189, .int .i64 t190, .int .i64 t191, .int .i64 t192] 39 (0, 0)) (by (with_reducible repeat (first | refine blk_drewN ?_ _ | refine blk_drew ?_ | refine blk_alloc ?_ _)); exact BK194.out) hb); have n7_ := Aside0.mk (blk_below (g := gb201) (o := .cells #[.int .i64 t195, .int .i64 t196, .int .i64 t197, .int .i64 t198, .int .i64 t199] 39 (0, 0)) (by (with_reducible repeat (first | refine blk_drewN ?_ _ | refine blk_drew ?_ | refine blk_alloc ?_ _)); exact BK201.out) hb); have n8_ := Aside0.mk (blk_below (g := gb209) (o := .cells #[.slice Ao107 t202.length co107, .slice Ao113 t205.length co113] 28 (0, 0)) (by (with_reducible repeat (first | refine blk_drewN ?_ _ | refine blk_drew ?_ | refine blk_alloc ?_ _)); exact BK209.out) hb); have n9_ := Aside0.mk (below_step (by repeat (first | (with_reducible first | exact HB.out | apply below_alloc | apply pw_below_drewN | apply below_drew1 | refine below_set ?_ GE182.out | refine below_set ?_ GE183.out | refine below_set ?_ GE194.out | refine below_set ?_ GE201.out | refine below_set ?_ GE209.out) | exact HB.out)) hb); have n10_ := Aside0.mk (hbox); have n11_ := Aside0.mk ((by rw [hg]; exact (below_size (by repeat (first | (with_reducible first | exact HB.out | apply below_alloc | apply pw_below_drewN | apply below_drew1 | refine below_set ?_ GE182.out | refine below_set ?_ GE183.out | refine below_set ?_ GE194.out | refine below_set ?_ GE201.out | refine below_set ?_ GE209.out) | exact HB.out))) : w.heap.size ≤ gb217)); have n12_ := Aside0.mk ((by rw [hg]; exact (below_size (by repeat (first | (with_reducible first | exact HB.out | apply below_alloc | apply pw_below_drewN | apply below_drew1 | refine below_set ?_ GE182.out | refine below_set ?_ GE183.out | refine below_set ?_ GE194.out | refine below_set ?_ GE201.out | refine below_set ?_ GE209.out) | exact HB.out))) : w.heap.size ≤ gb217)); have n13_ := Aside0.mk ((by rw [hg]; exact Nat.ne_of_lt (blk_lt (g := gb182) (o := .cells #[.slice A0_0 l0_0.length c0_0, .slice A0_1 l0_1.length c0_1] 25 (0, 0)) (by (with_reducible repeat (first | refine blk_drewN ?_ _ | refine blk_drew ?_ | refine blk_alloc ?_ _)); exact BK182.out)) : gb182 ≠ gb217)); have n14_ := Aside0.mk ((by rw [hg]; exact Nat.ne_of_gt (blk_lt (g := gb182) (o := .cells #[.slice A0_0 l0_0.length c0_0, .slice A0_1 l0_1.length c0_1] 25 (0, 0)) (by (with_reducible repeat (first | refine blk_drewN ?_ _ | refine blk_drew ?_ | refine blk_alloc ?_ _)); exact BK182.out)) : gb217 ≠ gb182)); have n15_ := Aside0.mk ((by rw [hg]; exact Nat.ne_of_lt (blk_lt (g := gb183) (o := .cells #[.slice A1_0 l1_0.length c1_0, .slice A1_1 l1_1.length c1_1] 28 (0, 0)) (by (with_reducible repeat (first | refine blk_drewN ?_ _ | refine blk_drew ?_ | refine blk_alloc ?_ _)); exact BK183.out)) : gb183 ≠ gb217)); have n16_ := Aside0.mk ((by rw [hg]; exact Nat.ne_of_gt (blk_lt (g := gb183) (o := .cells #[.slice A1_0 l1_0.length c1_0, .slice A1_1 l1_1.length c1_1] 28 (0, 0)) (by (with_reducible repeat (first | refine blk_drewN ?_ _ | refine blk_drew ?_ | refine blk_alloc ?_ _)); exact BK183.out)) : gb217 ≠ gb183)); have n17_ := Aside0.mk ((by rw [hg]; exact Nat.ne_of_lt (blk_lt (g := gb194) (o := .cells #[.int .i64 t188, .int .i64 t189, .int .i64 t190, .int .i64 t191, .int .i64 t192] 39 (0, 0)) (by (with_reducible repeat (first | refine blk_drewN ?_ _ | refine blk_drew ?_ | refine blk_alloc ?_ _)); exact BK194.out)) : gb194 ≠ gb217)); have n18_ := Aside0.mk ((by rw [hg]; exact Nat.ne_of_gt (blk_lt (g := gb194) (o := .cells #[.int .i64 t188, .int .i64 t189, .int .i64 t190, .int .i64 t191, .int .i64 t192] 39 (0, 0)) (by (with_reducible repeat (first | refine blk_drewN ?_ _ | refine blk_drew ?_ | refine blk_alloc ?_ _)); exact BK194.out)) : gb217 ≠ gb194)); have n19_ := Aside0.mk ((by rw [hg]; exact Nat.ne_of_lt (blk_lt (g := gb201) (o := .cells #[.int .i64 t195, .int .i64 t196, .int .i64 t197, .int .i64 t198, .int .i64 t199] 39 (0, 0)) (by (with_reducible repeat (first | refine blk_drewN ?_ _ | refine blk_drew ?_ | refine blk_alloc ?_ _)); exact BK201.out)) : gb201 ≠ gb217)); have n20_ := Aside0.mk ((by rw [hg]; exact Nat.ne_of_gt (blk_lt (g := gb201) (o := .cells #[.int .i64 t195, .int .i64 t196, .int .i64 t197, .int .i64 t198, .int .i64 t199] 39 (0, 0)) (by (with_reducible repeat (first | refine blk_drewN ?_ _ | refine blk_drew ?_ | refine blk_alloc ?_ _)); exact BK201.out)) : gb217 ≠ gb201)); have n21_ := Aside0.mk ((by rw [hg]; exact Nat.ne_of_lt (blk_lt (g := gb209) (o := .cells #[.slice Ao107 t202.length co107, .slice Ao113 t205.length co113] 28 (0, 0)) (by (with_reducible repeat (first | refine blk_drewN ?_ _ | refine blk_drew ?_ | refine blk_alloc ?_ _)); exact BK209.out)) : gb209 ≠ gb217)); have n22_ := Aside0.mk ((by rw [hg]; exact Nat.ne_of_gt (blk_lt (g := gb209) (o := .cells #[.slice Ao107 t202.length co107, .slice Ao113 t205.length co113] 28 (0, 0)) (by (with_reducible repeat (first | refine blk_drewN ?_ _ | refine blk_drew ?_ | refine blk_alloc ?_ _)); exact BK209.out)) : gb217 ≠ gb209)); clear HO204; clear HO207; clear HO212; clear HO215; clear BK182; clear BK183; clear BK194; clear BK201; clear BK209; clear HB; have HO204 := n0_; have HO207 := n1_; have HO212 := n2_; have HO215 := n3_; have BK182 := n4_; have BK183 := n5_; have BK194 := n6_; have BK201 := n7_; have BK209 := n8_; have HB := n9_; have BK217 := n10_; have GW217 := n11_; have GE217 := n12_; have NB182_217 := n13_; have NB217_182 := n14_; have NB183_217 := n15_; have NB217_183 := n16_; have NB194_217 := n17_; have NB217_194 := n18_; have NB201_217 := n19_; have NB217_201 := n20_; have NB209_217 := n21_; have NB217_209 := n22_; clear n0_ n1_ n2_ n3_ n4_ n5_ n6_ n7_ n8_ n9_ n10_ n11_ n12_ n13_ n14_ n15_ n16_ n17_ n18_ n19_ n20_ n21_ n22_; clear hb hbox hg; obtain ⟨Ao118, co118, eo118⟩ := Kd.V_slice HO212.out; subst eo118; have hnb119 := NB217_182.out; have hnc119 := NB182_217.out; have hnb120 := NB217_183.out; have hnc120 := NB183_217.out; have hnb121 := NB217_194.out; have hnc121 := NB194_217.out; have hnb122 := NB217_201.out; have hnc122 := NB201_217.out; have hnb123 := NB217_209.out; have hnc123 := NB209_217.out; have hcz124_0 : w117.cell? ⟨gb217, 0, none⟩ = some (.slice none 0 0) := (blk_cell BK217.out 0).trans rfl; have hcz124_1 : w117.cell? ⟨gb217, 1, none⟩ = some (.slice none 0 0) := (blk_cell BK217.out 1).trans rfl; have hfz124_0 := blk_frozen BK217.out 0; have hfz124_1 := blk_frozen BK217.out 1; obtain ⟨Ao125, co125, eo125⟩ := Kd.V_slice HO215.out; subst eo125))
            (try simp only [Act.put, List.setIfInBounds_toArray, List.set_cons_zero, List.set_cons_succ])
            go_cut [136] (fun v136 wc => ∃ (kq : Nat) (x136_96 : Bool), v136 = .bool x136_96 ∧ Aside0 (fencepostlaw10_ScSwap.j4 kq t184 (Int.tmod (wrap64 (a2)) (l1_1.length : Int)) (Int.tmod (wrap64 (a3)) (l1_1.length : Int)) x136_96 l0_0 l0_1 t202 t205 t210 t213 = some r) ∧ Aside0 (kq ≤ kj80) ∧ Aside0 (Kd.V (Kd.int .i64) 3 wc w.heap.size (fun k_ => k_ ≠ gb182 ∧ k_ ≠ gb183 ∧ k_ ≠ gb194 ∧ k_ ≠ gb201 ∧ k_ ≠ gb209 ∧ k_ ≠ gb217) (.slice Ao107 t202.length co107) t202) ∧ Aside0 (Kd.V k45 45 wc w.heap.size (fun k_ => k_ ≠ gb182 ∧ k_ ≠ gb183 ∧ k_ ≠ gb194 ∧ k_ ≠ gb201 ∧ k_ ≠ gb209 ∧ k_ ≠ gb217) (.slice Ao113 t205.length co113) t205) ∧ Aside0 (Kd.V (Kd.int .i64) 3 wc w.heap.size (fun k_ => k_ ≠ gb182 ∧ k_ ≠ gb183 ∧ k_ ≠ gb194 ∧ k_ ≠ gb201 ∧ k_ ≠ gb209 ∧ k_ ≠ gb217) (.slice Ao118 t210.length co118) t210) ∧ Aside0 (Kd.V k45 45 wc w.heap.size (fun k_ => k_ ≠ gb182 ∧ k_ ≠ gb183 ∧ k_ ≠ gb194 ∧ k_ ≠ gb201 ∧ k_ ≠ gb209 ∧ k_ ≠ gb217) (.slice Ao125 t213.length co125) t213) ∧ Aside0 (wc.heap[gb182]? = some (.cells #[(.slice A0_0 l0_0.length c0_0), (.slice A0_1 l0_1.length c0_1)] 25 (0, 0))) ∧ Aside0 (wc.heap[gb183]? = some (.cells #[(.slice A1_0 l1_0.length c1_0), (.slice A1_1 l1_1.length c1_1)] 28 (0, 0))) ∧ Aside0 (wc.heap[gb194]? = some (.cells #[.int .i64 t188, .int .i64 t189, .int .i64 t190, .int .i64 t191, .int .i64 t192] 39 (0, 0))) ∧ Aside0 (wc.heap[gb201]? = some (.cells #[.int .i64 t195, .int .i64 t196, .int .i64 t197, .int .i64 t198, .int .i64 t199] 39 (0, 0))) ∧ Aside0 (wc.heap[gb209]? = some (.cells #[(.slice Ao107 t202.length co107), (.slice Ao113 t205.length co113)] 28 (0, 0))) ∧ Aside0 (wc.heap[gb217]? = some (.cells #[(.slice Ao118 t210.length co118), (.slice Ao125 t213.length co125)] 28 (0, 0))) ∧ Aside0 (Below w.heap.size w wc))
            case first =>
             have H := HC97.out
             clear HC97
             replace H := Option.bind_eq_some_iff.mp H
             obtain ⟨t218, A1260, H⟩ := H
             replace H : (if t218 = true then ((fencepostref10_Right.f kj80 l0_0 l0_1 t210 t213).bind fun t219 => (fencepostlaw10_ScSwap.j4 kj80 t184 (Int.tmod (wrap64 (a2)) (l1_1.length : Int)) (Int.tmod (wrap64 (a3)) (l1_1.length : Int)) (!t219) l0_0 l0_1 t202 t205 t210 t213)) else (fencepostlaw10_ScSwap.j4 kj80 t184 (Int.tmod (wrap64 (a2)) (l1_1.length : Int)) (Int.tmod (wrap64 (a3)) (l1_1.length : Int)) true l0_0 l0_1 t202 t205 t210 t213)) = some r := H
             have A126 := Aside0.mk A1260
             clear A1260
             by_cases c127 : t218 = true
             ·subst c127
              have H1 : ((fencepostref10_Right.f kj80 l0_0 l0_1 t210 t213).bind fun t219 => (fencepostlaw10_ScSwap.j4 kj80 t184 (Int.tmod (wrap64 (a2)) (l1_1.length : Int)) (Int.tmod (wrap64 (a3)) (l1_1.length : Int)) (!t219) l0_0 l0_1 t202 t205 t210 t213)) = some r := by rw [if_pos rfl] at H; exact H
              clear H
              have H := H1
              clear H1
              replace H := Option.bind_eq_some_iff.mp H
              obtain ⟨t219, A1280, H⟩ := H
              replace H : (fencepostlaw10_ScSwap.j4 kj80 t184 (Int.tmod (wrap64 (a2)) (l1_1.length : Int)) (Int.tmod (wrap64 (a3)) (l1_1.length : Int)) (!t219) l0_0 l0_1 t202 t205 t210 t213) = some r := H
              have A128 := Aside0.mk A1280
              clear A1280
              have H' := Aside0.mk H
              clear H
              have hnb129 := NB182_183.out
              have hnc129 := NB183_182.out
              have hnb130 := NB182_194.out
              have hnc130 := NB194_182.out
              have hnb131 := NB182_201.out
              have hnc131 := NB201_182.out
              have hnb132 := NB182_209.out
              have hnc132 := NB209_182.out
              have hnb133 := NB182_217.out
              have hnc133 := NB217_182.out
              have hcz134_0 : w117.cell? ⟨gb182, 0, none⟩ = some (.slice A0_0 l0_0.length c0_0) := (blk_cell BK182.out 0).trans rfl
              have hcz134_1 : w117.cell? ⟨gb182, 1, none⟩ = some (.slice A0_1 l0_1.length c0_1) := (blk_cell BK182.out 1).trans rfl
              have hfz134_0 := blk_frozen BK182.out 0
              have hfz134_1 := blk_frozen BK182.out 1
              have hnb135 := NB209_183.out
              have hnc135 := NB183_209.out
              have hnb136 := NB209_194.out
              have hnc136 := NB194_209.out
              have hnb137 := NB209_201.out
              have hnc137 := NB201_209.out
              have hnb138 := NB209_217.out
              have hnc138 := NB217_209.out
              have hcz139_0 : w117.cell? ⟨gb209, 0, none⟩ = some (.slice Ao107 t202.length co107) := (blk_cell BK209.out 0).trans rfl
              have hcz139_1 : w117.cell? ⟨gb209, 1, none⟩ = some (.slice Ao113 t205.length co113) := (blk_cell BK209.out 1).trans rfl
              have hfz139_0 := blk_frozen BK209.out 0
              have hfz139_1 := blk_frozen BK209.out 1
              go_wp2_with (first | ((with_reducible refine gate_callee (f := 13) rfl ?_); refine goesL_ (some 129) rfl rfl Try.func13 (by kernel_rfl) rfl #[.agg #[.slice A0_0 l0_0.length c0_0, .slice A0_1 l0_1.length c0_1], .agg #[.slice Ao107 t202.length co107, .slice Ao113 t205.length co113]] rfl (by (try simp only [List.map_toArray, List.map_cons, List.map_nil]); first | done | rfl | (simp only [List.length_drop, List.length_take]; rfl)) ?_; (with_reducible refine (fencepostref10_Right.calls kj80 _ _ l0_0 _ _ l0_1 _ _ t202 _ _ t205 true _ ?side1 ?side2 ?side3 ?side4 ?side5 ?side6 ?side7 ?side8 A126.out).mono ?_); (case side1 => exact Kd.C_below HR0_0.out (by repeat (first | (with_reducible first | exact HB.out | apply below_alloc | apply pw_below_drewN | apply below_drew1 | refine below_set ?_ GE182.out | refine below_set ?_ GE183.out | refine below_set ?_ GE194.out | refine below_set ?_ GE201.out | refine below_set ?_ GE209.out | refine below_set ?_ GE217.out) | exact HB.out))); (case side2 => exact HC0_0.out); (case side3 => exact Kd.C_below HR0_1.out (by repeat (first | (with_reducible first | exact HB.out | apply below_alloc | apply pw_below_drewN | apply below_drew1 | refine below_set ?_ GE182.out | refine below_set ?_ GE183.out | refine below_set ?_ GE194.out | refine below_set ?_ GE201.out | refine below_set ?_ GE209.out | refine below_set ?_ GE217.out) | exact HB.out))); (case side4 => exact HC0_1.out); (case side5 => refine (Kd.V_reads' (e := 3) (base := w.heap.size) (ok := fun k_ => (((k_ ≠ gb182 ∧ (k_ ≠ gb183 ∧ (k_ ≠ gb194 ∧ k_ ≠ gb201))) ∧ k_ ≠ gb209) ∧ k_ ≠ gb217)) (n := t202.length) (c := co107) ?_).2.2; exact (by (with_reducible repeat (first | apply Kd.V_alloc | apply Kd.V_drewN | apply Kd.V_drew)); exact (Kd.V_mono (Kd.V_far (p := ⟨gb217, 1, none⟩) (Kd.V_far (p := ⟨gb217, 0, none⟩) (Kd.V_mono HO204.out (fun k_ hk => (⟨hk, hk.2⟩ : _ ∧ k_ ≠ gb217))) (fun _ hk => hk.2) (.slice Ao118 t210.length co118)) (fun _ hk => hk.2) (.slice Ao125 t213.length co125)) (fun _ h_ => h_.1)))); (case side6 => exact (Kd.V_reads' HO204.out).2.1); (case side7 => refine (Kd.V_reads' (e := 45) (base := w.heap.size) (ok := fun k_ => (((k_ ≠ gb182 ∧ (k_ ≠ gb183 ∧ (k_ ≠ gb194 ∧ k_ ≠ gb201))) ∧ k_ ≠ gb209) ∧ k_ ≠ gb217)) (n := t205.length) (c := co113) ?_).2.2; exact (by (with_reducible repeat (first | apply Kd.V_alloc | apply Kd.V_drewN | apply Kd.V_drew)); exact (Kd.V_mono (Kd.V_far (p := ⟨gb217, 1, none⟩) (Kd.V_far (p := ⟨gb217, 0, none⟩) (Kd.V_mono HO207.out (fun k_ hk => (⟨hk, hk.2⟩ : _ ∧ k_ ≠ gb217))) (fun _ hk => hk.2) (.slice Ao118 t210.length co118)) (fun _ hk => hk.2) (.slice Ao125 t213.length co125)) (fun _ h_ => h_.1)))); (case side8 => exact (Kd.V_reads' HO207.out).2.1); rintro e w140 ⟨rfl, hb⟩; refine ⟨_, rfl, ?_⟩; have n0_ := Aside0.mk (Kd.V_below (by (with_reducible repeat (first | apply Kd.V_alloc | apply Kd.V_drewN | apply Kd.V_drew)); exact (Kd.V_mono (Kd.V_far (p := ⟨gb217, 1, none⟩) (Kd.V_far (p := ⟨gb217, 0, none⟩) (Kd.V_mono HO204.out (fun k_ hk => (⟨hk, hk.2⟩ : _ ∧ k_ ≠ gb217))) (fun _ hk => hk.2) (.slice Ao118 t210.length co118)) (fun _ hk => hk.2) (.slice Ao125 t213.length co125)) (fun _ h_ => h_.1))) hb); have n1_ := Aside0.mk (Kd.V_below (by (with_reducible repeat (first | apply Kd.V_alloc | apply Kd.V_drewN | apply Kd.V_drew)); exact (Kd.V_mono (Kd.V_far (p := ⟨gb217, 1, none⟩) (Kd.V_far (p := ⟨gb217, 0, none⟩) (Kd.V_mono HO207.out (fun k_ hk => (⟨hk, hk.2⟩ : _ ∧ k_ ≠ gb217))) (fun _ hk => hk.2) (.slice Ao118 t210.length co118)) (fun _ hk => hk.2) (.slice Ao125 t213.length co125)) (fun _ h_ => h_.1))) hb); have n2_ := Aside0.mk (Kd.V_below (by (with_reducible repeat (first | apply Kd.V_alloc | apply Kd.V_drewN | apply Kd.V_drew)); exact (Kd.V_mono (Kd.V_far (p := ⟨gb217, 1, none⟩) (Kd.V_far (p := ⟨gb217, 0, none⟩) (Kd.V_mono HO212.out (fun k_ hk => (⟨hk, hk.2⟩ : _ ∧ k_ ≠ gb217))) (fun _ hk => hk.2) (.slice Ao118 t210.length co118)) (fun _ hk => hk.2) (.slice Ao125 t213.length co125)) (fun _ h_ => h_.1))) hb); have n3_ := Aside0.mk (Kd.V_below (by (with_reducible repeat (first | apply Kd.V_alloc | apply Kd.V_drewN | apply Kd.V_drew)); exact (Kd.V_mono (Kd.V_far (p := ⟨gb217, 1, none⟩) (Kd.V_far (p := ⟨gb217, 0, none⟩) (Kd.V_mono HO215.out (fun k_ hk => (⟨hk, hk.2⟩ : _ ∧ k_ ≠ gb217))) (fun _ hk => hk.2) (.slice Ao118 t210.length co118)) (fun _ hk => hk.2) (.slice Ao125 t213.length co125)) (fun _ h_ => h_.1))) hb); have n4_ := Aside0.mk (blk_below (g := gb182) (o := .cells #[.slice A0_0 l0_0.length c0_0, .slice A0_1 l0_1.length c0_1] 25 (0, 0)) (by (with_reducible repeat (first | refine blk_drewN ?_ _ | refine blk_drew ?_ | refine blk_alloc ?_ _)); refine blk_far ?_ NB182_217.out _; (with_reducible repeat (first | refine blk_drewN ?_ _ | refine blk_drew ?_ | refine blk_alloc ?_ _)); refine blk_far ?_ NB182_217.out _; (with_reducible repeat (first | refine blk_drewN ?_ _ | refine blk_drew ?_ | refine blk_alloc ?_ _)); exact BK182.out) hb); have n5_ := Aside0.mk (blk_below (g := gb183) (o := .cells #[.slice A1_0 l1_0.length c1_0, .slice A1_1 l1_1.length c1_1] 28 (0, 0)) (by (with_reducible repeat (first | refine blk_drewN ?_ _ | refine blk_drew ?_ | refine blk_alloc ?_ _)); refine blk_far ?_ NB183_217.out _; (with_reducible repeat (first | refine blk_drewN ?_ _ | refine blk_drew ?_ | refine blk_alloc ?_ _)); refine blk_far ?_ NB183_217.out _; (with_reducible repeat (first | refine blk_drewN ?_ _ | refine blk_drew ?_ | refine blk_alloc ?_ _)); exact BK183.out) hb); have n6_ := Aside0.mk (blk_below (g := gb194) (o := .cells #[.int .i64 t188, .int .i64 t189, .int .i64 t190, .int .i64 t191, .int .i64 t192] 39 (0, 0)) (by (with_reducible repeat (first | refine blk_drewN ?_ _ | refine blk_drew ?_ | refine blk_alloc ?_ _)); refine blk_far ?_ NB194_217.out _; (with_reducible repeat (first | refine blk_drewN ?_ _ | refine blk_drew ?_ | refine blk_alloc ?_ _)); refine blk_far ?_ NB194_217.out _; (with_reducible repeat (first | refine blk_drewN ?_ _ | refine blk_drew ?_ | refine blk_alloc ?_ _)); exact BK194.out) hb); have n7_ := Aside0.mk (blk_below (g := gb201) (o := .cells #[.int .i64 t195, .int .i64 t196, .int .i64 t197, .int .i64 t198, .int .i64 t199] 39 (0, 0)) (by (with_reducible repeat (first | refine blk_drewN ?_ _ | refine blk_drew ?_ | refine blk_alloc ?_ _)); refine blk_far ?_ NB201_217.out _; (with_reducible repeat (first | refine blk_drewN ?_ _ | refine blk_drew ?_ | refine blk_alloc ?_ _)); refine blk_far ?_ NB201_217.out _; (with_reducible repeat (first | refine blk_drewN ?_ _ | refine blk_drew ?_ | refine blk_alloc ?_ _)); exact BK201.out) hb); have n8_ := Aside0.mk (blk_below (g := gb209) (o := .cells #[.slice Ao107 t202.length co107, .slice Ao113 t205.length co113] 28 (0, 0)) (by (with_reducible repeat (first | refine blk_drewN ?_ _ | refine blk_drew ?_ | refine blk_alloc ?_ _)); refine blk_far ?_ NB209_217.out _; (with_reducible repeat (first | refine blk_drewN ?_ _ | refine blk_drew ?_ | refine blk_alloc ?_ _)); refine blk_far ?_ NB209_217.out _; (with_reducible repeat (first | refine blk_drewN ?_ _ | refine blk_drew ?_ | refine blk_alloc ?_ _)); exact BK209.out) hb); have n9_ := Aside0.mk (blk_below (g := gb217) (o := .cells #[.slice Ao118 t210.length co118, .slice Ao125 t213.length co125] 28 (0, 0)) (by (with_reducible repeat (first | refine blk_drewN ?_ _ | refine blk_drew ?_ | refine blk_alloc ?_ _)); refine blk_put (cs := #[.slice Ao118 t210.length co118, .slice none 0 0]) ?_ 1 _ rfl; (with_reducible repeat (first | refine blk_drewN ?_ _ | refine blk_drew ?_ | refine blk_alloc ?_ _)); refine blk_put (cs := #[.slice none 0 0, .slice none 0 0]) ?_ 0 _ rfl; (with_reducible repeat (first | refine blk_drewN ?_ _ | refine blk_drew ?_ | refine blk_alloc ?_ _)); exact BK217.out) hb); have n10_ := Aside0.mk (below_step (by repeat (first | (with_reducible first | exact HB.out | apply below_alloc | apply pw_below_drewN | apply below_drew1 | refine below_set ?_ GE182.out | refine below_set ?_ GE183.out | refine below_set ?_ GE194.out | refine below_set ?_ GE201.out | refine below_set ?_ GE209.out | refine below_set ?_ GE217.out) | exact HB.out)) hb); clear HO204; clear HO207; clear HO212; clear HO215; clear BK182; clear BK183; clear BK194; clear BK201; clear BK209; clear BK217; clear HB; have HO204 := n0_; have HO207 := n1_; have HO212 := n2_; have HO215 := n3_; have BK182 := n4_; have BK183 := n5_; have BK194 := n6_; have BK201 := n7_; have BK209 := n8_; have BK217 := n9_; have HB := n10_; clear n0_ n1_ n2_ n3_ n4_ n5_ n6_ n7_ n8_ n9_ n10_; (try clear hb); (try clear hb2); (try clear hk); (try clear hi); have hcz141_0 : w140.cell? ⟨gb182, 0, none⟩ = some (.slice A0_0 l0_0.length c0_0) := (blk_cell BK182.out 0).trans rfl; have hcz141_1 : w140.cell? ⟨gb182, 1, none⟩ = some (.slice A0_1 l0_1.length c0_1) := (blk_cell BK182.out 1).trans rfl; have hfz141_0 := blk_frozen BK182.out 0; have hfz141_1 := blk_frozen BK182.out 1; have hnb142 := NB217_183.out; have hnc142 := NB183_217.out; have hnb143 := NB217_194.out; have hnc143 := NB194_217.out; have hnb144 := NB217_201.out; have hnc144 := NB201_217.out; have hcz145_0 : w140.cell? ⟨gb217, 0, none⟩ = some (.slice Ao118 t210.length co118) := (blk_cell BK217.out 0).trans rfl; have hcz145_1 : w140.cell? ⟨gb217, 1, none⟩ = some (.slice Ao125 t213.length co125) := (blk_cell BK217.out 1).trans rfl; have hfz145_0 := blk_frozen BK217.out 0; have hfz145_1 := blk_frozen BK217.out 1) | (go_at_call 13; (with_reducible refine (fencepostref10_Right.calls kj80 _ _ l0_0 _ _ l0_1 _ _ t210 _ _ t213 t219 _ ?side1 ?side2 ?side3 ?side4 ?side5 ?side6 ?side7 ?side8 A128.out).mono ?_); (case side1 => repeat (first | exact (Kd.C_below HR0_0.out HB.out) | (with_reducible refine Kd.C_alloc ?_ _) | (with_reducible refine Kd.C_drewN ?_ _) | (with_reducible refine Kd.C_drew ?_))); (case side2 => exact HC0_0.out); (case side3 => repeat (first | exact (Kd.C_below HR0_1.out HB.out) | (with_reducible refine Kd.C_alloc ?_ _) | (with_reducible refine Kd.C_drewN ?_ _) | (with_reducible refine Kd.C_drew ?_))); (case side4 => exact HC0_1.out); (case side5 => repeat (first | exact (Kd.V_reads' HO212.out).2.2 | (with_reducible refine Kd.C_alloc ?_ _) | (with_reducible refine Kd.C_drewN ?_ _) | (with_reducible refine Kd.C_drew ?_))); (case side6 => exact (Kd.V_reads' HO212.out).2.1); (case side7 => repeat (first | exact (Kd.V_reads' HO215.out).2.2 | (with_reducible refine Kd.C_alloc ?_ _) | (with_reducible refine Kd.C_drewN ?_ _) | (with_reducible refine Kd.C_drew ?_))); (case side8 => exact (Kd.V_reads' HO215.out).2.1); rintro e w146 ⟨rfl, hb⟩; have n0_ := Aside0.mk (Kd.V_below (by (with_reducible repeat (first | apply Kd.V_alloc | apply Kd.V_drewN | apply Kd.V_drew)); exact HO204.out) hb); have n1_ := Aside0.mk (Kd.V_below (by (with_reducible repeat (first | apply Kd.V_alloc | apply Kd.V_drewN | apply Kd.V_drew)); exact HO207.out) hb); have n2_ := Aside0.mk (Kd.V_below (by (with_reducible repeat (first | apply Kd.V_alloc | apply Kd.V_drewN | apply Kd.V_drew)); exact HO212.out) hb); have n3_ := Aside0.mk (Kd.V_below (by (with_reducible repeat (first | apply Kd.V_alloc | apply Kd.V_drewN | apply Kd.V_drew)); exact HO215.out) hb); have n4_ := Aside0.mk (blk_below (g := gb182) (o := .cells #[.slice A0_0 l0_0.length c0_0, .slice A0_1 l0_1.length c0_1] 25 (0, 0)) (by (with_reducible repeat (first | refine blk_drewN ?_ _ | refine blk_drew ?_ | refine blk_alloc ?_ _)); exact BK182.out) hb); have n5_ := Aside0.mk (blk_below (g := gb183) (o := .cells #[.slice A1_0 l1_0.length c1_0, .slice A1_1 l1_1.length c1_1] 28 (0, 0)) (by (with_reducible repeat (first | refine blk_drewN ?_ _ | refine blk_drew ?_ | refine blk_alloc ?_ _)); exact BK183.out) hb); have n6_ := Aside0.mk (blk_below (g := gb194) (o := .cells #[.int .i64 t188, .int .i64 t189, .int .i64 t190, .int .i64 t191, .int .i64 t192] 39 (0, 0)) (by (with_reducible repeat (first | refine blk_drewN ?_ _ | refine blk_drew ?_ | refine blk_alloc ?_ _)); exact BK194.out) hb); have n7_ := Aside0.mk (blk_below (g := gb201) (o := .cells #[.int .i64 t195, .int .i64 t196, .int .i64 t197, .int .i64 t198, .int .i64 t199] 39 (0, 0)) (by (with_reducible repeat (first | refine blk_drewN ?_ _ | refine blk_drew ?_ | refine blk_alloc ?_ _)); exact BK201.out) hb); have n8_ := Aside0.mk (blk_below (g := gb209) (o := .cells #[.slice Ao107 t202.length co107, .slice Ao113 t205.length co113] 28 (0, 0)) (by (with_reducible repeat (first | refine blk_drewN ?_ _ | refine blk_drew ?_ | refine blk_alloc ?_ _)); exact BK209.out) hb); have n9_ := Aside0.mk (blk_below (g := gb217) (o := .cells #[.slice Ao118 t210.length co118, .slice Ao125 t213.length co125] 28 (0, 0)) (by (with_reducible repeat (first | refine blk_drewN ?_ _ | refine blk_drew ?_ | refine blk_alloc ?_ _)); exact BK217.out) hb); have n10_ := Aside0.mk (below_step (by repeat (first | (with_reducible first | exact HB.out | apply below_alloc | apply pw_below_drewN | apply below_drew1 | refine below_set ?_ GE182.out | refine below_set ?_ GE183.out | refine below_set ?_ GE194.out | refine below_set ?_ GE201.out | refine below_set ?_ GE209.out | refine below_set ?_ GE217.out) | exact HB.out)) hb); clear HO204; clear HO207; clear HO212; clear HO215; clear BK182; clear BK183; clear BK194; clear BK201; clear BK209; clear BK217; clear HB; have HO204 := n0_; have HO207 := n1_; have HO212 := n2_; have HO215 := n3_; have BK182 := n4_; have BK183 := n5_; have BK194 := n6_; have BK201 := n7_; have BK209 := n8_; have BK217 := n9_; have HB := n10_; clear n0_ n1_ n2_ n3_ n4_ n5_ n6_ n7_ n8_ n9_ n10_; (try clear hb); (try clear hb2); (try clear hk); (try clear hi)))
              go_meet
              case rel => exact ⟨_, (!t219), (by first | rfl | (simp; done) | (simp [*]; done)), H', ⟨by have := HJ5.out; have := HJ44.out; have := HJ70.out; have := HJ80.out; first | omega | exact Nat.le_refl _⟩, ⟨by (with_reducible repeat (first | apply Kd.V_alloc | apply Kd.V_drewN | apply Kd.V_drew)); exact Kd.V_mono HO204.out (fun _ hk => ⟨hk.1.1.1, ⟨hk.1.1.2.1, ⟨hk.1.1.2.2.1, ⟨hk.1.1.2.2.2, ⟨hk.1.2, hk.2⟩⟩⟩⟩⟩)⟩, ⟨by (with_reducible repeat (first | apply Kd.V_alloc | apply Kd.V_drewN | apply Kd.V_drew)); exact Kd.V_mono HO207.out (fun _ hk => ⟨hk.1.1.1, ⟨hk.1.1.2.1, ⟨hk.1.1.2.2.1, ⟨hk.1.1.2.2.2, ⟨hk.1.2, hk.2⟩⟩⟩⟩⟩)⟩, ⟨by (with_reducible repeat (first | apply Kd.V_alloc | apply Kd.V_drewN | apply Kd.V_drew)); exact Kd.V_mono HO212.out (fun _ hk => ⟨hk.1.1, ⟨hk.1.2.1, ⟨hk.1.2.2.1, ⟨hk.1.2.2.2.1, ⟨hk.1.2.2.2.2, hk.2⟩⟩⟩⟩⟩)⟩, ⟨by (with_reducible repeat (first | apply Kd.V_alloc | apply Kd.V_drewN | apply Kd.V_drew)); exact Kd.V_mono HO215.out (fun _ hk => ⟨hk.1.1, ⟨hk.1.2.1, ⟨hk.1.2.2.1, ⟨hk.1.2.2.2.1, ⟨hk.1.2.2.2.2, hk.2⟩⟩⟩⟩⟩)⟩, ⟨by (with_reducible repeat (first | refine blk_drewN ?_ _ | refine blk_drew ?_ | refine blk_alloc ?_ _)); exact BK182.out⟩, ⟨by (with_reducible repeat (first | refine blk_drewN ?_ _ | refine blk_drew ?_ | refine blk_alloc ?_ _)); exact BK183.out⟩, ⟨by (with_reducible repeat (first | refine blk_drewN ?_ _ | refine blk_drew ?_ | refine blk_alloc ?_ _)); exact BK194.out⟩, ⟨by (with_reducible repeat (first | refine blk_drewN ?_ _ | refine blk_drew ?_ | refine blk_alloc ?_ _)); exact BK201.out⟩, ⟨by (with_reducible repeat (first | refine blk_drewN ?_ _ | refine blk_drew ?_ | refine blk_alloc ?_ _)); exact BK209.out⟩, ⟨by (with_reducible repeat (first | refine blk_drewN ?_ _ | refine blk_drew ?_ | refine blk_alloc ?_ _)); exact BK217.out⟩, ⟨by repeat (first | (with_reducible first | exact HB.out | apply below_alloc | apply pw_below_drewN | apply below_drew1 | refine below_set ?_ GE182.out | refine below_set ?_ GE183.out | refine below_set ?_ GE194.out | refine below_set ?_ GE201.out | refine below_set ?_ GE209.out | refine below_set ?_ GE217.out) | exact HB.out)⟩⟩
             ·replace c127 := Bool.eq_false_iff.mpr c127
              subst c127
              have H1 : (fencepostlaw10_ScSwap.j4 kj80 t184 (Int.tmod (wrap64 (a2)) (l1_1.length : Int)) (Int.tmod (wrap64 (a3)) (l1_1.length : Int)) true l0_0 l0_1 t202 t205 t210 t213) = some r := by rw [if_neg (show ¬ (false = true) by decide)] at H; exact H
              clear H
              have H := H1
              clear H1
              have H' := Aside0.mk H
              clear H
              have hnb147 := NB182_183.out
              have hnc147 := NB183_182.out
              have hnb148 := NB182_194.out
              have hnc148 := NB194_182.out
              have hnb149 := NB182_201.out
              have hnc149 := NB201_182.out
              have hnb150 := NB182_209.out
              have hnc150 := NB209_182.out
              have hnb151 := NB182_217.out
              have hnc151 := NB217_182.out
              have hcz152_0 : w117.cell? ⟨gb182, 0, none⟩ = some (.slice A0_0 l0_0.length c0_0) := (blk_cell BK182.out 0).trans rfl
              have hcz152_1 : w117.cell? ⟨gb182, 1, none⟩ = some (.slice A0_1 l0_1.length c0_1) := (blk_cell BK182.out 1).trans rfl
              have hfz152_0 := blk_frozen BK182.out 0
              have hfz152_1 := blk_frozen BK182.out 1
              have hnb153 := NB209_183.out
              have hnc153 := NB183_209.out
              have hnb154 := NB209_194.out
              have hnc154 := NB194_209.out
              have hnb155 := NB209_201.out
              have hnc155 := NB201_209.out
              have hnb156 := NB209_217.out
              have hnc156 := NB217_209.out
              have hcz157_0 : w117.cell? ⟨gb209, 0, none⟩ = some (.slice Ao107 t202.length co107) := (blk_cell BK209.out 0).trans rfl
              have hcz157_1 : w117.cell? ⟨gb209, 1, none⟩ = some (.slice Ao113 t205.length co113) := (blk_cell BK209.out 1).trans rfl
              have hfz157_0 := blk_frozen BK209.out 0
              have hfz157_1 := blk_frozen BK209.out 1
              go_wp2_with (first | ((with_reducible refine gate_callee (f := 13) rfl ?_); refine goesL_ (some 129) rfl rfl Try.func13 (by kernel_rfl) rfl #[.agg #[.slice A0_0 l0_0.length c0_0, .slice A0_1 l0_1.length c0_1], .agg #[.slice Ao107 t202.length co107, .slice Ao113 t205.length co113]] rfl (by (try simp only [List.map_toArray, List.map_cons, List.map_nil]); first | done | rfl | (simp only [List.length_drop, List.length_take]; rfl)) ?_; (with_reducible refine (fencepostref10_Right.calls kj80 _ _ l0_0 _ _ l0_1 _ _ t202 _ _ t205 false _ ?side1 ?side2 ?side3 ?side4 ?side5 ?side6 ?side7 ?side8 A126.out).mono ?_); (case side1 => exact Kd.C_below HR0_0.out (by repeat (first | (with_reducible first | exact HB.out | apply below_alloc | apply pw_below_drewN | apply below_drew1 | refine below_set ?_ GE182.out | refine below_set ?_ GE183.out | refine below_set ?_ GE194.out | refine below_set ?_ GE201.out | refine below_set ?_ GE209.out | refine below_set ?_ GE217.out) | exact HB.out))); (case side2 => exact HC0_0.out); (case side3 => exact Kd.C_below HR0_1.out (by repeat (first | (with_reducible first | exact HB.out | apply below_alloc | apply pw_below_drewN | apply below_drew1 | refine below_set ?_ GE182.out | refine below_set ?_ GE183.out | refine below_set ?_ GE194.out | refine below_set ?_ GE201.out | refine below_set ?_ GE209.out | refine below_set ?_ GE217.out) | exact HB.out))); (case side4 => exact HC0_1.out); (case side5 => refine (Kd.V_reads' (e := 3) (base := w.heap.size) (ok := fun k_ => (((k_ ≠ gb182 ∧ (k_ ≠ gb183 ∧ (k_ ≠ gb194 ∧ k_ ≠ gb201))) ∧ k_ ≠ gb209) ∧ k_ ≠ gb217)) (n := t202.length) (c := co107) ?_).2.2; exact (by (with_reducible repeat (first | apply Kd.V_alloc | apply Kd.V_drewN | apply Kd.V_drew)); exact (Kd.V_mono (Kd.V_far (p := ⟨gb217, 1, none⟩) (Kd.V_far (p := ⟨gb217, 0, none⟩) (Kd.V_mono HO204.out (fun k_ hk => (⟨hk, hk.2⟩ : _ ∧ k_ ≠ gb217))) (fun _ hk => hk.2) (.slice Ao118 t210.length co118)) (fun _ hk => hk.2) (.slice Ao125 t213.length co125)) (fun _ h_ => h_.1)))); (case side6 => exact (Kd.V_reads' HO204.out).2.1); (case side7 => refine (Kd.V_reads' (e := 45) (base := w.heap.size) (ok := fun k_ => (((k_ ≠ gb182 ∧ (k_ ≠ gb183 ∧ (k_ ≠ gb194 ∧ k_ ≠ gb201))) ∧ k_ ≠ gb209) ∧ k_ ≠ gb217)) (n := t205.length) (c := co113) ?_).2.2; exact (by (with_reducible repeat (first | apply Kd.V_alloc | apply Kd.V_drewN | apply Kd.V_drew)); exact (Kd.V_mono (Kd.V_far (p := ⟨gb217, 1, none⟩) (Kd.V_far (p := ⟨gb217, 0, none⟩) (Kd.V_mono HO207.out (fun k_ hk => (⟨hk, hk.2⟩ : _ ∧ k_ ≠ gb217))) (fun _ hk => hk.2) (.slice Ao118 t210.length co118)) (fun _ hk => hk.2) (.slice Ao125 t213.length co125)) (fun _ h_ => h_.1)))); (case side8 => exact (Kd.V_reads' HO207.out).2.1); rintro e w158 ⟨rfl, hb⟩; refine ⟨_, rfl, ?_⟩; have n0_ := Aside0.mk (Kd.V_below (by (with_reducible repeat (first | apply Kd.V_alloc | apply Kd.V_drewN | apply Kd.V_drew)); exact (Kd.V_mono (Kd.V_far (p := ⟨gb217, 1, none⟩) (Kd.V_far (p := ⟨gb217, 0, none⟩) (Kd.V_mono HO204.out (fun k_ hk => (⟨hk, hk.2⟩ : _ ∧ k_ ≠ gb217))) (fun _ hk => hk.2) (.slice Ao118 t210.length co118)) (fun _ hk => hk.2) (.slice Ao125 t213.length co125)) (fun _ h_ => h_.1))) hb); have n1_ := Aside0.mk (Kd.V_below (by (with_reducible repeat (first | apply Kd.V_alloc | apply Kd.V_drewN | apply Kd.V_drew)); exact (Kd.V_mono (Kd.V_far (p := ⟨gb217, 1, none⟩) (Kd.V_far (p := ⟨gb217, 0, none⟩) (Kd.V_mono HO207.out (fun k_ hk => (⟨hk, hk.2⟩ : _ ∧ k_ ≠ gb217))) (fun _ hk => hk.2) (.slice Ao118 t210.length co118)) (fun _ hk => hk.2) (.slice Ao125 t213.length co125)) (fun _ h_ => h_.1))) hb); have n2_ := Aside0.mk (Kd.V_below (by (with_reducible repeat (first | apply Kd.V_alloc | apply Kd.V_drewN | apply Kd.V_drew)); exact (Kd.V_mono (Kd.V_far (p := ⟨gb217, 1, none⟩) (Kd.V_far (p := ⟨gb217, 0, none⟩) (Kd.V_mono HO212.out (fun k_ hk => (⟨hk, hk.2⟩ : _ ∧ k_ ≠ gb217))) (fun _ hk => hk.2) (.slice Ao118 t210.length co118)) (fun _ hk => hk.2) (.slice Ao125 t213.length co125)) (fun _ h_ => h_.1))) hb); have n3_ := Aside0.mk (Kd.V_below (by (with_reducible repeat (first | apply Kd.V_alloc | apply Kd.V_drewN | apply Kd.V_drew)); exact (Kd.V_mono (Kd.V_far (p := ⟨gb217, 1, none⟩) (Kd.V_far (p := ⟨gb217, 0, none⟩) (Kd.V_mono HO215.out (fun k_ hk => (⟨hk, hk.2⟩ : _ ∧ k_ ≠ gb217))) (fun _ hk => hk.2) (.slice Ao118 t210.length co118)) (fun _ hk => hk.2) (.slice Ao125 t213.length co125)) (fun _ h_ => h_.1))) hb); have n4_ := Aside0.mk (blk_below (g := gb182) (o := .cells #[.slice A0_0 l0_0.length c0_0, .slice A0_1 l0_1.length c0_1] 25 (0, 0)) (by (with_reducible repeat (first | refine blk_drewN ?_ _ | refine blk_drew ?_ | refine blk_alloc ?_ _)); refine blk_far ?_ NB182_217.out _; (with_reducible repeat (first | refine blk_drewN ?_ _ | refine blk_drew ?_ | refine blk_alloc ?_ _)); refine blk_far ?_ NB182_217.out _; (with_reducible repeat (first | refine blk_drewN ?_ _ | refine blk_drew ?_ | refine blk_alloc ?_ _)); exact BK182.out) hb); have n5_ := Aside0.mk (blk_below (g := gb183) (o := .cells #[.slice A1_0 l1_0.length c1_0, .slice A1_1 l1_1.length c1_1] 28 (0, 0)) (by (with_reducible repeat (first | refine blk_drewN ?_ _ | refine blk_drew ?_ | refine blk_alloc ?_ _)); refine blk_far ?_ NB183_217.out _; (with_reducible repeat (first | refine blk_drewN ?_ _ | refine blk_drew ?_ | refine blk_alloc ?_ _)); refine blk_far ?_ NB183_217.out _; (with_reducible repeat (first | refine blk_drewN ?_ _ | refine blk_drew ?_ | refine blk_alloc ?_ _)); exact BK183.out) hb); have n6_ := Aside0.mk (blk_below (g := gb194) (o := .cells #[.int .i64 t188, .int .i64 t189, .int .i64 t190, .int .i64 t191, .int .i64 t192] 39 (0, 0)) (by (with_reducible repeat (first | refine blk_drewN ?_ _ | refine blk_drew ?_ | refine blk_alloc ?_ _)); refine blk_far ?_ NB194_217.out _; (with_reducible repeat (first | refine blk_drewN ?_ _ | refine blk_drew ?_ | refine blk_alloc ?_ _)); refine blk_far ?_ NB194_217.out _; (with_reducible repeat (first | refine blk_drewN ?_ _ | refine blk_drew ?_ | refine blk_alloc ?_ _)); exact BK194.out) hb); have n7_ := Aside0.mk (blk_below (g := gb201) (o := .cells #[.int .i64 t195, .int .i64 t196, .int .i64 t197, .int .i64 t198, .int .i64 t199] 39 (0, 0)) (by (with_reducible repeat (first | refine blk_drewN ?_ _ | refine blk_drew ?_ | refine blk_alloc ?_ _)); refine blk_far ?_ NB201_217.out _; (with_reducible repeat (first | refine blk_drewN ?_ _ | refine blk_drew ?_ | refine blk_alloc ?_ _)); refine blk_far ?_ NB201_217.out _; (with_reducible repeat (first | refine blk_drewN ?_ _ | refine blk_drew ?_ | refine blk_alloc ?_ _)); exact BK201.out) hb); have n8_ := Aside0.mk (blk_below (g := gb209) (o := .cells #[.slice Ao107 t202.length co107, .slice Ao113 t205.length co113] 28 (0, 0)) (by (with_reducible repeat (first | refine blk_drewN ?_ _ | refine blk_drew ?_ | refine blk_alloc ?_ _)); refine blk_far ?_ NB209_217.out _; (with_reducible repeat (first | refine blk_drewN ?_ _ | refine blk_drew ?_ | refine blk_alloc ?_ _)); refine blk_far ?_ NB209_217.out _; (with_reducible repeat (first | refine blk_drewN ?_ _ | refine blk_drew ?_ | refine blk_alloc ?_ _)); exact BK209.out) hb); have n9_ := Aside0.mk (blk_below (g := gb217) (o := .cells #[.slice Ao118 t210.length co118, .slice Ao125 t213.length co125] 28 (0, 0)) (by (with_reducible repeat (first | refine blk_drewN ?_ _ | refine blk_drew ?_ | refine blk_alloc ?_ _)); refine blk_put (cs := #[.slice Ao118 t210.length co118, .slice none 0 0]) ?_ 1 _ rfl; (with_reducible repeat (first | refine blk_drewN ?_ _ | refine blk_drew ?_ | refine blk_alloc ?_ _)); refine blk_put (cs := #[.slice none 0 0, .slice none 0 0]) ?_ 0 _ rfl; (with_reducible repeat (first | refine blk_drewN ?_ _ | refine blk_drew ?_ | refine blk_alloc ?_ _)); exact BK217.out) hb); have n10_ := Aside0.mk (below_step (by repeat (first | (with_reducible first | exact HB.out | apply below_alloc | apply pw_below_drewN | apply below_drew1 | refine below_set ?_ GE182.out | refine below_set ?_ GE183.out | refine below_set ?_ GE194.out | refine below_set ?_ GE201.out | refine below_set ?_ GE209.out | refine below_set ?_ GE217.out) | exact HB.out)) hb); clear HO204; clear HO207; clear HO212; clear HO215; clear BK182; clear BK183; clear BK194; clear BK201; clear BK209; clear BK217; clear HB; have HO204 := n0_; have HO207 := n1_; have HO212 := n2_; have HO215 := n3_; have BK182 := n4_; have BK183 := n5_; have BK194 := n6_; have BK201 := n7_; have BK209 := n8_; have BK217 := n9_; have HB := n10_; clear n0_ n1_ n2_ n3_ n4_ n5_ n6_ n7_ n8_ n9_ n10_; (try clear hb); (try clear hb2); (try clear hk); (try clear hi)))
              go_meet
              case rel => exact ⟨_, (true), (by first | rfl | (simp; done) | (simp [*]; done)), H', ⟨by have := HJ5.out; have := HJ44.out; have := HJ70.out; have := HJ80.out; first | omega | exact Nat.le_refl _⟩, ⟨by (with_reducible repeat (first | apply Kd.V_alloc | apply Kd.V_drewN | apply Kd.V_drew)); exact Kd.V_mono HO204.out (fun _ hk => ⟨hk.1.1.1, ⟨hk.1.1.2.1, ⟨hk.1.1.2.2.1, ⟨hk.1.1.2.2.2, ⟨hk.1.2, hk.2⟩⟩⟩⟩⟩)⟩, ⟨by (with_reducible repeat (first | apply Kd.V_alloc | apply Kd.V_drewN | apply Kd.V_drew)); exact Kd.V_mono HO207.out (fun _ hk => ⟨hk.1.1.1, ⟨hk.1.1.2.1, ⟨hk.1.1.2.2.1, ⟨hk.1.1.2.2.2, ⟨hk.1.2, hk.2⟩⟩⟩⟩⟩)⟩, ⟨by (with_reducible repeat (first | apply Kd.V_alloc | apply Kd.V_drewN | apply Kd.V_drew)); exact Kd.V_mono HO212.out (fun _ hk => ⟨hk.1.1, ⟨hk.1.2.1, ⟨hk.1.2.2.1, ⟨hk.1.2.2.2.1, ⟨hk.1.2.2.2.2, hk.2⟩⟩⟩⟩⟩)⟩, ⟨by (with_reducible repeat (first | apply Kd.V_alloc | apply Kd.V_drewN | apply Kd.V_drew)); exact Kd.V_mono HO215.out (fun _ hk => ⟨hk.1.1, ⟨hk.1.2.1, ⟨hk.1.2.2.1, ⟨hk.1.2.2.2.1, ⟨hk.1.2.2.2.2, hk.2⟩⟩⟩⟩⟩)⟩, ⟨by (with_reducible repeat (first | refine blk_drewN ?_ _ | refine blk_drew ?_ | refine blk_alloc ?_ _)); exact BK182.out⟩, ⟨by (with_reducible repeat (first | refine blk_drewN ?_ _ | refine blk_drew ?_ | refine blk_alloc ?_ _)); exact BK183.out⟩, ⟨by (with_reducible repeat (first | refine blk_drewN ?_ _ | refine blk_drew ?_ | refine blk_alloc ?_ _)); exact BK194.out⟩, ⟨by (with_reducible repeat (first | refine blk_drewN ?_ _ | refine blk_drew ?_ | refine blk_alloc ?_ _)); exact BK201.out⟩, ⟨by (with_reducible repeat (first | refine blk_drewN ?_ _ | refine blk_drew ?_ | refine blk_alloc ?_ _)); exact BK209.out⟩, ⟨by (with_reducible repeat (first | refine blk_drewN ?_ _ | refine blk_drew ?_ | refine blk_alloc ?_ _)); exact BK217.out⟩, ⟨by repeat (first | (with_reducible first | exact HB.out | apply below_alloc | apply pw_below_drewN | apply below_drew1 | refine below_set ?_ GE182.out | refine below_set ?_ GE183.out | refine below_set ?_ GE194.out | refine below_set ?_ GE201.out | refine below_set ?_ GE209.out | refine below_set ?_ GE217.out) | exact HB.out)⟩⟩
            case rest =>
             clear HC97
             try clear c1
             try clear c2
             try clear p2
             try clear c3
             try clear c4
             try clear c5
             try clear c6
             try clear p6
             try clear c7
             try clear c8
             try clear c9
             try clear c10
             try clear c11
             try clear c12
             try clear c13
             try clear c14
             try clear c15
             try clear c16
             try clear c17
             try clear c19
             try clear c23
             try clear c24
             try clear c33
             try clear c41
             try clear c42
             try clear c42b0
             try clear c42b1
             try clear c42b2
             try clear c46
             try clear c51
             try clear c52
             try clear c58
             try clear c59
             try clear c60
             try clear c62
             try clear c62b0
             try clear c63
             try clear c64
             try clear p64
             try clear c65
             try clear c67
             try clear c68
             try clear c69
             try clear c72
             try clear c72b0
             try clear c73
             try clear c74
             try clear c75
             try clear c77
             try clear c78
             try clear c79
             try clear c82
             try clear c82b0
             try clear c82b1
             try clear c83
             try clear c84
             try clear c85
             try clear c86
             try clear c87
             try clear c88
             try clear c89
             try clear c91
             try clear c92
             try clear c94
             try clear c98
             try clear c99
             try clear c100
             try clear c102
             try clear c103
             try clear c108
             try clear c109
             try clear c110
             try clear c111
             try clear c119
             try clear c120
             try clear c121
             try clear c122
             try clear c123
             try clear c127
             try clear c129
             try clear c130
             try clear c131
             try clear c132
             try clear c133
             try clear c135
             try clear c136
             try clear c137
             try clear c138
             try clear c142
             try clear c143
             try clear c144
             try clear c147
             try clear c148
             try clear c149
             try clear c150
             try clear c151
             try clear c153
             try clear c154
             try clear c155
             try clear c156
             try clear hcz101_0
             try clear hcz101_1
             try clear hcz104_0
             try clear hcz104_1
             try clear hcz112_0
             try clear hcz112_1
             try clear hcz114_0
             try clear hcz114_1
             try clear hcz115_0
             try clear hcz115_1
             try clear hcz124_0
             try clear hcz124_1
             try clear hcz134_0
             try clear hcz134_1
             try clear hcz139_0
             try clear hcz139_1
             try clear hcz13_0
             try clear hcz13_1
             try clear hcz141_0
             try clear hcz141_1
             try clear hcz145_0
             try clear hcz145_1
             try clear hcz152_0
             try clear hcz152_1
             try clear hcz157_0
             try clear hcz157_1
             try clear hcz18_0
             try clear hcz18_1
             try clear hcz20_0
             try clear hcz20_1
             try clear hcz25_0
             try clear hcz25_1
             try clear hcz27_0
             try clear hcz27_1
             try clear hcz29_0
             try clear hcz29_1
             try clear hcz30_0
             try clear hcz30_1
             try clear hcz32_0
             try clear hcz32_1
             try clear hcz34_0
             try clear hcz34_1
             try clear hcz36_0
             try clear hcz36_1
             try clear hcz38_0
             try clear hcz38_1
             try clear hcz39_0
             try clear hcz39_1
             try clear hcz47_0
             try clear hcz47_1
             try clear hcz48_0
             try clear hcz48_1
             try clear hcz53_0
             try clear hcz53_1
             try clear hcz53_2
             try clear hcz53_3
             try clear hcz53_4
             try clear hcz54_0
             try clear hcz54_1
             try clear hcz55_0
             try clear hcz55_1
             try clear hcz61_0
             try clear hcz61_1
             try clear hcz61_2
             try clear hcz61_3
             try clear hcz61_4
             try clear hcz66_0
             try clear hcz66_1
             try clear hcz66_2
             try clear hcz66_3
             try clear hcz66_4
             try clear hcz70_0
             try clear hcz70_1
             try clear hcz70_2
             try clear hcz70_3
             try clear hcz70_4
             try clear hcz76_0
             try clear hcz76_1
             try clear hcz76_2
             try clear hcz76_3
             try clear hcz76_4
             try clear hcz80_0
             try clear hcz80_1
             try clear hcz80_2
             try clear hcz80_3
             try clear hcz80_4
             try clear hcz90_0
             try clear hcz90_1
             try clear hcz90_2
             try clear hcz90_3
             try clear hcz90_4
             try clear hcz93_0
             try clear hcz93_1
             try clear hcz93_2
             try clear hcz93_3
             try clear hcz93_4
             try clear hfz101_0
             try clear hfz101_1
             try clear hfz104_0
             try clear hfz104_1
             try clear hfz112_0
             try clear hfz112_1
             try clear hfz114_0
             try clear hfz114_1
             try clear hfz115_0
             try clear hfz115_1
             try clear hfz124_0
             try clear hfz124_1
             try clear hfz134_0
             try clear hfz134_1
             try clear hfz139_0
             try clear hfz139_1
             try clear hfz13_0
             try clear hfz13_1
             try clear hfz141_0
             try clear hfz141_1
             try clear hfz145_0
             try clear hfz145_1
             try clear hfz152_0
             try clear hfz152_1
             try clear hfz157_0
             try clear hfz157_1
             try clear hfz18_0
             try clear hfz18_1
             try clear hfz20_0
             try clear hfz20_1
             try clear hfz25_0
             try clear hfz25_1
             try clear hfz27_0
             try clear hfz27_1
             try clear hfz29_0
             try clear hfz29_1
             try clear hfz30_0
             try clear hfz30_1
             try clear hfz32_0
             try clear hfz32_1
             try clear hfz34_0
             try clear hfz34_1
             try clear hfz36_0
             try clear hfz36_1
             try clear hfz38_0
             try clear hfz38_1
             try clear hfz39_0
             try clear hfz39_1
             try clear hfz47_0
             try clear hfz47_1
             try clear hfz48_0
             try clear hfz48_1
             try clear hfz53_0
             try clear hfz53_1
             try clear hfz53_2
             try clear hfz53_3
             try clear hfz53_4
             try clear hfz54_0
             try clear hfz54_1
             try clear hfz55_0
             try clear hfz55_1
             try clear hfz61_0
             try clear hfz61_1
             try clear hfz61_2
             try clear hfz61_3
             try clear hfz61_4
             try clear hfz66_0
             try clear hfz66_1
             try clear hfz66_2
             try clear hfz66_3
             try clear hfz66_4
             try clear hfz70_0
             try clear hfz70_1
             try clear hfz70_2
             try clear hfz70_3
             try clear hfz70_4
             try clear hfz76_0
             try clear hfz76_1
             try clear hfz76_2
             try clear hfz76_3
             try clear hfz76_4
             try clear hfz80_0
             try clear hfz80_1
             try clear hfz80_2
             try clear hfz80_3
             try clear hfz80_4
             try clear hfz90_0
             try clear hfz90_1
             try clear hfz90_2
             try clear hfz90_3
             try clear hfz90_4
             try clear hfz93_0
             try clear hfz93_1
             try clear hfz93_2
             try clear hfz93_3
             try clear hfz93_4
             try clear p2
             try clear p6
             try clear p64
             obtain ⟨kq, x136_96, rfl, HA, HJ96, HO_210000, HO_210001, HO_218000, HO_218001, BK182, BK183, BK194, BK201, BK209, BK217, HB⟩ := hcut
             cases kq with
             | zero => exact absurd HA.out (by simp [fencepostlaw10_ScSwap.j4])
             | succ kj96 =>
              have H := HA.out
              clear HA
              simp only [fencepostlaw10_ScSwap.j4] at H
              by_cases c159 : x136_96 = true
              ·subst c159
               have H1 : (some false) = some r := by rw [if_pos rfl] at H; exact H
               clear H
               have H := H1
               clear H1
               exact absurd ((Option.some.inj H).trans HT.out) (by simp)
              ·replace c159 := Bool.eq_false_iff.mpr c159
               subst c159
               have H1 : ((sc_Step.f l0_0 l0_1 t202 t205 (Int.tmod (wrap64 (a3)) (l1_1.length : Int))).bind fun bt220 => ((sc_Step.f l0_0 l0_1 t210 t213 (Int.tmod (wrap64 (a2)) (l1_1.length : Int))).bind fun bt228 => (if t184 = true then (if bt220.2.2 = true then (if bt228.2.2 = true then ((fencepostref10_Same.f kj96 bt220.1 bt220.2.1 bt228.1 bt228.2.1).bind fun t236 => (some t236)) else (some false)) else (some false)) else (some false)))) = some r := by rw [if_neg (show ¬ (false = true) by decide)] at H; exact H
               clear H
               have H := H1
               clear H1
               replace H := Option.bind_eq_some_iff.mp H
               obtain ⟨⟨t220, t223, t226⟩, A1600, H⟩ := H
               replace H : ((sc_Step.f l0_0 l0_1 t210 t213 (Int.tmod (wrap64 (a2)) (l1_1.length : Int))).bind fun bt228 => (if t184 = true then (if t226 = true then (if bt228.2.2 = true then ((fencepostref10_Same.f kj96 t220 t223 bt228.1 bt228.2.1).bind fun t236 => (some t236)) else (some false)) else (some false)) else (some false))) = some r := H
               have A160 := Aside0.mk A1600
               clear A1600
               replace H := Option.bind_eq_some_iff.mp H
               obtain ⟨⟨t228, t231, t234⟩, A1610, H⟩ := H
               replace H : (if t184 = true then (if t226 = true then (if t234 = true then ((fencepostref10_Same.f kj96 t220 t223 t228 t231).bind fun t236 => (some t236)) else (some false)) else (some false)) else (some false)) = some r := H
               have A161 := Aside0.mk A1610
               clear A1610
               by_cases c162 : t184 = true
               ·subst c162
                have H1 : (if t226 = true then (if t234 = true then ((fencepostref10_Same.f kj96 t220 t223 t228 t231).bind fun t236 => (some t236)) else (some false)) else (some false)) = some r := by rw [if_pos rfl] at H; exact H
                clear H
                have H := H1
                clear H1
                by_cases c163 : t226 = true
                ·subst c163
                 have H1 : (if t234 = true then ((fencepostref10_Same.f kj96 t220 t223 t228 t231).bind fun t236 => (some t236)) else (some false)) = some r := by rw [if_pos rfl] at H; exact H
                 clear H
                 have H := H1
                 clear H1
                 by_cases c164 : t234 = true
                 ·subst c164
                  have H1 : ((fencepostref10_Same.f kj96 t220 t223 t228 t231).bind fun t236 => (some t236)) = some r := by rw [if_pos rfl] at H; exact H
                  clear H
                  have H := H1
                  clear H1
                  replace H := Option.bind_eq_some_iff.mp H
                  obtain ⟨t236, A1650, H⟩ := H
                  replace H : (some t236) = some r := H
                  have A165 := Aside0.mk A1650
                  clear A1650
                  obtain rfl := Option.some.inj H
                  have hnb166 := NB182_183.out
                  have hnc166 := NB183_182.out
                  have hnb167 := NB182_194.out
                  have hnc167 := NB194_182.out
                  have hnb168 := NB182_201.out
                  have hnc168 := NB201_182.out
                  have hnb169 := NB182_209.out
                  have hnc169 := NB209_182.out
                  have hnb170 := NB182_217.out
                  have hnc170 := NB217_182.out
                  have hcz171_0 : wc.cell? ⟨gb182, 0, none⟩ = some (.slice A0_0 l0_0.length c0_0) := (blk_cell BK182.out 0).trans rfl
                  have hcz171_1 : wc.cell? ⟨gb182, 1, none⟩ = some (.slice A0_1 l0_1.length c0_1) := (blk_cell BK182.out 1).trans rfl
                  have hfz171_0 := blk_frozen BK182.out 0
                  have hfz171_1 := blk_frozen BK182.out 1
                  have hnb172 := NB209_183.out
                  have hnc172 := NB183_209.out
                  have hnb173 := NB209_194.out
                  have hnc173 := NB194_209.out
                  have hnb174 := NB209_201.out
                  have hnc174 := NB201_209.out
                  have hnb175 := NB209_217.out
                  have hnc175 := NB217_209.out
                  have hcz176_0 : wc.cell? ⟨gb209, 0, none⟩ = some (.slice Ao107 t202.length co107) := (blk_cell BK209.out 0).trans rfl
                  have hcz176_1 : wc.cell? ⟨gb209, 1, none⟩ = some (.slice Ao113 t205.length co113) := (blk_cell BK209.out 1).trans rfl
                  have hfz176_0 := blk_frozen BK209.out 0
                  have hfz176_1 := blk_frozen BK209.out 1
                  go_wp2_with (first | ((with_reducible refine gate_callee (f := 17) rfl ?_); refine goesL_ (some 141) rfl rfl Try.func17 (by kernel_rfl) rfl #[.agg #[.slice A0_0 l0_0.length c0_0, .slice A0_1 l0_1.length c0_1], .agg #[.slice Ao107 t202.length co107, .slice Ao113 t205.length co113], .int .i64 (Int.tmod (wrap64 (a3)) (l1_1.length : Int))] rfl (by (try simp only [List.map_toArray, List.map_cons, List.map_nil]); first | done | rfl | (simp only [List.length_drop, List.length_take]; rfl)) ?_; (with_reducible refine (sc_Step.calls _ _ l0_0 _ _ l0_1 _ _ t202 _ _ t205 (Int.tmod (wrap64 (a3)) (l1_1.length : Int)) t220 t223 true _ ?side1 ?side2 ?side3 ?side4 ?side5 ?side6 ?side7 ?side8 A160.out).mono ?_); (case side1 => repeat (first | exact (Kd.C_below HR0_0.out HB.out) | (with_reducible refine Kd.C_alloc ?_ _) | (with_reducible refine Kd.C_drewN ?_ _) | (with_reducible refine Kd.C_drew ?_))); (case side2 => exact HC0_0.out); (case side3 => repeat (first | exact (Kd.C_below HR0_1.out HB.out) | (with_reducible refine Kd.C_alloc ?_ _) | (with_reducible refine Kd.C_drewN ?_ _) | (with_reducible refine Kd.C_drew ?_))); (case side4 => exact HC0_1.out); (case side5 => repeat (first | exact (Kd.V_reads' HO_210000.out).2.2 | (with_reducible refine Kd.C_alloc ?_ _) | (with_reducible refine Kd.C_drewN ?_ _) | (with_reducible refine Kd.C_drew ?_))); (case side6 => exact (Kd.V_reads' HO_210000.out).2.1); (case side7 => repeat (first | exact (Kd.V_reads' HO_210001.out).2.2 | (with_reducible refine Kd.C_alloc ?_ _) | (with_reducible refine Kd.C_drewN ?_ _) | (with_reducible refine Kd.C_drew ?_))); (case side8 => exact (Kd.V_reads' HO_210001.out).2.1); rintro e w177 ⟨v221, v224, rfl, ho0, ho1, hb⟩; refine ⟨_, rfl, ?_⟩; have n0_ := Aside0.mk (Kd.V_below (by (with_reducible repeat (first | apply Kd.V_alloc | apply Kd.V_drewN | apply Kd.V_drew)); exact HO_210000.out) hb); have n1_ := Aside0.mk (Kd.V_below (by (with_reducible repeat (first | apply Kd.V_alloc | apply Kd.V_drewN | apply Kd.V_drew)); exact HO_210001.out) hb); have n2_ := Aside0.mk (Kd.V_below (by (with_reducible repeat (first | apply Kd.V_alloc | apply Kd.V_drewN | apply Kd.V_drew)); exact HO_218000.out) hb); have n3_ := Aside0.mk (Kd.V_below (by (with_reducible repeat (first | apply Kd.V_alloc | apply Kd.V_drewN | apply Kd.V_drew)); exact HO_218001.out) hb); have n4_ := Aside0.mk (Kd.V_lower (Kd.V_mono (ok' := fun k_ => k_ ≠ gb182 ∧ k_ ≠ gb183 ∧ k_ ≠ gb194 ∧ k_ ≠ gb201 ∧ k_ ≠ gb209 ∧ k_ ≠ gb217) ho0 (fun k_ hk_ => ⟨(Kd.freshB (g := gb182) (o := .cells #[.slice A0_0 l0_0.length c0_0, .slice A0_1 l0_1.length c0_1] 25 (0, 0)) (by (with_reducible repeat (first | refine blk_drewN ?_ _ | refine blk_drew ?_ | refine blk_alloc ?_ _)); exact BK182.out) k_ hk_), (Kd.freshB (g := gb183) (o := .cells #[.slice A1_0 l1_0.length c1_0, .slice A1_1 l1_1.length c1_1] 28 (0, 0)) (by (with_reducible repeat (first | refine blk_drewN ?_ _ | refine blk_drew ?_ | refine blk_alloc ?_ _)); exact BK183.out) k_ hk_), (Kd.freshB (g := gb194) (o := .cells #[.int .i64 t188, .int .i64 t189, .int .i64 t190, .int .i64 t191, .int .i64 t192] 39 (0, 0)) (by (with_reducible repeat (first | refine blk_drewN ?_ _ | refine blk_drew ?_ | refine blk_alloc ?_ _)); exact BK194.out) k_ hk_), (Kd.freshB (g := gb201) (o := .cells #[.int .i64 t195, .int .i64 t196, .int .i64 t197, .int .i64 t198, .int .i64 t199] 39 (0, 0)) (by (with_reducible repeat (first | refine blk_drewN ?_ _ | refine blk_drew ?_ | refine blk_alloc ?_ _)); exact BK201.out) k_ hk_), (Kd.freshB (g := gb209) (o := .cells #[.slice Ao107 t202.length co107, .slice Ao113 t205.length co113] 28 (0, 0)) (by (with_reducible repeat (first | refine blk_drewN ?_ _ | refine blk_drew ?_ | refine blk_alloc ?_ _)); exact BK209.out) k_ hk_), (Kd.freshB (g := gb217) (o := .cells #[.slice Ao118 t210.length co118, .slice Ao125 t213.length co125] 28 (0, 0)) (by (with_reducible repeat (first | refine blk_drewN ?_ _ | refine blk_drew ?_ | refine blk_alloc ?_ _)); exact BK217.out) k_ hk_)⟩)) (below_size (by repeat (first | (with_reducible first | exact HB.out | apply below_alloc | apply pw_below_drewN | apply below_drew1 | refine below_set ?_ GE182.out | refine below_set ?_ GE183.out | refine below_set ?_ GE194.out | refine below_set ?_ GE201.out | refine below_set ?_ GE209.out | refine below_set ?_ GE217.out) | exact HB.out)))); have n5_ := Aside0.mk (Kd.V_lower (Kd.V_mono (ok' := fun k_ => k_ ≠ gb182 ∧ k_ ≠ gb183 ∧ k_ ≠ gb194 ∧ k_ ≠ gb201 ∧ k_ ≠ gb209 ∧ k_ ≠ gb217) ho1 (fun k_ hk_ => ⟨(Kd.freshB (g := gb182) (o := .cells #[.slice A0_0 l0_0.length c0_0, .slice A0_1 l0_1.length c0_1] 25 (0, 0)) (by (with_reducible repeat (first | refine blk_drewN ?_ _ | refine blk_drew ?_ | refine blk_alloc ?_ _)); exact BK182.out) k_ hk_), (Kd.freshB (g := gb183) (o := .cells #[.slice A1_0 l1_0.length c1_0, .slice A1_1 l1_1.length c1_1] 28 (0, 0)) (by (with_reducible repeat (first | refine blk_drewN ?_ _ | refine blk_drew ?_ | refine blk_alloc ?_ _)); exact BK183.out) k_ hk_), (Kd.freshB (g := gb194) (o := .cells #[.int .i64 t188, .int .i64 t189, .int .i64 t190, .int .i64 t191, .int .i64 t192] 39 (0, 0)) (by (with_reducible repeat (first | refine blk_drewN ?_ _ | refine blk_drew ?_ | refine blk_alloc ?_ _)); exact BK194.out) k_ hk_), (Kd.freshB (g := gb201) (o := .cells #[.int .i64 t195, .int .i64 t196, .int .i64 t197, .int .i64 t198, .int .i64 t199] 39 (0, 0)) (by (with_reducible repeat (first | refine blk_drewN ?_ _ | refine blk_drew ?_ | refine blk_alloc ?_ _)); exact BK201.out) k_ hk_), (Kd.freshB (g := gb209) (o := .cells #[.slice Ao107 t202.length co107, .slice Ao113 t205.length co113] 28 (0, 0)) (by (with_reducible repeat (first | refine blk_drewN ?_ _ | refine blk_drew ?_ | refine blk_alloc ?_ _)); exact BK209.out) k_ hk_), (Kd.freshB (g := gb217) (o := .cells #[.slice Ao118 t210.length co118, .slice Ao125 t213.length co125] 28 (0, 0)) (by (with_reducible repeat (first | refine blk_drewN ?_ _ | refine blk_drew ?_ | refine blk_alloc ?_ _)); exact BK217.out) k_ hk_)⟩)) (below_size (by repeat (first | (with_reducible first | exact HB.out | apply below_alloc | apply pw_below_drewN | apply below_drew1 | refine below_set ?_ GE182.out | refine below_set ?_ GE183.out | refine below_set ?_ GE194.out | refine below_set ?_ GE201.out | refine below_set ?_ GE209.out | refine below_set ?_ GE217.out) | exact HB.out)))); have n6_ := Aside0.mk (blk_below (g := gb182) (o := .cells #[.slice A0_0 l0_0.length c0_0, .slice A0_1 l0_1.length c0_1] 25 (0, 0)) (by (with_reducible repeat (first | refine blk_drewN ?_ _ | refine blk_drew ?_ | refine blk_alloc ?_ _)); exact BK182.out) hb); have n7_ := Aside0.mk (blk_below (g := gb183) (o := .cells #[.slice A1_0 l1_0.length c1_0, .slice A1_1 l1_1.length c1_1] 28 (0, 0)) (by (with_reducible repeat (first | refine blk_drewN ?_ _ | refine blk_drew ?_ | refine blk_alloc ?_ _)); exact BK183.out) hb); have n8_ := Aside0.mk (blk_below (g := gb194) (o := .cells #[.int .i64 t188, .int .i64 t189, .int .i64 t190, .int .i64 t191, .int .i64 t192] 39 (0, 0)) (by (with_reducible repeat (first | refine blk_drewN ?_ _ | refine blk_drew ?_ | refine blk_alloc ?_ _)); exact BK194.out) hb); have n9_ := Aside0.mk (blk_below (g := gb201) (o := .cells #[.int .i64 t195, .int .i64 t196, .int .i64 t197, .int .i64 t198, .int .i64 t199] 39 (0, 0)) (by (with_reducible repeat (first | refine blk_drewN ?_ _ | refine blk_drew ?_ | refine blk_alloc ?_ _)); exact BK201.out) hb); have n10_ := Aside0.mk (blk_below (g := gb209) (o := .cells #[.slice Ao107 t202.length co107, .slice Ao113 t205.length co113] 28 (0, 0)) (by (with_reducible repeat (first | refine blk_drewN ?_ _ | refine blk_drew ?_ | refine blk_alloc ?_ _)); exact BK209.out) hb); have n11_ := Aside0.mk (blk_below (g := gb217) (o := .cells #[.slice Ao118 t210.length co118, .slice Ao125 t213.length co125] 28 (0, 0)) (by (with_reducible repeat (first | refine blk_drewN ?_ _ | refine blk_drew ?_ | refine blk_alloc ?_ _)); exact BK217.out) hb); have n12_ := Aside0.mk (below_step (by repeat (first | (with_reducible first | exact HB.out | apply below_alloc | apply pw_below_drewN | apply below_drew1 | refine below_set ?_ GE182.out | refine below_set ?_ GE183.out | refine below_set ?_ GE194.out | refine below_set ?_ GE201.out | refine below_set ?_ GE209.out | refine below_set ?_ GE217.out) | exact HB.out)) hb); clear HO_210000; clear HO_210001; clear HO_218000; clear HO_218001; clear BK182; clear BK183; clear BK194; clear BK201; clear BK209; clear BK217; clear HB; have HO_210000 := n0_; have HO_210001 := n1_; have HO_218000 := n2_; have HO_218001 := n3_; have HO222 := n4_; have HO225 := n5_; have BK182 := n6_; have BK183 := n7_; have BK194 := n8_; have BK201 := n9_; have BK209 := n10_; have BK217 := n11_; have HB := n12_; clear n0_ n1_ n2_ n3_ n4_ n5_ n6_ n7_ n8_ n9_ n10_ n11_ n12_; (try clear hb); (try clear hb2); (try clear hk); (try clear hi); (try clear ho0); (try clear ho1)) | ((with_reducible refine gate_dst (N := 22) rfl ?_); (try (refine gate_guard (by rfl) ?_; dsimp only)); refine box_event ?hg (N := 22) ?hd (cs := #[.slice none 0 0, .slice none 0 0]) (t := 28) ?hr ?_; (case hd => rfl); (case hg => rfl); (case hr => first | (go_simp; done) | (go_simp; rfl)); intro gb227 hg w178 hbox hb; have n0_ := Aside0.mk (Kd.V_below (Kd.V_elderB (by (with_reducible repeat (first | apply Kd.V_alloc | apply Kd.V_drewN | apply Kd.V_drew)); exact HO_210000.out) gb227 (Nat.le_of_eq hg.symm)) hb); have n1_ := Aside0.mk (Kd.V_below (Kd.V_elderB (by (with_reducible repeat (first | apply Kd.V_alloc | apply Kd.V_drewN | apply Kd.V_drew)); exact HO_210001.out) gb227 (Nat.le_of_eq hg.symm)) hb); have n2_ := Aside0.mk (Kd.V_below (Kd.V_elderB (by (with_reducible repeat (first | apply Kd.V_alloc | apply Kd.V_drewN | apply Kd.V_drew)); exact HO_218000.out) gb227 (Nat.le_of_eq hg.symm)) hb); have n3_ := Aside0.mk (Kd.V_below (Kd.V_elderB (by (with_reducible repeat (first | apply Kd.V_alloc | apply Kd.V_drewN | apply Kd.V_drew)); exact HO_218001.out) gb227 (Nat.le_of_eq hg.symm)) hb); have n4_ := Aside0.mk (Kd.V_below (Kd.V_elderB (by (with_reducible repeat (first | apply Kd.V_alloc | apply Kd.V_drewN | apply Kd.V_drew)); exact HO222.out) gb227 (Nat.le_of_eq hg.symm)) hb); have n5_ := Aside0.mk (Kd.V_below (Kd.V_elderB (by (with_reducible repeat (first | apply Kd.V_alloc | apply Kd.V_drewN | apply Kd.V_drew)); exact HO225.out) gb227 (Nat.le_of_eq hg.symm)) hb); have n6_ := Aside0.mk (blk_below (g := gb182) (o := .cells #[.slice A0_0 l0_0.length c0_0, .slice A0_1 l0_1.length c0_1] 25 (0, 0)) (by (with_reducible repeat (first | refine blk_drewN ?_ _ | refine blk_drew ?_ | refine blk_alloc ?_ _)); exact BK182.out) hb); have n7_ := Aside0.mk (blk_below (g := gb183) (o := .cells #[.slice A1_0 l1_0.length c1_0, .slice A1_1 l1_1.length c1_1] 28 (0, 0)) (by (with_reducible repeat (first | refine blk_drewN ?_ _ | refine blk_drew ?_ | refine blk_alloc ?_ _)); exact BK183.out) hb); have n8_ := Aside0.mk (blk_below (g := gb194) (o := .cells #[.int .i64 t188, .int .i64 t189, .int .i64 t190, .int .i64 t191, .int .i64 t192] 39 (0, 0)) (by (with_reducible repeat (first | refine blk_drewN ?_ _ | refine blk_drew ?_ | refine blk_alloc ?_ _)); exact BK194.out) hb); have n9_ := Aside0.mk (blk_below (g := gb201) (o := .cells #[.int .i64 t195, .int .i64 t196, .int .i64 t197, .int .i64 t198, .int .i64 t199] 39 (0, 0)) (by (with_reducible repeat (first | refine blk_drewN ?_ _ | refine blk_drew ?_ | refine blk_alloc ?_ _)); exact BK201.out) hb); have n10_ := Aside0.mk (blk_below (g := gb209) (o := .cells #[.slice Ao107 t202.length co107, .slice Ao113 t205.length co113] 28 (0, 0)) (by (with_reducible repeat (first | refine blk_drewN ?_ _ | refine blk_drew ?_ | refine blk_alloc ?_ _)); exact BK209.out) hb); have n11_ := Aside0.mk (blk_below (g := gb217) (o := .cells #[.slice Ao118 t210.length co118, .slice Ao125 t213.length co125] 28 (0, 0)) (by (with_reducible repeat (first | refine blk_drewN ?_ _ | refine blk_drew ?_ | refine blk_alloc ?_ _)); exact BK217.out) hb); have n12_ := Aside0.mk (below_step (by repeat (first | (with_reducible first | exact HB.out | apply below_alloc | apply pw_below_drewN | apply below_drew1 | refine below_set ?_ GE182.out | refine below_set ?_ GE183.out | refine below_set ?_ GE194.out | refine below_set ?_ GE201.out | refine below_set ?_ GE209.out | refine below_set ?_ GE217.out) | exact HB.out)) hb); have n13_ := Aside0.mk (hbox); have n14_ := Aside0.mk ((by rw [hg]; exact (below_size (by repeat (first | (with_reducible first | exact HB.out | apply below_alloc | apply pw_below_drewN | apply below_drew1 | refine below_set ?_ GE182.out | refine below_set ?_ GE183.out | refine below_set ?_ GE194.out | refine below_set ?_ GE201.out | refine below_set ?_ GE209.out | refine below_set ?_ GE217.out) | exact HB.out))) : w.heap.size ≤ gb227)); have n15_ := Aside0.mk ((by rw [hg]; exact (below_size (by repeat (first | (with_reducible first | exact HB.out | apply below_alloc | apply pw_below_drewN | apply below_drew1 | refine below_set ?_ GE182.out | refine below_set ?_ GE183.out | refine below_set ?_ GE194.out | refine below_set ?_ GE201.out | refine below_set ?_ GE209.out | refine below_set ?_ GE217.out) | exact HB.out))) : w.heap.size ≤ gb227)); have n16_ := Aside0.mk ((by rw [hg]; exact Nat.ne_of_lt (blk_lt (g := gb182) (o := .cells #[.slice A0_0 l0_0.length c0_0, .slice A0_1 l0_1.length c0_1] 25 (0, 0)) (by (with_reducible repeat (first | refine blk_drewN ?_ _ | refine blk_drew ?_ | refine blk_alloc ?_ _)); exact BK182.out)) : gb182 ≠ gb227)); have n17_ := Aside0.mk ((by rw [hg]; exact Nat.ne_of_gt (blk_lt (g := gb182) (o := .cells #[.slice A0_0 l0_0.length c0_0, .slice A0_1 l0_1.length c0_1] 25 (0, 0)) (by (with_reducible repeat (first | refine blk_drewN ?_ _ | refine blk_drew ?_ | refine blk_alloc ?_ _)); exact BK182.out)) : gb227 ≠ gb182)); have n18_ := Aside0.mk ((by rw [hg]; exact Nat.ne_of_lt (blk_lt (g := gb183) (o := .cells #[.slice A1_0 l1_0.length c1_0, .slice A1_1 l1_1.length c1_1] 28 (0, 0)) (by (with_reducible repeat (first | refine blk_drewN ?_ _ | refine blk_drew ?_ | refine blk_alloc ?_ _)); exact BK183.out)) : gb183 ≠ gb227)); have n19_ := Aside0.mk ((by rw [hg]; exact Nat.ne_of_gt (blk_lt (g := gb183) (o := .cells #[.slice A1_0 l1_0.length c1_0, .slice A1_1 l1_1.length c1_1] 28 (0, 0)) (by (with_reducible repeat (first | refine blk_drewN ?_ _ | refine blk_drew ?_ | refine blk_alloc ?_ _)); exact BK183.out)) : gb227 ≠ gb183)); have n20_ := Aside0.mk ((by rw [hg]; exact Nat.ne_of_lt (blk_lt (g := gb194) (o := .cells #[.int .i64 t188, .int .i64 t189, .int .i64 t190, .int .i64 t191, .int .i64 t192] 39 (0, 0)) (by (with_reducible repeat (first | refine blk_drewN ?_ _ | refine blk_drew ?_ | refine blk_alloc ?_ _)); exact BK194.out)) : gb194 ≠ gb227)); have n21_ := Aside0.mk ((by rw [hg]; exact Nat.ne_of_gt (blk_lt (g := gb194) (o := .cells #[.int .i64 t188, .int .i64 t189, .int .i64 t190, .int .i64 t191, .int .i64 t192] 39 (0, 0)) (by (with_reducible repeat (first | refine blk_drewN ?_ _ | refine blk_drew ?_ | refine blk_alloc ?_ _)); exact BK194.out)) : gb227 ≠ gb194)); have n22_ := Aside0.mk ((by rw [hg]; exact Nat.ne_of_lt (blk_lt (g := gb201) (o := .cells #[.int .i64 t195, .int .i64 t196, .int .i64 t197, .int .i64 t198, .int .i64 t199] 39 (0, 0)) (by (with_reducible repeat (first | refine blk_drewN ?_ _ | refine blk_drew ?_ | refine blk_alloc ?_ _)); exact BK201.out)) : gb201 ≠ gb227)); have n23_ := Aside0.mk ((by rw [hg]; exact Nat.ne_of_gt (blk_lt (g := gb201) (o := .cells #[.int .i64 t195, .int .i64 t196, .int .i64 t197, .int .i64 t198, .int .i64 t199] 39 (0, 0)) (by (with_reducible repeat (first | refine blk_drewN ?_ _ | refine blk_drew ?_ | refine blk_alloc ?_ _)); exact BK201.out)) : gb227 ≠ gb201)); have n24_ := Aside0.mk ((by rw [hg]; exact Nat.ne_of_lt (blk_lt (g := gb209) (o := .cells #[.slice Ao107 t202.length co107, .slice Ao113 t205.length co113] 28 (0, 0)) (by (with_reducible repeat (first | refine blk_drewN ?_ _ | refine blk_drew ?_ | refine blk_alloc ?_ _)); exact BK209.out)) : gb209 ≠ gb227)); have n25_ := Aside0.mk ((by rw [hg]; exact Nat.ne_of_gt (blk_lt (g := gb209) (o := .cells #[.slice Ao107 t202.length co107, .slice Ao113 t205.length co113] 28 (0, 0)) (by (with_reducible repeat (first | refine blk_drewN ?_ _ | refine blk_drew ?_ | refine blk_alloc ?_ _)); exact BK209.out)) : gb227 ≠ gb209)); have n26_ := Aside0.mk ((by rw [hg]; exact Nat.ne_of_lt (blk_lt (g := gb217) (o := .cells #[.slice Ao118 t210.length co118, .slice Ao125 t213.length co125] 28 (0, 0)) (by (with_reducible repeat (first | refine blk_drewN ?_ _ | refine blk_drew ?_ | refine blk_alloc ?_ _)); exact BK217.out)) : gb217 ≠ gb227)); have n27_ := Aside0.mk ((by rw [hg]; exact Nat.ne_of_gt (blk_lt (g := gb217) (o := .cells #[.slice Ao118 t210.length co118, .slice Ao125 t213.length co125] 28 (0, 0)) (by (with_reducible repeat (first | refine blk_drewN ?_ _ | refine blk_drew ?_ | refine blk_alloc ?_ _)); exact BK217.out)) : gb227 ≠ gb217)); clear HO_210000; clear HO_210001; clear HO_218000; clear HO_218001; clear HO222; clear HO225; clear BK182; clear BK183; clear BK194; clear BK201; clear BK209; clear BK217; clear HB; have HO_210000 := n0_; have HO_210001 := n1_; have HO_218000 := n2_; have HO_218001 := n3_; have HO222 := n4_; have HO225 := n5_; have BK182 := n6_; have BK183 := n7_; have BK194 := n8_; have BK201 := n9_; have BK209 := n10_; have BK217 := n11_; have HB := n12_; have BK227 := n13_; have GW227 := n14_; have GE227 := n15_; have NB182_227 := n16_; have NB227_182 := n17_; have NB183_227 := n18_; have NB227_183 := n19_; have NB194_227 := n20_; have NB227_194 := n21_; have NB201_227 := n22_; have NB227_201 := n23_; have NB209_227 := n24_; have NB227_209 := n25_; have NB217_227 := n26_; have NB227_217 := n27_; clear n0_ n1_ n2_ n3_ n4_ n5_ n6_ n7_ n8_ n9_ n10_ n11_ n12_ n13_ n14_ n15_ n16_ n17_ n18_ n19_ n20_ n21_ n22_ n23_ n24_ n25_ n26_ n27_; clear hb hbox hg; obtain ⟨Ao179, co179, eo179⟩ := Kd.V_slice HO222.out; subst eo179; have hnb180 := NB227_182.out; have hnc180 := NB182_227.out; have hnb181 := NB227_183.out; have hnc181 := NB183_227.out; have hnb182 := NB227_194.out; have hnc182 := NB194_227.out; have hnb183 := NB227_201.out; have hnc183 := NB201_227.out; have hnb184 := NB227_209.out; have hnc184 := NB209_227.out; have hnb185 := NB227_217.out; have hnc185 := NB217_227.out; have hcz186_0 : w178.cell? ⟨gb227, 0, none⟩ = some (.slice none 0 0) := (blk_cell BK227.out 0).trans rfl; have hcz186_1 : w178.cell? ⟨gb227, 1, none⟩ = some (.slice none 0 0) := (blk_cell BK227.out 1).trans rfl; have hfz186_0 := blk_frozen BK227.out 0; have hfz186_1 := blk_frozen BK227.out 1; obtain ⟨Ao187, co187, eo187⟩ := Kd.V_slice HO225.out; subst eo187; have hcz188_0 : w178.cell? ⟨gb182, 0, none⟩ = some (.slice A0_0 l0_0.length c0_0) := (blk_cell BK182.out 0).trans rfl; have hcz188_1 : w178.cell? ⟨gb182, 1, none⟩ = some (.slice A0_1 l0_1.length c0_1) := (blk_cell BK182.out 1).trans rfl; have hfz188_0 := blk_frozen BK182.out 0; have hfz188_1 := blk_frozen BK182.out 1; have hnb189 := NB217_183.out; have hnc189 := NB183_217.out; have hnb190 := NB217_194.out; have hnc190 := NB194_217.out; have hnb191 := NB217_201.out; have hnc191 := NB201_217.out; have hcz192_0 : w178.cell? ⟨gb217, 0, none⟩ = some (.slice Ao118 t210.length co118) := (blk_cell BK217.out 0).trans rfl; have hcz192_1 : w178.cell? ⟨gb217, 1, none⟩ = some (.slice Ao125 t213.length co125) := (blk_cell BK217.out 1).trans rfl; have hfz192_0 := blk_frozen BK217.out 0; have hfz192_1 := blk_frozen BK217.out 1) | ((with_reducible refine gate_callee (f := 17) rfl ?_); refine goesL_ (some 148) rfl rfl Try.func17 (by kernel_rfl) rfl #[.agg #[.slice A0_0 l0_0.length c0_0, .slice A0_1 l0_1.length c0_1], .agg #[.slice Ao118 t210.length co118, .slice Ao125 t213.length co125], .int .i64 (Int.tmod (wrap64 (a2)) (l1_1.length : Int))] rfl (by (try simp only [List.map_toArray, List.map_cons, List.map_nil]); first | done | rfl | (simp only [List.length_drop, List.length_take]; rfl)) ?_; (with_reducible refine (sc_Step.calls _ _ l0_0 _ _ l0_1 _ _ t210 _ _ t213 (Int.tmod (wrap64 (a2)) (l1_1.length : Int)) t228 t231 true _ ?side1 ?side2 ?side3 ?side4 ?side5 ?side6 ?side7 ?side8 A161.out).mono ?_); (case side1 => exact Kd.C_below HR0_0.out (by repeat (first | (with_reducible first | exact HB.out | apply below_alloc | apply pw_below_drewN | apply below_drew1 | refine below_set ?_ GE182.out | refine below_set ?_ GE183.out | refine below_set ?_ GE194.out | refine below_set ?_ GE201.out | refine below_set ?_ GE209.out | refine below_set ?_ GE217.out | refine below_set ?_ GE227.out) | exact HB.out))); (case side2 => exact HC0_0.out); (case side3 => exact Kd.C_below HR0_1.out (by repeat (first | (with_reducible first | exact HB.out | apply below_alloc | apply pw_below_drewN | apply below_drew1 | refine below_set ?_ GE182.out | refine below_set ?_ GE183.out | refine below_set ?_ GE194.out | refine below_set ?_ GE201.out | refine below_set ?_ GE209.out | refine below_set ?_ GE217.out | refine below_set ?_ GE227.out) | exact HB.out))); (case side4 => exact HC0_1.out); (case side5 => refine (Kd.V_reads' (e := 3) (base := w.heap.size) (ok := fun k_ => ((k_ ≠ gb182 ∧ (k_ ≠ gb183 ∧ (k_ ≠ gb194 ∧ (k_ ≠ gb201 ∧ (k_ ≠ gb209 ∧ k_ ≠ gb217))))) ∧ k_ ≠ gb227)) (n := t210.length) (c := co118) ?_).2.2; exact (by (with_reducible repeat (first | apply Kd.V_alloc | apply Kd.V_drewN | apply Kd.V_drew)); exact (Kd.V_mono (Kd.V_far (p := ⟨gb227, 1, none⟩) (Kd.V_far (p := ⟨gb227, 0, none⟩) (Kd.V_mono HO_218000.out (fun k_ hk => (⟨hk, hk.2⟩ : _ ∧ k_ ≠ gb227))) (fun _ hk => hk.2) (.slice Ao179 t220.length co179)) (fun _ hk => hk.2) (.slice Ao187 t223.length co187)) (fun _ h_ => h_.1)))); (case side6 => exact (Kd.V_reads' HO_218000.out).2.1); (case side7 => refine (Kd.V_reads' (e := 45) (base := w.heap.size) (ok := fun k_ => ((k_ ≠ gb182 ∧ (k_ ≠ gb183 ∧ (k_ ≠ gb194 ∧ (k_ ≠ gb201 ∧ (k_ ≠ gb209 ∧ k_ ≠ gb217))))) ∧ k_ ≠ gb227)) (n := t213.length) (c := co125) ?_).2.2; exact (by (with_reducible repeat (first | apply Kd.V_alloc | apply Kd.V_drewN | apply Kd.V_drew)); exact (Kd.V_mono (Kd.V_far (p := ⟨gb227, 1, none⟩) (Kd.V_far (p := ⟨gb227, 0, none⟩) (Kd.V_mono HO_218001.out (fun k_ hk => (⟨hk, hk.2⟩ : _ ∧ k_ ≠ gb227))) (fun _ hk => hk.2) (.slice Ao179 t220.length co179)) (fun _ hk => hk.2) (.slice Ao187 t223.length co187)) (fun _ h_ => h_.1)))); (case side8 => exact (Kd.V_reads' HO_218001.out).2.1); rintro e w193 ⟨v229, v232, rfl, ho0, ho1, hb⟩; refine ⟨_, rfl, ?_⟩; have n0_ := Aside0.mk (Kd.V_below (by (with_reducible repeat (first | apply Kd.V_alloc | apply Kd.V_drewN | apply Kd.V_drew)); exact (Kd.V_mono (Kd.V_far (p := ⟨gb227, 1, none⟩) (Kd.V_far (p := ⟨gb227, 0, none⟩) (Kd.V_mono HO_210000.out (fun k_ hk => (⟨hk, hk.2⟩ : _ ∧ k_ ≠ gb227))) (fun _ hk => hk.2) (.slice Ao179 t220.length co179)) (fun _ hk => hk.2) (.slice Ao187 t223.length co187)) (fun _ h_ => h_.1))) hb); have n1_ := Aside0.mk (Kd.V_below (by (with_reducible repeat (first | apply Kd.V_alloc | apply Kd.V_drewN | apply Kd.V_drew)); exact (Kd.V_mono (Kd.V_far (p := ⟨gb227, 1, none⟩) (Kd.V_far (p := ⟨gb227, 0, none⟩) (Kd.V_mono HO_210001.out (fun k_ hk => (⟨hk, hk.2⟩ : _ ∧ k_ ≠ gb227))) (fun _ hk => hk.2) (.slice Ao179 t220.length co179)) (fun _ hk => hk.2) (.slice Ao187 t223.length co187)) (fun _ h_ => h_.1))) hb); have n2_ := Aside0.mk (Kd.V_below (by (with_reducible repeat (first | apply Kd.V_alloc | apply Kd.V_drewN | apply Kd.V_drew)); exact (Kd.V_mono (Kd.V_far (p := ⟨gb227, 1, none⟩) (Kd.V_far (p := ⟨gb227, 0, none⟩) (Kd.V_mono HO_218000.out (fun k_ hk => (⟨hk, hk.2⟩ : _ ∧ k_ ≠ gb227))) (fun _ hk => hk.2) (.slice Ao179 t220.length co179)) (fun _ hk => hk.2) (.slice Ao187 t223.length co187)) (fun _ h_ => h_.1))) hb); have n3_ := Aside0.mk (Kd.V_below (by (with_reducible repeat (first | apply Kd.V_alloc | apply Kd.V_drewN | apply Kd.V_drew)); exact (Kd.V_mono (Kd.V_far (p := ⟨gb227, 1, none⟩) (Kd.V_far (p := ⟨gb227, 0, none⟩) (Kd.V_mono HO_218001.out (fun k_ hk => (⟨hk, hk.2⟩ : _ ∧ k_ ≠ gb227))) (fun _ hk => hk.2) (.slice Ao179 t220.length co179)) (fun _ hk => hk.2) (.slice Ao187 t223.length co187)) (fun _ h_ => h_.1))) hb); have n4_ := Aside0.mk (Kd.V_below (by (with_reducible repeat (first | apply Kd.V_alloc | apply Kd.V_drewN | apply Kd.V_drew)); exact (Kd.V_mono (Kd.V_far (p := ⟨gb227, 1, none⟩) (Kd.V_far (p := ⟨gb227, 0, none⟩) (Kd.V_mono HO222.out (fun k_ hk => (⟨hk, hk.2⟩ : _ ∧ k_ ≠ gb227))) (fun _ hk => hk.2) (.slice Ao179 t220.length co179)) (fun _ hk => hk.2) (.slice Ao187 t223.length co187)) (fun _ h_ => h_.1))) hb); have n5_ := Aside0.mk (Kd.V_below (by (with_reducible repeat (first | apply Kd.V_alloc | apply Kd.V_drewN | apply Kd.V_drew)); exact (Kd.V_mono (Kd.V_far (p := ⟨gb227, 1, none⟩) (Kd.V_far (p := ⟨gb227, 0, none⟩) (Kd.V_mono HO225.out (fun k_ hk => (⟨hk, hk.2⟩ : _ ∧ k_ ≠ gb227))) (fun _ hk => hk.2) (.slice Ao179 t220.length co179)) (fun _ hk => hk.2) (.slice Ao187 t223.length co187)) (fun _ h_ => h_.1))) hb); have n6_ := Aside0.mk (Kd.V_lower (Kd.V_mono (ok' := fun k_ => k_ ≠ gb182 ∧ k_ ≠ gb183 ∧ k_ ≠ gb194 ∧ k_ ≠ gb201 ∧ k_ ≠ gb209 ∧ k_ ≠ gb217 ∧ k_ ≠ gb227) ho0 (fun k_ hk_ => ⟨(Kd.freshB (g := gb182) (o := .cells #[.slice A0_0 l0_0.length c0_0, .slice A0_1 l0_1.length c0_1] 25 (0, 0)) (by (with_reducible repeat (first | refine blk_drewN ?_ _ | refine blk_drew ?_ | refine blk_alloc ?_ _)); refine blk_far ?_ NB182_227.out _; (with_reducible repeat (first | refine blk_drewN ?_ _ | refine blk_drew ?_ | refine blk_alloc ?_ _)); refine blk_far ?_ NB182_227.out _; (with_reducible repeat (first | refine blk_drewN ?_ _ | refine blk_drew ?_ | refine blk_alloc ?_ _)); exact BK182.out) k_ hk_), (Kd.freshB (g := gb183) (o := .cells #[.slice A1_0 l1_0.length c1_0, .slice A1_1 l1_1.length c1_1] 28 (0, 0)) (by (with_reducible repeat (first | refine blk_drewN ?_ _ | refine blk_drew ?_ | refine blk_alloc ?_ _)); refine blk_far ?_ NB183_227.out _; (with_reducible repeat (first | refine blk_drewN ?_ _ | refine blk_drew ?_ | refine blk_alloc ?_ _)); refine blk_far ?_ NB183_227.out _; (with_reducible repeat (first | refine blk_drewN ?_ _ | refine blk_drew ?_ | refine blk_alloc ?_ _)); exact BK183.out) k_ hk_), (Kd.freshB (g := gb194) (o := .cells #[.int .i64 t188, .int .i64 t189, .int .i64 t190, .int .i64 t191, .int .i64 t192] 39 (0, 0)) (by (with_reducible repeat (first | refine blk_drewN ?_ _ | refine blk_drew ?_ | refine blk_alloc ?_ _)); refine blk_far ?_ NB194_227.out _; (with_reducible repeat (first | refine blk_drewN ?_ _ | refine blk_drew ?_ | refine blk_alloc ?_ _)); refine blk_far ?_ NB194_227.out _; (with_reducible repeat (first | refine blk_drewN ?_ _ | refine blk_drew ?_ | refine blk_alloc ?_ _)); exact BK194.out) k_ hk_), (Kd.freshB (g := gb201) (o := .cells #[.int .i64 t195, .int .i64 t196, .int .i64 t197, .int .i64 t198, .int .i64 t199] 39 (0, 0)) (by (with_reducible repeat (first | refine blk_drewN ?_ _ | refine blk_drew ?_ | refine blk_alloc ?_ _)); refine blk_far ?_ NB201_227.out _; (with_reducible repeat (first | refine blk_drewN ?_ _ | refine blk_drew ?_ | refine blk_alloc ?_ _)); refine blk_far ?_ NB201_227.out _; (with_reducible repeat (first | refine blk_drewN ?_ _ | refine blk_drew ?_ | refine blk_alloc ?_ _)); exact BK201.out) k_ hk_), (Kd.freshB (g := gb209) (o := .cells #[.slice Ao107 t202.length co107, .slice Ao113 t205.length co113] 28 (0, 0)) (by (with_reducible repeat (first | refine blk_drewN ?_ _ | refine blk_drew ?_ | refine blk_alloc ?_ _)); refine blk_far ?_ NB209_227.out _; (with_reducible repeat (first | refine blk_drewN ?_ _ | refine blk_drew ?_ | refine blk_alloc ?_ _)); refine blk_far ?_ NB209_227.out _; (with_reducible repeat (first | refine blk_drewN ?_ _ | refine blk_drew ?_ | refine blk_alloc ?_ _)); exact BK209.out) k_ hk_), (Kd.freshB (g := gb217) (o := .cells #[.slice Ao118 t210.length co118, .slice Ao125 t213.length co125] 28 (0, 0)) (by (with_reducible repeat (first | refine blk_drewN ?_ _ | refine blk_drew ?_ | refine blk_alloc ?_ _)); refine blk_far ?_ NB217_227.out _; (with_reducible repeat (first | refine blk_drewN ?_ _ | refine blk_drew ?_ | refine blk_alloc ?_ _)); refine blk_far ?_ NB217_227.out _; (with_reducible repeat (first | refine blk_drewN ?_ _ | refine blk_drew ?_ | refine blk_alloc ?_ _)); exact BK217.out) k_ hk_), (Kd.freshB (g := gb227) (o := .cells #[.slice Ao179 t220.length co179, .slice Ao187 t223.length co187] 28 (0, 0)) (by (with_reducible repeat (first | refine blk_drewN ?_ _ | refine blk_drew ?_ | refine blk_alloc ?_ _)); refine blk_put (cs := #[.slice Ao179 t220.length co179, .slice none 0 0]) ?_ 1 _ rfl; (with_reducible repeat (first | refine blk_drewN ?_ _ | refine blk_drew ?_ | refine blk_alloc ?_ _)); refine blk_put (cs := #[.slice none 0 0, .slice none 0 0]) ?_ 0 _ rfl; (with_reducible repeat (first | refine blk_drewN ?_ _ | refine blk_drew ?_ | refine blk_alloc ?_ _)); exact BK227.out) k_ hk_)⟩)) (below_size (by repeat (first | (with_reducible first | exact HB.out | apply below_alloc | apply pw_below_drewN | apply below_drew1 | refine below_set ?_ GE182.out | refine below_set ?_ GE183.out | refine below_set ?_ GE194.out | refine below_set ?_ GE201.out | refine below_set ?_ GE209.out | refine below_set ?_ GE217.out | refine below_set ?_ GE227.out) | exact HB.out)))); have n7_ := Aside0.mk (Kd.V_lower (Kd.V_mono (ok' := fun k_ => k_ ≠ gb182 ∧ k_ ≠ gb183 ∧ k_ ≠ gb194 ∧ k_ ≠ gb201 ∧ k_ ≠ gb209 ∧ k_ ≠ gb217 ∧ k_ ≠ gb227) ho1 (fun k_ hk_ => ⟨(Kd.freshB (g := gb182) (o := .cells #[.slice A0_0 l0_0.length c0_0, .slice A0_1 l0_1.length c0_1] 25 (0, 0)) (by (with_reducible repeat (first | refine blk_drewN ?_ _ | refine blk_drew ?_ | refine blk_alloc ?_ _)); refine blk_far ?_ NB182_227.out _; (with_reducible repeat (first | refine blk_drewN ?_ _ | refine blk_drew ?_ | refine blk_alloc ?_ _)); refine blk_far ?_ NB182_227.out _; (with_reducible repeat (first | refine blk_drewN ?_ _ | refine blk_drew ?_ | refine blk_alloc ?_ _)); exact BK182.out) k_ hk_), (Kd.freshB (g := gb183) (o := .cells #[.slice A1_0 l1_0.length c1_0, .slice A1_1 l1_1.length c1_1] 28 (0, 0)) (by (with_reducible repeat (first | refine blk_drewN ?_ _ | refine blk_drew ?_ | refine blk_alloc ?_ _)); refine blk_far ?_ NB183_227.out _; (with_reducible repeat (first | refine blk_drewN ?_ _ | refine blk_drew ?_ | refine blk_alloc ?_ _)); refine blk_far ?_ NB183_227.out _; (with_reducible repeat (first | refine blk_drewN ?_ _ | refine blk_drew ?_ | refine blk_alloc ?_ _)); exact BK183.out) k_ hk_), (Kd.freshB (g := gb194) (o := .cells #[.int .i64 t188, .int .i64 t189, .int .i64 t190, .int .i64 t191, .int .i64 t192] 39 (0, 0)) (by (with_reducible repeat (first | refine blk_drewN ?_ _ | refine blk_drew ?_ | refine blk_alloc ?_ _)); refine blk_far ?_ NB194_227.out _; (with_reducible repeat (first | refine blk_drewN ?_ _ | refine blk_drew ?_ | refine blk_alloc ?_ _)); refine blk_far ?_ NB194_227.out _; (with_reducible repeat (first | refine blk_drewN ?_ _ | refine blk_drew ?_ | refine blk_alloc ?_ _)); exact BK194.out) k_ hk_), (Kd.freshB (g := gb201) (o := .cells #[.int .i64 t195, .int .i64 t196, .int .i64 t197, .int .i64 t198, .int .i64 t199] 39 (0, 0)) (by (with_reducible repeat (first | refine blk_drewN ?_ _ | refine blk_drew ?_ | refine blk_alloc ?_ _)); refine blk_far ?_ NB201_227.out _; (with_reducible repeat (first | refine blk_drewN ?_ _ | refine blk_drew ?_ | refine blk_alloc ?_ _)); refine blk_far ?_ NB201_227.out _; (with_reducible repeat (first | refine blk_drewN ?_ _ | refine blk_drew ?_ | refine blk_alloc ?_ _)); exact BK201.out) k_ hk_), (Kd.freshB (g := gb209) (o := .cells #[.slice Ao107 t202.length co107, .slice Ao113 t205.length co113] 28 (0, 0)) (by (with_reducible repeat (first | refine blk_drewN ?_ _ | refine blk_drew ?_ | refine blk_alloc ?_ _)); refine blk_far ?_ NB209_227.out _; (with_reducible repeat (first | refine blk_drewN ?_ _ | refine blk_drew ?_ | refine blk_alloc ?_ _)); refine blk_far ?_ NB209_227.out _; (with_reducible repeat (first | refine blk_drewN ?_ _ | refine blk_drew ?_ | refine blk_alloc ?_ _)); exact BK209.out) k_ hk_), (Kd.freshB (g := gb217) (o := .cells #[.slice Ao118 t210.length co118, .slice Ao125 t213.length co125] 28 (0, 0)) (by (with_reducible repeat (first | refine blk_drewN ?_ _ | refine blk_drew ?_ | refine blk_alloc ?_ _)); refine blk_far ?_ NB217_227.out _; (with_reducible repeat (first | refine blk_drewN ?_ _ | refine blk_drew ?_ | refine blk_alloc ?_ _)); refine blk_far ?_ NB217_227.out _; (with_reducible repeat (first | refine blk_drewN ?_ _ | refine blk_drew ?_ | refine blk_alloc ?_ _)); exact BK217.out) k_ hk_), (Kd.freshB (g := gb227) (o := .cells #[.slice Ao179 t220.length co179, .slice Ao187 t223.length co187] 28 (0, 0)) (by (with_reducible repeat (first | refine blk_drewN ?_ _ | refine blk_drew ?_ | refine blk_alloc ?_ _)); refine blk_put (cs := #[.slice Ao179 t220.length co179, .slice none 0 0]) ?_ 1 _ rfl; (with_reducible repeat (first | refine blk_drewN ?_ _ | refine blk_drew ?_ | refine blk_alloc ?_ _)); refine blk_put (cs := #[.slice none 0 0, .slice none 0 0]) ?_ 0 _ rfl; (with_reducible repeat (first | refine blk_drewN ?_ _ | refine blk_drew ?_ | refine blk_alloc ?_ _)); exact BK227.out) k_ hk_)⟩)) (below_size (by repeat (first | (with_reducible first | exact HB.out | apply below_alloc | apply pw_below_drewN | apply below_drew1 | refine below_set ?_ GE182.out | refine below_set ?_ GE183.out | refine below_set ?_ GE194.out | refine below_set ?_ GE201.out | refine below_set ?_ GE209.out | refine below_set ?_ GE217.out | refine below_set ?_ GE227.out) | exact HB.out)))); have n8_ := Aside0.mk (blk_below (g := gb182) (o := .cells #[.slice A0_0 l0_0.length c0_0, .slice A0_1 l0_1.length c0_1] 25 (0, 0)) (by (with_reducible repeat (first | refine blk_drewN ?_ _ | refine blk_drew ?_ | refine blk_alloc ?_ _)); refine blk_far ?_ NB182_227.out _; (with_reducible repeat (first | refine blk_drewN ?_ _ | refine blk_drew ?_ | refine blk_alloc ?_ _)); refine blk_far ?_ NB182_227.out _; (with_reducible repeat (first | refine blk_drewN ?_ _ | refine blk_drew ?_ | refine blk_alloc ?_ _)); exact BK182.out) hb); have n9_ := Aside0.mk (blk_below (g := gb183) (o := .cells #[.slice A1_0 l1_0.length c1_0, .slice A1_1 l1_1.length c1_1] 28 (0, 0)) (by (with_reducible repeat (first | refine blk_drewN ?_ _ | refine blk_drew ?_ | refine blk_alloc ?_ _)); refine blk_far ?_ NB183_227.out _; (with_reducible repeat (first | refine blk_drewN ?_ _ | refine blk_drew ?_ | refine blk_alloc ?_ _)); refine blk_far ?_ NB183_227.out _; (with_reducible repeat (first | refine blk_drewN ?_ _ | refine blk_drew ?_ | refine blk_alloc ?_ _)); exact BK183.out) hb); have n10_ := Aside0.mk (blk_below (g := gb194) (o := .cells #[.int .i64 t188, .int .i64 t189, .int .i64 t190, .int .i64 t191, .int .i64 t192] 39 (0, 0)) (by (with_reducible repeat (first | refine blk_drewN ?_ _ | refine blk_drew ?_ | refine blk_alloc ?_ _)); refine blk_far ?_ NB194_227.out _; (with_reducible repeat (first | refine blk_drewN ?_ _ | refine blk_drew ?_ | refine blk_alloc ?_ _)); refine blk_far ?_ NB194_227.out _; (with_reducible repeat (first | refine blk_drewN ?_ _ | refine blk_drew ?_ | refine blk_alloc ?_ _)); exact BK194.out) hb); have n11_ := Aside0.mk (blk_below (g := gb201) (o := .cells #[.int .i64 t195, .int .i64 t196, .int .i64 t197, .int .i64 t198, .int .i64 t199] 39 (0, 0)) (by (with_reducible repeat (first | refine blk_drewN ?_ _ | refine blk_drew ?_ | refine blk_alloc ?_ _)); refine blk_far ?_ NB201_227.out _; (with_reducible repeat (first | refine blk_drewN ?_ _ | refine blk_drew ?_ | refine blk_alloc ?_ _)); refine blk_far ?_ NB201_227.out _; (with_reducible repeat (first | refine blk_drewN ?_ _ | refine blk_drew ?_ | refine blk_alloc ?_ _)); exact BK201.out) hb); have n12_ := Aside0.mk (blk_below (g := gb209) (o := .cells #[.slice Ao107 t202.length co107, .slice Ao113 t205.length co113] 28 (0, 0)) (by (with_reducible repeat (first | refine blk_drewN ?_ _ | refine blk_drew ?_ | refine blk_alloc ?_ _)); refine blk_far ?_ NB209_227.out _; (with_reducible repeat (first | refine blk_drewN ?_ _ | refine blk_drew ?_ | refine blk_alloc ?_ _)); refine blk_far ?_ NB209_227.out _; (with_reducible repeat (first | refine blk_drewN ?_ _ | refine blk_drew ?_ | refine blk_alloc ?_ _)); exact BK209.out) hb); have n13_ := Aside0.mk (blk_below (g := gb217) (o := .cells #[.slice Ao118 t210.length co118, .slice Ao125 t213.length co125] 28 (0, 0)) (by (with_reducible repeat (first | refine blk_drewN ?_ _ | refine blk_drew ?_ | refine blk_alloc ?_ _)); refine blk_far ?_ NB217_227.out _; (with_reducible repeat (first | refine blk_drewN ?_ _ | refine blk_drew ?_ | refine blk_alloc ?_ _)); refine blk_far ?_ NB217_227.out _; (with_reducible repeat (first | refine blk_drewN ?_ _ | refine blk_drew ?_ | refine blk_alloc ?_ _)); exact BK217.out) hb); have n14_ := Aside0.mk (blk_below (g := gb227) (o := .cells #[.slice Ao179 t220.length co179, .slice Ao187 t223.length co187] 28 (0, 0)) (by (with_reducible repeat (first | refine blk_drewN ?_ _ | refine blk_drew ?_ | refine blk_alloc ?_ _)); refine blk_put (cs := #[.slice Ao179 t220.length co179, .slice none 0 0]) ?_ 1 _ rfl; (with_reducible repeat (first | refine blk_drewN ?_ _ | refine blk_drew ?_ | refine blk_alloc ?_ _)); refine blk_put (cs := #[.slice none 0 0, .slice none 0 0]) ?_ 0 _ rfl; (with_reducible repeat (first | refine blk_drewN ?_ _ | refine blk_drew ?_ | refine blk_alloc ?_ _)); exact BK227.out) hb); have n15_ := Aside0.mk (below_step (by repeat (first | (with_reducible first | exact HB.out | apply below_alloc | apply pw_below_drewN | apply below_drew1 | refine below_set ?_ GE182.out | refine below_set ?_ GE183.out | refine below_set ?_ GE194.out | refine below_set ?_ GE201.out | refine below_set ?_ GE209.out | refine below_set ?_ GE217.out | refine below_set ?_ GE227.out) | exact HB.out)) hb); clear HO_210000; clear HO_210001; clear HO_218000; clear HO_218001; clear HO222; clear HO225; clear BK182; clear BK183; clear BK194; clear BK201; clear BK209; clear BK217; clear BK227; clear HB; have HO_210000 := n0_; have HO_210001 := n1_; have HO_218000 := n2_; have HO_218001 := n3_; have HO222 := n4_; have HO225 := n5_; have HO230 := n6_; have HO233 := n7_; have BK182 := n8_; have BK183 := n9_; have BK194 := n10_; have BK201 := n11_; have BK209 := n12_; have BK217 := n13_; have BK227 := n14_; have HB := n15_; clear n0_ n1_ n2_ n3_ n4_ n5_ n6_ n7_ n8_ n9_ n10_ n11_ n12_ n13_ n14_ n15_; (try clear hb); (try clear hb2); (try clear hk); (try clear hi); (try clear ho0); (try clear ho1)) | ((with_reducible refine gate_dst (N := 24) rfl ?_); (try (refine gate_guard (by rfl) ?_; dsimp only)); refine box_event ?hg (N := 24) ?hd (cs := #[.slice none 0 0, .slice none 0 0]) (t := 28) ?hr ?_; (case hd => rfl); (case hg => rfl); (case hr => first | (go_simp; done) | (go_simp; rfl)); intro gb235 hg w194 hbox hb; have n0_ := Aside0.mk (Kd.V_below (Kd.V_elderB (by (with_reducible repeat (first | apply Kd.V_alloc | apply Kd.V_drewN | apply Kd.V_drew)); exact HO_210000.out) gb235 (Nat.le_of_eq hg.symm)) hb); have n1_ := Aside0.mk (Kd.V_below (Kd.V_elderB (by (with_reducible repeat (first | apply Kd.V_alloc | apply Kd.V_drewN | apply Kd.V_drew)); exact HO_210001.out) gb235 (Nat.le_of_eq hg.symm)) hb); have n2_ := Aside0.mk (Kd.V_below (Kd.V_elderB (by (with_reducible repeat (first | apply Kd.V_alloc | apply Kd.V_drewN | apply Kd.V_drew)); exact HO_218000.out) gb235 (Nat.le_of_eq hg.symm)) hb); have n3_ := Aside0.mk (Kd.V_below (Kd.V_elderB (by (with_reducible repeat (first | apply Kd.V_alloc | apply Kd.V_drewN | apply Kd.V_drew)); exact HO_218001.out) gb235 (Nat.le_of_eq hg.symm)) hb); have n4_ := Aside0.mk (Kd.V_below (Kd.V_elderB (by (with_reducible repeat (first | apply Kd.V_alloc | apply Kd.V_drewN | apply Kd.V_drew)); exact HO222.out) gb235 (Nat.le_of_eq hg.symm)) hb); have n5_ := Aside0.mk (Kd.V_below (Kd.V_elderB (by (with_reducible repeat (first | apply Kd.V_alloc | apply Kd.V_drewN | apply Kd.V_drew)); exact HO225.out) gb235 (Nat.le_of_eq hg.symm)) hb); have n6_ := Aside0.mk (Kd.V_below (Kd.V_elderB (by (with_reducible repeat (first | apply Kd.V_alloc | apply Kd.V_drewN | apply Kd.V_drew)); exact HO230.out) gb235 (Nat.le_of_eq hg.symm)) hb); have n7_ := Aside0.mk (Kd.V_below (Kd.V_elderB (by (with_reducible repeat (first | apply Kd.V_alloc | apply Kd.V_drewN | apply Kd.V_drew)); exact HO233.out) gb235 (Nat.le_of_eq hg.symm)) hb); have n8_ := Aside0.mk (blk_below (g := gb182) (o := .cells #[.slice A0_0 l0_0.length c0_0, .slice A0_1 l0_1.length c0_1] 25 (0, 0)) (by (with_reducible repeat (first | refine blk_drewN ?_ _ | refine blk_drew ?_ | refine blk_alloc ?_ _)); exact BK182.out) hb); have n9_ := Aside0.mk (blk_below (g := gb183) (o := .cells #[.slice A1_0 l1_0.length c1_0, .slice A1_1 l1_1.length c1_1] 28 (0, 0)) (by (with_reducible repeat (first | refine blk_drewN ?_ _ | refine blk_drew ?_ | refine blk_alloc ?_ _)); exact BK183.out) hb); have n10_ := Aside0.mk (blk_below (g := gb194) (o := .cells #[.int .i64 t188, .int .i64 t189, .int .i64 t190, .int .i64 t191, .int .i64 t192] 39 (0, 0)) (by (with_reducible repeat (first | refine blk_drewN ?_ _ | refine blk_drew ?_ | refine blk_alloc ?_ _)); exact BK194.out) hb); have n11_ := Aside0.mk (blk_below (g := gb201) (o := .cells #[.int .i64 t195, .int .i64 t196, .int .i64 t197, .int .i64 t198, .int .i64 t199] 39 (0, 0)) (by (with_reducible repeat (first | refine blk_drewN ?_ _ | refine blk_drew ?_ | refine blk_alloc ?_ _)); exact BK201.out) hb); have n12_ := Aside0.mk (blk_below (g := gb209) (o := .cells #[.slice Ao107 t202.length co107, .slice Ao113 t205.length co113] 28 (0, 0)) (by (with_reducible repeat (first | refine blk_drewN ?_ _ | refine blk_drew ?_ | refine blk_alloc ?_ _)); exact BK209.out) hb); have n13_ := Aside0.mk (blk_below (g := gb217) (o := .cells #[.slice Ao118 t210.length co118, .slice Ao125 t213.length co125] 28 (0, 0)) (by (with_reducible repeat (first | refine blk_drewN ?_ _ | refine blk_drew ?_ | refine blk_alloc ?_ _)); exact BK217.out) hb); have n14_ := Aside0.mk (blk_below (g := gb227) (o := .cells #[.slice Ao179 t220.length co179, .slice Ao187 t223.length co187] 28 (0, 0)) (by (with_reducible repeat (first | refine blk_drewN ?_ _ | refine blk_drew ?_ | refine blk_alloc ?_ _)); exact BK227.out) hb); have n15_ := Aside0.mk (below_step (by repeat (first | (with_reducible first | exact HB.out | apply below_alloc | apply pw_below_drewN | apply below_drew1 | refine below_set ?_ GE182.out | refine below_set ?_ GE183.out | refine below_set ?_ GE194.out | refine below_set ?_ GE201.out | refine below_set ?_ GE209.out | refine below_set ?_ GE217.out | refine below_set ?_ GE227.out) | exact HB.out)) hb); have n16_ := Aside0.mk (hbox); have n17_ := Aside0.mk ((by rw [hg]; exact (below_size (by repeat (first | (with_reducible first | exact HB.out | apply below_alloc | apply pw_below_drewN | apply below_drew1 | refine below_set ?_ GE182.out | refine below_set ?_ GE183.out | refine below_set ?_ GE194.out | refine below_set ?_ GE201.out | refine below_set ?_ GE209.out | refine below_set ?_ GE217.out | refine below_set ?_ GE227.out) | exact HB.out))) : w.heap.size ≤ gb235)); have n18_ := Aside0.mk ((by rw [hg]; exact (below_size (by repeat (first | (with_reducible first | exact HB.out | apply below_alloc | apply pw_below_drewN | apply below_drew1 | refine below_set ?_ GE182.out | refine below_set ?_ GE183.out | refine below_set ?_ GE194.out | refine below_set ?_ GE201.out | refine below_set ?_ GE209.out | refine below_set ?_ GE217.out | refine below_set ?_ GE227.out) | exact HB.out))) : w.heap.size ≤ gb235)); have n19_ := Aside0.mk ((by rw [hg]; exact Nat.ne_of_lt (blk_lt (g := gb182) (o := .cells #[.slice A0_0 l0_0.length c0_0, .slice A0_1 l0_1.length c0_1] 25 (0, 0)) (by (with_reducible repeat (first | refine blk_drewN ?_ _ | refine blk_drew ?_ | refine blk_alloc ?_ _)); exact BK182.out)) : gb182 ≠ gb235)); have n20_ := Aside0.mk ((by rw [hg]; exact Nat.ne_of_gt (blk_lt (g := gb182) (o := .cells #[.slice A0_0 l0_0.length c0_0, .slice A0_1 l0_1.length c0_1] 25 (0, 0)) (by (with_reducible repeat (first | refine blk_drewN ?_ _ | refine blk_drew ?_ | refine blk_alloc ?_ _)); exact BK182.out)) : gb235 ≠ gb182)); have n21_ := Aside0.mk ((by rw [hg]; exact Nat.ne_of_lt (blk_lt (g := gb183) (o := .cells #[.slice A1_0 l1_0.length c1_0, .slice A1_1 l1_1.length c1_1] 28 (0, 0)) (by (with_reducible repeat (first | refine blk_drewN ?_ _ | refine blk_drew ?_ | refine blk_alloc ?_ _)); exact BK183.out)) : gb183 ≠ gb235)); have n22_ := Aside0.mk ((by rw [hg]; exact Nat.ne_of_gt (blk_lt (g := gb183) (o := .cells #[.slice A1_0 l1_0.length c1_0, .slice A1_1 l1_1.length c1_1] 28 (0, 0)) (by (with_reducible repeat (first | refine blk_drewN ?_ _ | refine blk_drew ?_ | refine blk_alloc ?_ _)); exact BK183.out)) : gb235 ≠ gb183)); have n23_ := Aside0.mk ((by rw [hg]; exact Nat.ne_of_lt (blk_lt (g := gb194) (o := .cells #[.int .i64 t188, .int .i64 t189, .int .i64 t190, .int .i64 t191, .int .i64 t192] 39 (0, 0)) (by (with_reducible repeat (first | refine blk_drewN ?_ _ | refine blk_drew ?_ | refine blk_alloc ?_ _)); exact BK194.out)) : gb194 ≠ gb235)); have n24_ := Aside0.mk ((by rw [hg]; exact Nat.ne_of_gt (blk_lt (g := gb194) (o := .cells #[.int .i64 t188, .int .i64 t189, .int .i64 t190, .int .i64 t191, .int .i64 t192] 39 (0, 0)) (by (with_reducible repeat (first | refine blk_drewN ?_ _ | refine blk_drew ?_ | refine blk_alloc ?_ _)); exact BK194.out)) : gb235 ≠ gb194)); have n25_ := Aside0.mk ((by rw [hg]; exact Nat.ne_of_lt (blk_lt (g := gb201) (o := .cells #[.int .i64 t195, .int .i64 t196, .int .i64 t197, .int .i64 t198, .int .i64 t199] 39 (0, 0)) (by (with_reducible repeat (first | refine blk_drewN ?_ _ | refine blk_drew ?_ | refine blk_alloc ?_ _)); exact BK201.out)) : gb201 ≠ gb235)); have n26_ := Aside0.mk ((by rw [hg]; exact Nat.ne_of_gt (blk_lt (g := gb201) (o := .cells #[.int .i64 t195, .int .i64 t196, .int .i64 t197, .int .i64 t198, .int .i64 t199] 39 (0, 0)) (by (with_reducible repeat (first | refine blk_drewN ?_ _ | refine blk_drew ?_ | refine blk_alloc ?_ _)); exact BK201.out)) : gb235 ≠ gb201)); have n27_ := Aside0.mk ((by rw [hg]; exact Nat.ne_of_lt (blk_lt (g := gb209) (o := .cells #[.slice Ao107 t202.length co107, .slice Ao113 t205.length co113] 28 (0, 0)) (by (with_reducible repeat (first | refine blk_drewN ?_ _ | refine blk_drew ?_ | refine blk_alloc ?_ _)); exact BK209.out)) : gb209 ≠ gb235)); have n28_ := Aside0.mk ((by rw [hg]; exact Nat.ne_of_gt (blk_lt (g := gb209) (o := .cells #[.slice Ao107 t202.length co107, .slice Ao113 t205.length co113] 28 (0, 0)) (by (with_reducible repeat (first | refine blk_drewN ?_ _ | refine blk_drew ?_ | refine blk_alloc ?_ _)); exact BK209.out)) : gb235 ≠ gb209)); have n29_ := Aside0.mk ((by rw [hg]; exact Nat.ne_of_lt (blk_lt (g := gb217) (o := .cells #[.slice Ao118 t210.length co118, .slice Ao125 t213.length co125] 28 (0, 0)) (by (with_reducible repeat (first | refine blk_drewN ?_ _ | refine blk_drew ?_ | refine blk_alloc ?_ _)); exact BK217.out)) : gb217 ≠ gb235)); have n30_ := Aside0.mk ((by rw [hg]; exact Nat.ne_of_gt (blk_lt (g := gb217) (o := .cells #[.slice Ao118 t210.length co118, .slice Ao125 t213.length co125] 28 (0, 0)) (by (with_reducible repeat (first | refine blk_drewN ?_ _ | refine blk_drew ?_ | refine blk_alloc ?_ _)); exact BK217.out)) : gb235 ≠ gb217)); have n31_ := Aside0.mk ((by rw [hg]; exact Nat.ne_of_lt (blk_lt (g := gb227) (o := .cells #[.slice Ao179 t220.length co179, .slice Ao187 t223.length co187] 28 (0, 0)) (by (with_reducible repeat (first | refine blk_drewN ?_ _ | refine blk_drew ?_ | refine blk_alloc ?_ _)); exact BK227.out)) : gb227 ≠ gb235)); have n32_ := Aside0.mk ((by rw [hg]; exact Nat.ne_of_gt (blk_lt (g := gb227) (o := .cells #[.slice Ao179 t220.length co179, .slice Ao187 t223.length co187] 28 (0, 0)) (by (with_reducible repeat (first | refine blk_drewN ?_ _ | refine blk_drew ?_ | refine blk_alloc ?_ _)); exact BK227.out)) : gb235 ≠ gb227)); clear HO_210000; clear HO_210001; clear HO_218000; clear HO_218001; clear HO222; clear HO225; clear HO230; clear HO233; clear BK182; clear BK183; clear BK194; clear BK201; clear BK209; clear BK217; clear BK227; clear HB; have HO_210000 := n0_; have HO_210001 := n1_; have HO_218000 := n2_; have HO_218001 := n3_; have HO222 := n4_; have HO225 := n5_; have HO230 := n6_; have HO233 := n7_; have BK182 := n8_; have BK183 := n9_; have BK194 := n10_; have BK201 := n11_; have BK209 := n12_; have BK217 := n13_; have BK227 := n14_; have HB := n15_; have BK235 := n16_; have GW235 := n17_; have GE235 := n18_; have NB182_235 := n19_; have NB235_182 := n20_; have NB183_235 := n21_; have NB235_183 := n22_; have NB194_235 := n23_; have NB235_194 := n24_; have NB201_235 := n25_; have NB235_201 := n26_; have NB209_235 := n27_; have NB235_209 := n28_; have NB217_235 := n29_; have NB235_217 := n30_; have NB227_235 := n31_; have NB235_227 := n32_; clear n0_ n1_ n2_ n3_ n4_ n5_ n6_ n7_ n8_ n9_ n10_ n11_ n12_ n13_ n14_ n15_ n16_ n17_ n18_ n19_ n20_ n21_ n22_ n23_ n24_ n25_ n26_ n27_ n28_ n29_ n30_ n31_ n32_; clear hb hbox hg; obtain ⟨Ao195, co195, eo195⟩ := Kd.V_slice HO230.out; subst eo195; have hnb196 := NB235_182.out; have hnc196 := NB182_235.out; have hnb197 := NB235_183.out; have hnc197 := NB183_235.out; have hnb198 := NB235_194.out; have hnc198 := NB194_235.out; have hnb199 := NB235_201.out; have hnc199 := NB201_235.out; have hnb200 := NB235_209.out; have hnc200 := NB209_235.out; have hnb201 := NB235_217.out; have hnc201 := NB217_235.out; have hnb202 := NB235_227.out; have hnc202 := NB227_235.out; have hcz203_0 : w194.cell? ⟨gb235, 0, none⟩ = some (.slice none 0 0) := (blk_cell BK235.out 0).trans rfl; have hcz203_1 : w194.cell? ⟨gb235, 1, none⟩ = some (.slice none 0 0) := (blk_cell BK235.out 1).trans rfl; have hfz203_0 := blk_frozen BK235.out 0; have hfz203_1 := blk_frozen BK235.out 1; obtain ⟨Ao204, co204, eo204⟩ := Kd.V_slice HO233.out; subst eo204; have hcz205_0 : w194.cell? ⟨gb227, 0, none⟩ = some (.slice Ao179 t220.length co179) := (blk_cell BK227.out 0).trans rfl; have hcz205_1 : w194.cell? ⟨gb227, 1, none⟩ = some (.slice Ao187 t223.length co187) := (blk_cell BK227.out 1).trans rfl; have hfz205_0 := blk_frozen BK227.out 0; have hfz205_1 := blk_frozen BK227.out 1) | (go_at_call 14; (with_reducible refine (fencepostref10_Same.calls kj96 _ _ t220 _ _ t223 _ _ t228 _ _ t231 t236 _ ?side1 ?side2 ?side3 ?side4 ?side5 ?side6 ?side7 ?side8 A165.out).mono ?_); (case side1 => refine (Kd.V_reads' (e := 3) (base := w.heap.size) (ok := fun k_ => (((k_ ≠ gb182 ∧ (k_ ≠ gb183 ∧ (k_ ≠ gb194 ∧ (k_ ≠ gb201 ∧ (k_ ≠ gb209 ∧ k_ ≠ gb217))))) ∧ k_ ≠ gb227) ∧ k_ ≠ gb235)) (n := t220.length) (c := co179) ?_).2.2; exact (by (with_reducible repeat (first | apply Kd.V_alloc | apply Kd.V_drewN | apply Kd.V_drew)); exact (Kd.V_mono (Kd.V_far (p := ⟨gb235, 1, none⟩) (Kd.V_far (p := ⟨gb235, 0, none⟩) (Kd.V_mono HO222.out (fun k_ hk => (⟨hk, hk.2⟩ : _ ∧ k_ ≠ gb235))) (fun _ hk => hk.2) (.slice Ao195 t228.length co195)) (fun _ hk => hk.2) (.slice Ao204 t231.length co204)) (fun _ h_ => h_.1)))); (case side2 => exact (Kd.V_reads' HO222.out).2.1); (case side3 => refine (Kd.V_reads' (e := 45) (base := w.heap.size) (ok := fun k_ => (((k_ ≠ gb182 ∧ (k_ ≠ gb183 ∧ (k_ ≠ gb194 ∧ (k_ ≠ gb201 ∧ (k_ ≠ gb209 ∧ k_ ≠ gb217))))) ∧ k_ ≠ gb227) ∧ k_ ≠ gb235)) (n := t223.length) (c := co187) ?_).2.2; exact (by (with_reducible repeat (first | apply Kd.V_alloc | apply Kd.V_drewN | apply Kd.V_drew)); exact (Kd.V_mono (Kd.V_far (p := ⟨gb235, 1, none⟩) (Kd.V_far (p := ⟨gb235, 0, none⟩) (Kd.V_mono HO225.out (fun k_ hk => (⟨hk, hk.2⟩ : _ ∧ k_ ≠ gb235))) (fun _ hk => hk.2) (.slice Ao195 t228.length co195)) (fun _ hk => hk.2) (.slice Ao204 t231.length co204)) (fun _ h_ => h_.1)))); (case side4 => exact (Kd.V_reads' HO225.out).2.1); (case side5 => refine (Kd.V_reads' (e := 3) (base := w.heap.size) (ok := fun k_ => ((k_ ≠ gb182 ∧ (k_ ≠ gb183 ∧ (k_ ≠ gb194 ∧ (k_ ≠ gb201 ∧ (k_ ≠ gb209 ∧ (k_ ≠ gb217 ∧ k_ ≠ gb227)))))) ∧ k_ ≠ gb235)) (n := t228.length) (c := co195) ?_).2.2; exact (by (with_reducible repeat (first | apply Kd.V_alloc | apply Kd.V_drewN | apply Kd.V_drew)); exact (Kd.V_mono (Kd.V_far (p := ⟨gb235, 1, none⟩) (Kd.V_far (p := ⟨gb235, 0, none⟩) (Kd.V_mono HO230.out (fun k_ hk => (⟨hk, hk.2⟩ : _ ∧ k_ ≠ gb235))) (fun _ hk => hk.2) (.slice Ao195 t228.length co195)) (fun _ hk => hk.2) (.slice Ao204 t231.length co204)) (fun _ h_ => h_.1)))); (case side6 => exact (Kd.V_reads' HO230.out).2.1); (case side7 => refine (Kd.V_reads' (e := 45) (base := w.heap.size) (ok := fun k_ => ((k_ ≠ gb182 ∧ (k_ ≠ gb183 ∧ (k_ ≠ gb194 ∧ (k_ ≠ gb201 ∧ (k_ ≠ gb209 ∧ (k_ ≠ gb217 ∧ k_ ≠ gb227)))))) ∧ k_ ≠ gb235)) (n := t231.length) (c := co204) ?_).2.2; exact (by (with_reducible repeat (first | apply Kd.V_alloc | apply Kd.V_drewN | apply Kd.V_drew)); exact (Kd.V_mono (Kd.V_far (p := ⟨gb235, 1, none⟩) (Kd.V_far (p := ⟨gb235, 0, none⟩) (Kd.V_mono HO233.out (fun k_ hk => (⟨hk, hk.2⟩ : _ ∧ k_ ≠ gb235))) (fun _ hk => hk.2) (.slice Ao195 t228.length co195)) (fun _ hk => hk.2) (.slice Ao204 t231.length co204)) (fun _ h_ => h_.1)))); (case side8 => exact (Kd.V_reads' HO233.out).2.1); rintro e w206 ⟨rfl, hb⟩; have n0_ := Aside0.mk (Kd.V_below (by (with_reducible repeat (first | apply Kd.V_alloc | apply Kd.V_drewN | apply Kd.V_drew)); exact (Kd.V_mono (Kd.V_far (p := ⟨gb235, 1, none⟩) (Kd.V_far (p := ⟨gb235, 0, none⟩) (Kd.V_mono HO_210000.out (fun k_ hk => (⟨hk, hk.2⟩ : _ ∧ k_ ≠ gb235))) (fun _ hk => hk.2) (.slice Ao195 t228.length co195)) (fun _ hk => hk.2) (.slice Ao204 t231.length co204)) (fun _ h_ => h_.1))) hb); have n1_ := Aside0.mk (Kd.V_below (by (with_reducible repeat (first | apply Kd.V_alloc | apply Kd.V_drewN | apply Kd.V_drew)); exact (Kd.V_mono (Kd.V_far (p := ⟨gb235, 1, none⟩) (Kd.V_far (p := ⟨gb235, 0, none⟩) (Kd.V_mono HO_210001.out (fun k_ hk => (⟨hk, hk.2⟩ : _ ∧ k_ ≠ gb235))) (fun _ hk => hk.2) (.slice Ao195 t228.length co195)) (fun _ hk => hk.2) (.slice Ao204 t231.length co204)) (fun _ h_ => h_.1))) hb); have n2_ := Aside0.mk (Kd.V_below (by (with_reducible repeat (first | apply Kd.V_alloc | apply Kd.V_drewN | apply Kd.V_drew)); exact (Kd.V_mono (Kd.V_far (p := ⟨gb235, 1, none⟩) (Kd.V_far (p := ⟨gb235, 0, none⟩) (Kd.V_mono HO_218000.out (fun k_ hk => (⟨hk, hk.2⟩ : _ ∧ k_ ≠ gb235))) (fun _ hk => hk.2) (.slice Ao195 t228.length co195)) (fun _ hk => hk.2) (.slice Ao204 t231.length co204)) (fun _ h_ => h_.1))) hb); have n3_ := Aside0.mk (Kd.V_below (by (with_reducible repeat (first | apply Kd.V_alloc | apply Kd.V_drewN | apply Kd.V_drew)); exact (Kd.V_mono (Kd.V_far (p := ⟨gb235, 1, none⟩) (Kd.V_far (p := ⟨gb235, 0, none⟩) (Kd.V_mono HO_218001.out (fun k_ hk => (⟨hk, hk.2⟩ : _ ∧ k_ ≠ gb235))) (fun _ hk => hk.2) (.slice Ao195 t228.length co195)) (fun _ hk => hk.2) (.slice Ao204 t231.length co204)) (fun _ h_ => h_.1))) hb); have n4_ := Aside0.mk (Kd.V_below (by (with_reducible repeat (first | apply Kd.V_alloc | apply Kd.V_drewN | apply Kd.V_drew)); exact (Kd.V_mono (Kd.V_far (p := ⟨gb235, 1, none⟩) (Kd.V_far (p := ⟨gb235, 0, none⟩) (Kd.V_mono HO222.out (fun k_ hk => (⟨hk, hk.2⟩ : _ ∧ k_ ≠ gb235))) (fun _ hk => hk.2) (.slice Ao195 t228.length co195)) (fun _ hk => hk.2) (.slice Ao204 t231.length co204)) (fun _ h_ => h_.1))) hb); have n5_ := Aside0.mk (Kd.V_below (by (with_reducible repeat (first | apply Kd.V_alloc | apply Kd.V_drewN | apply Kd.V_drew)); exact (Kd.V_mono (Kd.V_far (p := ⟨gb235, 1, none⟩) (Kd.V_far (p := ⟨gb235, 0, none⟩) (Kd.V_mono HO225.out (fun k_ hk => (⟨hk, hk.2⟩ : _ ∧ k_ ≠ gb235))) (fun _ hk => hk.2) (.slice Ao195 t228.length co195)) (fun _ hk => hk.2) (.slice Ao204 t231.length co204)) (fun _ h_ => h_.1))) hb); have n6_ := Aside0.mk (Kd.V_below (by (with_reducible repeat (first | apply Kd.V_alloc | apply Kd.V_drewN | apply Kd.V_drew)); exact (Kd.V_mono (Kd.V_far (p := ⟨gb235, 1, none⟩) (Kd.V_far (p := ⟨gb235, 0, none⟩) (Kd.V_mono HO230.out (fun k_ hk => (⟨hk, hk.2⟩ : _ ∧ k_ ≠ gb235))) (fun _ hk => hk.2) (.slice Ao195 t228.length co195)) (fun _ hk => hk.2) (.slice Ao204 t231.length co204)) (fun _ h_ => h_.1))) hb); have n7_ := Aside0.mk (Kd.V_below (by (with_reducible repeat (first | apply Kd.V_alloc | apply Kd.V_drewN | apply Kd.V_drew)); exact (Kd.V_mono (Kd.V_far (p := ⟨gb235, 1, none⟩) (Kd.V_far (p := ⟨gb235, 0, none⟩) (Kd.V_mono HO233.out (fun k_ hk => (⟨hk, hk.2⟩ : _ ∧ k_ ≠ gb235))) (fun _ hk => hk.2) (.slice Ao195 t228.length co195)) (fun _ hk => hk.2) (.slice Ao204 t231.length co204)) (fun _ h_ => h_.1))) hb); have n8_ := Aside0.mk (blk_below (g := gb182) (o := .cells #[.slice A0_0 l0_0.length c0_0, .slice A0_1 l0_1.length c0_1] 25 (0, 0)) (by (with_reducible repeat (first | refine blk_drewN ?_ _ | refine blk_drew ?_ | refine blk_alloc ?_ _)); refine blk_far ?_ NB182_235.out _; (with_reducible repeat (first | refine blk_drewN ?_ _ | refine blk_drew ?_ | refine blk_alloc ?_ _)); refine blk_far ?_ NB182_235.out _; (with_reducible repeat (first | refine blk_drewN ?_ _ | refine blk_drew ?_ | refine blk_alloc ?_ _)); exact BK182.out) hb); have n9_ := Aside0.mk (blk_below (g := gb183) (o := .cells #[.slice A1_0 l1_0.length c1_0, .slice A1_1 l1_1.length c1_1] 28 (0, 0)) (by (with_reducible repeat (first | refine blk_drewN ?_ _ | refine blk_drew ?_ | refine blk_alloc ?_ _)); refine blk_far ?_ NB183_235.out _; (with_reducible repeat (first | refine blk_drewN ?_ _ | refine blk_drew ?_ | refine blk_alloc ?_ _)); refine blk_far ?_ NB183_235.out _; (with_reducible repeat (first | refine blk_drewN ?_ _ | refine blk_drew ?_ | refine blk_alloc ?_ _)); exact BK183.out) hb); have n10_ := Aside0.mk (blk_below (g := gb194) (o := .cells #[.int .i64 t188, .int .i64 t189, .int .i64 t190, .int .i64 t191, .int .i64 t192] 39 (0, 0)) (by (with_reducible repeat (first | refine blk_drewN ?_ _ | refine blk_drew ?_ | refine blk_alloc ?_ _)); refine blk_far ?_ NB194_235.out _; (with_reducible repeat (first | refine blk_drewN ?_ _ | refine blk_drew ?_ | refine blk_alloc ?_ _)); refine blk_far ?_ NB194_235.out _; (with_reducible repeat (first | refine blk_drewN ?_ _ | refine blk_drew ?_ | refine blk_alloc ?_ _)); exact BK194.out) hb); have n11_ := Aside0.mk (blk_below (g := gb201) (o := .cells #[.int .i64 t195, .int .i64 t196, .int .i64 t197, .int .i64 t198, .int .i64 t199] 39 (0, 0)) (by (with_reducible repeat (first | refine blk_drewN ?_ _ | refine blk_drew ?_ | refine blk_alloc ?_ _)); refine blk_far ?_ NB201_235.out _; (with_reducible repeat (first | refine blk_drewN ?_ _ | refine blk_drew ?_ | refine blk_alloc ?_ _)); refine blk_far ?_ NB201_235.out _; (with_reducible repeat (first | refine blk_drewN ?_ _ | refine blk_drew ?_ | refine blk_alloc ?_ _)); exact BK201.out) hb); have n12_ := Aside0.mk (blk_below (g := gb209) (o := .cells #[.slice Ao107 t202.length co107, .slice Ao113 t205.length co113] 28 (0, 0)) (by (with_reducible repeat (first | refine blk_drewN ?_ _ | refine blk_drew ?_ | refine blk_alloc ?_ _)); refine blk_far ?_ NB209_235.out _; (with_reducible repeat (first | refine blk_drewN ?_ _ | refine blk_drew ?_ | refine blk_alloc ?_ _)); refine blk_far ?_ NB209_235.out _; (with_reducible repeat (first | refine blk_drewN ?_ _ | refine blk_drew ?_ | refine blk_alloc ?_ _)); exact BK209.out) hb); have n13_ := Aside0.mk (blk_below (g := gb217) (o := .cells #[.slice Ao118 t210.length co118, .slice Ao125 t213.length co125] 28 (0, 0)) (by (with_reducible repeat (first | refine blk_drewN ?_ _ | refine blk_drew ?_ | refine blk_alloc ?_ _)); refine blk_far ?_ NB217_235.out _; (with_reducible repeat (first | refine blk_drewN ?_ _ | refine blk_drew ?_ | refine blk_alloc ?_ _)); refine blk_far ?_ NB217_235.out _; (with_reducible repeat (first | refine blk_drewN ?_ _ | refine blk_drew ?_ | refine blk_alloc ?_ _)); exact BK217.out) hb); have n14_ := Aside0.mk (blk_below (g := gb227) (o := .cells #[.slice Ao179 t220.length co179, .slice Ao187 t223.length co187] 28 (0, 0)) (by (with_reducible repeat (first | refine blk_drewN ?_ _ | refine blk_drew ?_ | refine blk_alloc ?_ _)); refine blk_far ?_ NB227_235.out _; (with_reducible repeat (first | refine blk_drewN ?_ _ | refine blk_drew ?_ | refine blk_alloc ?_ _)); refine blk_far ?_ NB227_235.out _; (with_reducible repeat (first | refine blk_drewN ?_ _ | refine blk_drew ?_ | refine blk_alloc ?_ _)); exact BK227.out) hb); have n15_ := Aside0.mk (blk_below (g := gb235) (o := .cells #[.slice Ao195 t228.length co195, .slice Ao204 t231.length co204] 28 (0, 0)) (by (with_reducible repeat (first | refine blk_drewN ?_ _ | refine blk_drew ?_ | refine blk_alloc ?_ _)); refine blk_put (cs := #[.slice Ao195 t228.length co195, .slice none 0 0]) ?_ 1 _ rfl; (with_reducible repeat (first | refine blk_drewN ?_ _ | refine blk_drew ?_ | refine blk_alloc ?_ _)); refine blk_put (cs := #[.slice none 0 0, .slice none 0 0]) ?_ 0 _ rfl; (with_reducible repeat (first | refine blk_drewN ?_ _ | refine blk_drew ?_ | refine blk_alloc ?_ _)); exact BK235.out) hb); have n16_ := Aside0.mk (below_step (by repeat (first | (with_reducible first | exact HB.out | apply below_alloc | apply pw_below_drewN | apply below_drew1 | refine below_set ?_ GE182.out | refine below_set ?_ GE183.out | refine below_set ?_ GE194.out | refine below_set ?_ GE201.out | refine below_set ?_ GE209.out | refine below_set ?_ GE217.out | refine below_set ?_ GE227.out | refine below_set ?_ GE235.out) | exact HB.out)) hb); clear HO_210000; clear HO_210001; clear HO_218000; clear HO_218001; clear HO222; clear HO225; clear HO230; clear HO233; clear BK182; clear BK183; clear BK194; clear BK201; clear BK209; clear BK217; clear BK227; clear BK235; clear HB; have HO_210000 := n0_; have HO_210001 := n1_; have HO_218000 := n2_; have HO_218001 := n3_; have HO222 := n4_; have HO225 := n5_; have HO230 := n6_; have HO233 := n7_; have BK182 := n8_; have BK183 := n9_; have BK194 := n10_; have BK201 := n11_; have BK209 := n12_; have BK217 := n13_; have BK227 := n14_; have BK235 := n15_; have HB := n16_; clear n0_ n1_ n2_ n3_ n4_ n5_ n6_ n7_ n8_ n9_ n10_ n11_ n12_ n13_ n14_ n15_ n16_; (try clear hb); (try clear hb2); (try clear hk); (try clear hi)))
                  go_ret
                  exact ⟨by first | rfl | (simp [errW_none, errW_some] <;> rfl) | (simp [*, errW_none, errW_some] <;> rfl), by repeat (first | (with_reducible first | exact HB.out | apply below_alloc | apply pw_below_drewN | apply below_drew1 | refine below_set ?_ GE182.out | refine below_set ?_ GE183.out | refine below_set ?_ GE194.out | refine below_set ?_ GE201.out | refine below_set ?_ GE209.out | refine below_set ?_ GE217.out | refine below_set ?_ GE227.out | refine below_set ?_ GE235.out) | exact HB.out)⟩
                 ·replace c164 := Bool.eq_false_iff.mpr c164
                  subst c164
                  have H1 : (some false) = some r := by rw [if_neg (show ¬ (false = true) by decide)] at H; exact H
                  clear H
                  have H := H1
                  clear H1
                  exact absurd ((Option.some.inj H).trans HT.out) (by simp)
                ·replace c163 := Bool.eq_false_iff.mpr c163
                 subst c163
                 have H1 : (some false) = some r := by rw [if_neg (show ¬ (false = true) by decide)] at H; exact H
                 clear H
                 have H := H1
                 clear H1
                 exact absurd ((Option.some.inj H).trans HT.out) (by simp)
               ·replace c162 := Bool.eq_false_iff.mpr c162
                subst c162
                have H1 : (some false) = some r := by rw [if_neg (show ¬ (false = true) by decide)] at H; exact H
                clear H
                have H := H1
                clear H1
                exact absurd ((Option.some.inj H).trans HT.out) (by simp)
end Go.Proofs.Ytdliojcpnkggnaa.Print
