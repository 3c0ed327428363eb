-- Written by ownprint.py (this session's) with the kit's print.py: functions, contracts, rows; Lean checks it.
import Derived.Test.YtijpfonbeepmfaaPrint0
import Derived.Test.YtijpfonbeepmfaaPrint5
import Derived.Test.YtijpfonbeepmfaaPrint6
import Derived.Test.YtijpfonbeepmfaaPrint10
import Derived.Test.YtijpfonbeepmfaaPrint11
import Derived.Test.YtijpfonbeepmfaaPrint12
import Derived.Test.YtijpfonbeepmfaaPrint14
import Derived.Test.YtijpfonbeepmfaaPrint15
import Derived.Test.YtijpfonbeepmfaaPrint16
import Derived.Test.YtijpfonbeepmfaaPrint1
import Derived.Test.YtijpfonbeepmfaaHHead08
import Derived.Test.YtijpfonbeepmfaaHSlErase
import Derived.Test.YtijpfonbeepmfaaHSlFence
import Derived.Test.YtijpfonbeepmfaaHSlInsert
import Derived.Test.YtijpfonbeepmfaaHSlOf
namespace Go.Proofs.Ytijpfonbeepmfaa.Print
open Go.RowKit Go.Proofs.YtijpfonbeepmfaaW.PrintWords Go.Proofs.YtijpfonbeepmfaaW.PrintLast Go.Proofs.YtijpfonbeepmfaaW.PrintMore
attribute [local go_sem] max2_int min2_int max_two min_two max_three min_three max_four min_four   -- for this text's walks alone
set_option linter.unusedVariables false
set_option linter.unusedSimpArgs false
def fencepostlaw08_SlotsTells.j0 : Nat → List Int → Int → Int → Int → Bool → Bool → List Int → List (List (S53)) → ByteArray → List (S62) → List (S58) → Bool → List (S64) → Option (Bool)
 | 0, _, _, _, _, _, _, _, _, _, _, _, _, _ => none
 | k + 1, x2, x3, x4, x5, x13, x35, x271000, x271001, x272000, x272001, x272002, x272003, x272004 => if x35 = true then (some x13) else ((slots_Of.f x271000 x271001 x3).bind fun bt275 => ((fencepostref08_Of.f k x271000 x271001 x3).bind fun bt278 => ((slots_Erase.f x272000 x272001 x272002 x272003 x272004 x2).bind fun bt281 => ((fencepostref08_Erase.f k x272000 x272001 x272002 x272003 x272004 x2).bind fun bt294 => (if x13 = true then ((slots_Many.f x271000 x271001).bind fun t307 => ((fencepostref08_Many.f k x271000 x271001).bind fun t308 => (if t307 = t308 then (if bt275.1 = bt278.1 then (if bt275.2.1 = bt278.2.1 then (if (bt275.2.2 == bt278.2.2) = true then ((slots_Num.f x271000 x271001 x4 x5).bind fun t309 => ((fencepostref08_Num.f k x271000 x271001 x4 x5).bind fun t310 => (if t309 = t310 then ((slots_Insert.f x271000 x271001 x2).bind fun bt311 => ((fencepostref08_Insert.f k x271000 x271001 x2).bind fun bt317 => ((fencepostref07_Same.f k bt311.1 bt311.2 bt317.1 bt317.2).bind fun t323 => (if t323 = true then ((slots_Fence.f x272000 x272001 x272002 x272003 x272004 x2).bind fun bt324 => ((fencepostref08_Fence.f k x272000 x272001 x272002 x272003 x272004 x2).bind fun bt335 => ((fencepostref04_Same.f k bt324.1 bt324.2.1 bt324.2.2.1 bt324.2.2.2.1 bt324.2.2.2.2 bt335.1 bt335.2.1 bt335.2.2.1 bt335.2.2.2.1 bt335.2.2.2.2).bind fun t346 => (if t346 = true then ((fencepostref04_Same.f k bt281.1 bt281.2.1 bt281.2.2.1 bt281.2.2.2.1 bt281.2.2.2.2.1 bt294.1 bt294.2.1 bt294.2.2.1 bt294.2.2.2.1 bt294.2.2.2.2.1).bind fun t347 => (if t347 = true then (some (bt281.2.2.2.2.2 == bt294.2.2.2.2.2)) else (some false))) else (some false))))) else (some false))))) else (some false)))) else (some false)) else (some false)) else (some false)) else (some false)))) else (some false))))))
def fencepostlaw08_SlotsTells.f (k : Nat) (l0_0 : List Int) (l0_1 : List (List (S53))) (a1_0 : ByteArray) (l1_1 : List (S62)) (l1_2 : List (S58)) (a1_3 : Bool) (l1_4 : List (S64)) (l2 : List Int) (a3 : Int) (a4 : Int) (a5 : Int) : Option (Bool) := (fencepostlaw08_head.f).bind fun t272 => ((fencepostlaw08_Great.f k l0_0 l0_1).bind fun t273 => (if t273 = true then (fencepostlaw08_SlotsTells.j0 k l2 a3 a4 a5 t272 true l0_0 l0_1 a1_0 l1_1 l1_2 a1_3 l1_4) else ((fencepostlaw04_Great.f k a1_0 l1_1 l1_2 a1_3 l1_4).bind fun t274 => (if t274 = true then (fencepostlaw08_SlotsTells.j0 k l2 a3 a4 a5 t272 true l0_0 l0_1 a1_0 l1_1 l1_2 a1_3 l1_4) else (fencepostlaw08_SlotsTells.j0 k l2 a3 a4 a5 t272 (decide ((l2.length : Int) > 100)) l0_0 l0_1 a1_0 l1_1 l1_2 a1_3 l1_4)))))
theorem fencepostlaw08_SlotsTells.mono_l : ∀ k, (∀ y0 y1 y2 y3 y4 y5 y6 y7 y8 y9 y10 y11 y12, LeO (fencepostlaw08_SlotsTells.j0 k y0 y1 y2 y3 y4 y5 y6 y7 y8 y9 y10 y11 y12) (fencepostlaw08_SlotsTells.j0 (k + 1) y0 y1 y2 y3 y4 y5 y6 y7 y8 y9 y10 y11 y12))
 | 0 => fun _ _ _ _ _ _ _ _ _ _ _ _ _ r h => by simp [fencepostlaw08_SlotsTells.j0] at h
 | k + 1 => by
  have ih0 := fencepostlaw08_SlotsTells.mono_l k
  ·intro y0 y1 y2 y3 y4 y5 y6 y7 y8 y9 y10 y11 y12
   unfold fencepostlaw08_SlotsTells.j0
   repeat' first
   | (with_reducible exact ih0 _ _ _ _ _ _ _ _ _ _ _ _ _)
   | (with_reducible exact fencepostlaw04_Great.mono _ _ _ _ _ _)
   | (with_reducible exact fencepostlaw08_Great.mono _ _ _)
   | (with_reducible exact fencepostref04_Same.mono _ _ _ _ _ _ _ _ _ _ _)
   | (with_reducible exact fencepostref07_Same.mono _ _ _ _ _)
   | (with_reducible exact fencepostref08_Erase.mono _ _ _ _ _ _ _)
   | (with_reducible exact fencepostref08_Fence.mono _ _ _ _ _ _ _)
   | (with_reducible exact fencepostref08_Insert.mono _ _ _ _)
   | (with_reducible exact fencepostref08_Many.mono _ _ _)
   | (with_reducible exact fencepostref08_Num.mono _ _ _ _ _)
   | (with_reducible exact fencepostref08_Of.mono _ _ _ _)
   | (with_reducible exact LeO.refl _)
   | (with_reducible exact LeO.none _)
   | (with_reducible refine LeO.ite ?_ ?_)
   | (with_reducible refine LeO.bind ?_ (fun _ => ?_))
   | exact ih0 _ _ _ _ _ _ _ _ _ _ _ _ _
   | exact fencepostlaw04_Great.mono _ _ _ _ _ _
   | exact fencepostlaw08_Great.mono _ _ _
   | exact fencepostref04_Same.mono _ _ _ _ _ _ _ _ _ _ _
   | exact fencepostref07_Same.mono _ _ _ _ _
   | exact fencepostref08_Erase.mono _ _ _ _ _ _ _
   | exact fencepostref08_Fence.mono _ _ _ _ _ _ _
   | exact fencepostref08_Insert.mono _ _ _ _
   | exact fencepostref08_Many.mono _ _ _
   | exact fencepostref08_Num.mono _ _ _ _ _
   | exact fencepostref08_Of.mono _ _ _ _
   | exact LeO.none _
   | refine LeO.ite ?_ ?_
   | refine LeO.bind ?_ (fun _ => ?_)
theorem fencepostlaw08_SlotsTells.mono : ∀ a0 a1 a2 a3 a4 a5 a6 a7 a8 a9 a10 k, LeO (fencepostlaw08_SlotsTells.f k a0 a1 a2 a3 a4 a5 a6 a7 a8 a9 a10) (fencepostlaw08_SlotsTells.f (k + 1) a0 a1 a2 a3 a4 a5 a6 a7 a8 a9 a10) := by
 intro a0 a1 a2 a3 a4 a5 a6 a7 a8 a9 a10 k
 have ih0 := fencepostlaw08_SlotsTells.mono_l k
 unfold fencepostlaw08_SlotsTells.f
 repeat' first
  | (with_reducible exact ih0 _ _ _ _ _ _ _ _ _ _ _ _ _)
  | (with_reducible exact fencepostlaw04_Great.mono _ _ _ _ _ _)
  | (with_reducible exact fencepostlaw08_Great.mono _ _ _)
  | (with_reducible exact fencepostref04_Same.mono _ _ _ _ _ _ _ _ _ _ _)
  | (with_reducible exact fencepostref07_Same.mono _ _ _ _ _)
  | (with_reducible exact fencepostref08_Erase.mono _ _ _ _ _ _ _)
  | (with_reducible exact fencepostref08_Fence.mono _ _ _ _ _ _ _)
  | (with_reducible exact fencepostref08_Insert.mono _ _ _ _)
  | (with_reducible exact fencepostref08_Many.mono _ _ _)
  | (with_reducible exact fencepostref08_Num.mono _ _ _ _ _)
  | (with_reducible exact fencepostref08_Of.mono _ _ _ _)
  | (with_reducible exact LeO.refl _)
  | (with_reducible exact LeO.none _)
  | (with_reducible refine LeO.ite ?_ ?_)
  | (with_reducible refine LeO.bind ?_ (fun _ => ?_))
  | exact ih0 _ _ _ _ _ _ _ _ _ _ _ _ _
  | exact fencepostlaw04_Great.mono _ _ _ _ _ _
  | exact fencepostlaw08_Great.mono _ _ _
  | exact fencepostref04_Same.mono _ _ _ _ _ _ _ _ _ _ _
  | exact fencepostref07_Same.mono _ _ _ _ _
  | exact fencepostref08_Erase.mono _ _ _ _ _ _ _
  | exact fencepostref08_Fence.mono _ _ _ _ _ _ _
  | exact fencepostref08_Insert.mono _ _ _ _
  | exact fencepostref08_Many.mono _ _ _
  | exact fencepostref08_Num.mono _ _ _ _ _
  | exact fencepostref08_Of.mono _ _ _ _
  | exact LeO.none _
  | refine LeO.ite ?_ ?_
  | refine LeO.bind ?_ (fun _ => ?_)
def fencepostlaw08_SlotsTells.T8 : Bool × List (List Nat × List Nat) := (true, [([], []), ([0], [0]), ([1], [1]), ([2, 1, 1], [1, 2]), ([1], [1]), ([4, 3, 1], [1, 4]), ([3, 5, 1], [1, 3, 5]), ([1, 6], [1, 6]), ([7, 5], [7]), ([8], [8]), ([8], [8]), ([9, 10, 8], [8, 9, 10]), ([8, 11], [8, 11]), ([12, 8], [12]), ([13], [13]), ([13], [13]), ([14, 15, 13], [13, 14, 15]), ([13, 16], [13, 16]), ([17, 13], [17]), ([18], [18]), ([18], [18]), ([19, 20, 18], [18, 19, 20]), ([18, 21], [18, 21]), ([22, 18], [22]), ([23], [23]), ([23], [23]), ([23], [23]), ([24, 25, 26, 23, 23], [23, 24, 25, 26]), ([23], [23]), ([23], [23]), ([23], [23]), ([28, 29, 30, 27, 23], [23, 28, 29, 30]), ([27, 31, 23], [23, 27, 31]), ([23, 32], [23, 32]), ([33, 31], [33]), ([34], [34]), ([34], [34]), ([35, 36, 34, 34], [34, 35, 36]), ([34], [34]), ([34], [34]), ([38, 39, 37, 34], [34, 38, 39]), ([37, 40, 40, 34], [34, 37, 40]), ([34, 41], [34, 41]), ([42, 41], [42]), ([43], [43]), ([43], [43]), ([44, 45, 43, 43], [43, 44, 45]), ([43], [43]), ([43], [43]), ([47, 48, 46, 43], [43, 47, 48]), ([46, 49, 49, 43], [43, 46, 49]), ([43, 50], [43, 50]), ([51, 50], [51]), ([52], [52]), ([52], [52]), ([53, 54, 52, 52], [52, 53, 54]), ([52, 55], [52, 55]), ([56, 55], [56]), ([57], [57]), ([57], [57]), ([58, 59, 57], [57, 58, 59]), ([57, 60], [57, 60]), ([61, 57, 0, 1, 2, 3, 4, 5, 6, 7, 8, 9, 10, 11, 12, 13, 14, 15, 16, 17, 18, 19, 20, 21, 22, 23, 24, 25, 26, 27, 28, 29, 30, 31, 32, 33, 34, 35, 36, 37, 38, 39, 40, 41, 42, 43, 44, 45, 46, 47, 48, 49, 50, 51, 52, 53, 54, 55, 56, 57, 58, 59, 60, 61], [61])])
def fencepostlaw08_SlotsTells.B8 : List Nat := [0, 1, 3, 7, 3, 31, 63, 127, 255, 511, 511, 2047, 4095, 8191, 16383, 16383, 65535, 131071, 262143, 524287, 524287, 2097151, 4194303, 8388607, 16777215, 16777215, 16777215, 134217727, 16777215, 16777215, 16777215, 2147483647, 4294967295, 8589934591, 17179869183, 34359738367, 34359738367, 137438953471, 34359738367, 34359738367, 1099511627775, 2199023255551, 4398046511103, 8796093022207, 17592186044415, 17592186044415, 70368744177663, 17592186044415, 17592186044415, 562949953421311, 1125899906842623, 2251799813685247, 4503599627370495, 9007199254740991, 9007199254740991, 36028797018963967, 72057594037927935, 144115188075855871, 288230376151711743, 288230376151711743, 1152921504606846975, 2305843009213693951, 4611686018427387903]
theorem fencepostlaw08_SlotsTells.tab8 : rtab .any (opsOf Try.f3 8) = fencepostlaw08_SlotsTells.T8 := by kernel_rfl
theorem fencepostlaw08_SlotsTells.bits8 : waitsOk fencepostlaw08_SlotsTells.T8.2 fencepostlaw08_SlotsTells.B8 = true := by kernel_rfl
set_option maxHeartbeats 8000000 in
set_option maxRecDepth 100000 in
theorem fencepostlaw08_SlotsTells.calls (k : Nat) (A0_0 : Option Addr) (c0_0 : Nat) (l0_0 : List Int) (A0_1 : Option Addr) (c0_1 : Nat) (l0_1 : List (List (S53))) (a1_0 : ByteArray) (A1_1 : Option Addr) (c1_1 : Nat) (l1_1 : List (S62)) (A1_2 : Option Addr) (c1_2 : Nat) (l1_2 : List (S58)) (a1_3 : Bool) (A1_4 : Option Addr) (c1_4 : Nat) (l1_4 : List (S64)) (A2 : Option Addr) (c2 : Nat) (l2 : List Int) (a3 : Int) (a4 : Int) (a5 : Int) (r : Bool) (w : World) (hr0_0 : Kd.C (Kd.int .i64) w A0_0 l0_0.length l0_0) (hc0_0 : l0_0.length ≤ c0_0) (hr0_1 : Kd.C (Kd.slice 53 k53) w A0_1 l0_1.length l0_1) (hc0_1 : l0_1.length ≤ c0_1) (hr1_1 : Kd.C k62 w A1_1 l1_1.length l1_1) (hc1_1 : l1_1.length ≤ c1_1) (hr1_2 : Kd.C k58 w A1_2 l1_2.length l1_2) (hc1_2 : l1_2.length ≤ c1_2) (hr1_4 : Kd.C k64 w A1_4 l1_4.length l1_4) (hc1_4 : l1_4.length ≤ c1_4) (hr2 : Kd.C (Kd.int .i64) w A2 l2.length l2) (hc2 : l2.length ≤ c2) (ht_ : r = true) (h : fencepostlaw08_SlotsTells.f k l0_0 l0_1 a1_0 l1_1 l1_2 a1_3 l1_4 l2 a3 a4 a5 = some r) :
 Calls Try.prog 3 #[.agg #[.slice A0_0 l0_0.length c0_0, .slice A0_1 l0_1.length c0_1], .agg #[.string a1_0, .slice A1_1 l1_1.length c1_1, .slice A1_2 l1_2.length c1_2, .bool a1_3, .slice A1_4 l1_4.length c1_4], .slice A2 l2.length c2, .int .i64 a3, .int .i64 a4, .int .i64 a5] w fun e w' => e = .returned (.bool r) ∧ Below w.heap.size w w' := by
 have hu25 := Try.underlying25
 have hu30 := Try.underlying30
 have HR0_0 := Aside0.mk hr0_0
 have HC0_0 := Aside0.mk hc0_0
 clear hr0_0 hc0_0
 have HR0_1 := Aside0.mk hr0_1
 have HC0_1 := Aside0.mk hc0_1
 clear hr0_1 hc0_1
 have HR1_1 := Aside0.mk hr1_1
 have HC1_1 := Aside0.mk hc1_1
 clear hr1_1 hc1_1
 have HR1_2 := Aside0.mk hr1_2
 have HC1_2 := Aside0.mk hc1_2
 clear hr1_2 hc1_2
 have HR1_4 := Aside0.mk hr1_4
 have HC1_4 := Aside0.mk hc1_4
 clear hr1_4 hc1_4
 have HR2 := Aside0.mk hr2
 have HC2 := Aside0.mk hc2
 clear hr2 hc2
 have HB := Aside0.mk (Below.refl w.heap.size w)
 have HT := Aside0.mk ht_
 clear ht_
 have H : ((fencepostlaw08_head.f).bind fun t272 => ((fencepostlaw08_Great.f k l0_0 l0_1).bind fun t273 => (if t273 = true then (fencepostlaw08_SlotsTells.j0 k l2 a3 a4 a5 t272 true l0_0 l0_1 a1_0 l1_1 l1_2 a1_3 l1_4) else ((fencepostlaw04_Great.f k a1_0 l1_1 l1_2 a1_3 l1_4).bind fun t274 => (if t274 = true then (fencepostlaw08_SlotsTells.j0 k l2 a3 a4 a5 t272 true l0_0 l0_1 a1_0 l1_1 l1_2 a1_3 l1_4) else (fencepostlaw08_SlotsTells.j0 k l2 a3 a4 a5 t272 (decide ((l2.length : Int) > 100)) l0_0 l0_1 a1_0 l1_1 l1_2 a1_3 l1_4)))))) = some r := h
 clear h
 replace H := Option.bind_eq_some_iff.mp H
 obtain ⟨t272, A70, H⟩ := H
 replace H : ((fencepostlaw08_Great.f k l0_0 l0_1).bind fun t273 => (if t273 = true then (fencepostlaw08_SlotsTells.j0 k l2 a3 a4 a5 t272 true l0_0 l0_1 a1_0 l1_1 l1_2 a1_3 l1_4) else ((fencepostlaw04_Great.f k a1_0 l1_1 l1_2 a1_3 l1_4).bind fun t274 => (if t274 = true then (fencepostlaw08_SlotsTells.j0 k l2 a3 a4 a5 t272 true l0_0 l0_1 a1_0 l1_1 l1_2 a1_3 l1_4) else (fencepostlaw08_SlotsTells.j0 k l2 a3 a4 a5 t272 (decide ((l2.length : Int) > 100)) l0_0 l0_1 a1_0 l1_1 l1_2 a1_3 l1_4))))) = some r := H
 have A7 := Aside0.mk A70
 clear A70
 have HC8 := Aside0.mk H
 clear H
 go_enter Try.func3, Try.ntmps3
 (try simp only [List.append_eq, List.cons_append, List.nil_append])
 go_upto_region 2 with (first | ((with_reducible refine gate_dst (N := 6) rfl ?_); (try (refine gate_guard (by rfl) ?_; dsimp only)); refine box_event ?hg (N := 6) ?hd (cs := #[.slice A0_0 l0_0.length c0_0, .slice A0_1 l0_1.length c0_1]) (t := 25) ?hr ?_; (case hd => rfl); (case hg => rfl); (case hr => first | (go_simp; done) | (go_simp; rfl)); intro gb270 hg w9 hbox hb; have n0_ := Aside0.mk (below_step (hb_ HB.out) hb); have n1_ := Aside0.mk (hbox); have n2_ := Aside0.mk (gs_ hg (hb_ HB.out)); have n3_ := Aside0.mk (gs_ hg (hb_ HB.out)); clear HB; have HB := n0_; have BK270 := n1_; have GW270 := n2_; have GE270 := n3_; clear n0_ n1_ n2_ n3_; clear hb hbox hg) | ((with_reducible refine gate_dst (N := 7) rfl ?_); (try (refine gate_guard (by rfl) ?_; dsimp only)); refine box_event ?hg (N := 7) ?hd (cs := #[.string a1_0, .slice A1_1 l1_1.length c1_1, .slice A1_2 l1_2.length c1_2, .bool a1_3, .slice A1_4 l1_4.length c1_4]) (t := 30) ?hr ?_; (case hd => rfl); (case hg => rfl); (case hr => first | (go_simp; done) | (go_simp; rfl)); intro gb271 hg w10 hbox hb; have n0_ := Aside0.mk (bb_ BK270.out hb); have n1_ := Aside0.mk (below_step (hb_ HB.out) hb); have n2_ := Aside0.mk (hbox); have n3_ := Aside0.mk (gs_ hg (hb_ HB.out)); have n4_ := Aside0.mk (gs_ hg (hb_ HB.out)); have n5_ := Aside0.mk (gn_ hg BK270.out); have n6_ := Aside0.mk (gn_ hg BK270.out).symm; clear BK270; clear HB; have BK270 := n0_; have HB := n1_; have BK271 := n2_; have GW271 := n3_; have GE271 := n4_; have NB270_271 := n5_; have NB271_270 := n6_; clear n0_ n1_ n2_ n3_ n4_ n5_ n6_; clear hb hbox hg) | ((with_reducible refine gate_callee (f := 10) rfl ?_); refine goesL_ (some 24) rfl rfl Try.func10 (by kernel_rfl) rfl #[] rfl ar_ ?_; (with_reducible refine (fencepostlaw08_head.calls  t272 _ A7.out).mono ?_); rintro e w11 ⟨rfl, hb⟩; refine ⟨_, rfl, ?_⟩; have n0_ := Aside0.mk (bb_ BK270.out hb); have n1_ := Aside0.mk (bb_ BK271.out hb); have n2_ := Aside0.mk (below_step (hb_ HB.out) hb); clear BK270; clear BK271; clear HB; have BK270 := n0_; have BK271 := n1_; have HB := n2_; clear n0_ n1_ n2_; (try clear hb); (try clear hb2); (try clear hk); (try clear hi)))
 (try simp only [Act.put, List.setIfInBounds_toArray, List.set_cons_zero, List.set_cons_succ])
 go_cut [35] (fun v35 wc => ∃ (kq : Nat) (x35_7 : Bool), v35 = .bool x35_7 ∧ Aside0 (fencepostlaw08_SlotsTells.j0 kq l2 a3 a4 a5 t272 x35_7 l0_0 l0_1 a1_0 l1_1 l1_2 a1_3 l1_4 = some r) ∧ Aside0 (kq ≤ k) ∧ Aside0 (wc.heap[gb270]? = some (.cells #[(.slice A0_0 l0_0.length c0_0), (.slice A0_1 l0_1.length c0_1)] 25 (0, 0))) ∧ Aside0 (wc.heap[gb271]? = some (.cells #[.string a1_0, (.slice A1_1 l1_1.length c1_1), (.slice A1_2 l1_2.length c1_2), .bool a1_3, (.slice A1_4 l1_4.length c1_4)] 30 (0, 0))) ∧ Aside0 (Below w.heap.size w wc))
 case first =>
  have H := HC8.out
  clear HC8
  replace H := Option.bind_eq_some_iff.mp H
  obtain ⟨t273, A120, H⟩ := H
  replace H : (if t273 = true then (fencepostlaw08_SlotsTells.j0 k l2 a3 a4 a5 t272 true l0_0 l0_1 a1_0 l1_1 l1_2 a1_3 l1_4) else ((fencepostlaw04_Great.f k a1_0 l1_1 l1_2 a1_3 l1_4).bind fun t274 => (if t274 = true then (fencepostlaw08_SlotsTells.j0 k l2 a3 a4 a5 t272 true l0_0 l0_1 a1_0 l1_1 l1_2 a1_3 l1_4) else (fencepostlaw08_SlotsTells.j0 k l2 a3 a4 a5 t272 (decide ((l2.length : Int) > 100)) l0_0 l0_1 a1_0 l1_1 l1_2 a1_3 l1_4)))) = some r := H
  have A12 := Aside0.mk A120
  clear A120
  by_cases c13 : t273 = true
  ·subst c13
   have H1 : (fencepostlaw08_SlotsTells.j0 k l2 a3 a4 a5 t272 true l0_0 l0_1 a1_0 l1_1 l1_2 a1_3 l1_4) = some r := by rw [if_pos rfl] at H; exact H
   clear H
   have H := H1
   clear H1
   have H' := Aside0.mk H
   clear H
   have hnb14 := NB270_271.out
   have hnc14 := NB271_270.out
   have hcz15_0 : w11.cell? ⟨gb270, 0, none⟩ = some (.slice A0_0 l0_0.length c0_0) := (blk_cell BK270.out 0).trans rfl
   have hcz15_1 : w11.cell? ⟨gb270, 1, none⟩ = some (.slice A0_1 l0_1.length c0_1) := (blk_cell BK270.out 1).trans rfl
   have hfz15_0 := blk_frozen BK270.out 0
   have hfz15_1 := blk_frozen BK270.out 1
   go_wp2_with (first | ((with_reducible refine gate_callee (f := 11) rfl ?_); refine goesL_ (some 26) rfl rfl Try.func11 (by kernel_rfl) rfl #[.agg #[.slice A0_0 l0_0.length c0_0, .slice A0_1 l0_1.length c0_1]] rfl ar_ ?_; (with_reducible refine (fencepostlaw08_Great.calls k _ _ l0_0 _ _ l0_1 true _ ?side1 ?side2 ?side3 ?side4 A12.out).mono ?_); (case side1 => exact cd_ (Kd.C_below HR0_0.out HB.out)); (case side2 => exact HC0_0.out); (case side3 => exact cd_ (Kd.C_below HR0_1.out HB.out)); (case side4 => exact HC0_1.out); rintro e w16 ⟨rfl, hb⟩; refine ⟨_, rfl, ?_⟩; have n0_ := Aside0.mk (bb_ BK270.out hb); have n1_ := Aside0.mk (bb_ BK271.out hb); have n2_ := Aside0.mk (below_step (hb_ HB.out) hb); clear BK270; clear BK271; clear HB; have BK270 := n0_; have BK271 := n1_; have HB := n2_; clear n0_ n1_ n2_; (try clear hb); (try clear hb2); (try clear hk); (try clear hi)))
   go_meet
   case rel => exact ⟨_, (true), rf_, H', ⟨by first | omega | exact Nat.le_refl _⟩, ⟨bd_ BK270.out⟩, ⟨bd_ BK271.out⟩, ⟨hb_ HB.out⟩⟩
  replace c13 := Bool.eq_false_iff.mpr c13
  subst c13
  have H1 : ((fencepostlaw04_Great.f k a1_0 l1_1 l1_2 a1_3 l1_4).bind fun t274 => (if t274 = true then (fencepostlaw08_SlotsTells.j0 k l2 a3 a4 a5 t272 true l0_0 l0_1 a1_0 l1_1 l1_2 a1_3 l1_4) else (fencepostlaw08_SlotsTells.j0 k l2 a3 a4 a5 t272 (decide ((l2.length : Int) > 100)) l0_0 l0_1 a1_0 l1_1 l1_2 a1_3 l1_4))) = some r := by rw [if_neg (show ¬ (false = true) by decide)] at H; exact H
  clear H
  have H := H1
  clear H1
  replace H := Option.bind_eq_some_iff.mp H
  obtain ⟨t274, A170, H⟩ := H
  replace H : (if t274 = true then (fencepostlaw08_SlotsTells.j0 k l2 a3 a4 a5 t272 true l0_0 l0_1 a1_0 l1_1 l1_2 a1_3 l1_4) else (fencepostlaw08_SlotsTells.j0 k l2 a3 a4 a5 t272 (decide ((l2.length : Int) > 100)) l0_0 l0_1 a1_0 l1_1 l1_2 a1_3 l1_4)) = some r := H
  have A17 := Aside0.mk A170
  clear A170
  by_cases c18 : t274 = true
  ·subst c18
   have H1 : (fencepostlaw08_SlotsTells.j0 k l2 a3 a4 a5 t272 true l0_0 l0_1 a1_0 l1_1 l1_2 a1_3 l1_4) = some r := by rw [if_pos rfl] at H; exact H
   clear H
   have H := H1
   clear H1
   have H' := Aside0.mk H
   clear H
   have hnb19 := NB270_271.out
   have hnc19 := NB271_270.out
   have hcz20_0 : w11.cell? ⟨gb270, 0, none⟩ = some (.slice A0_0 l0_0.length c0_0) := (blk_cell BK270.out 0).trans rfl
   have hcz20_1 : w11.cell? ⟨gb270, 1, none⟩ = some (.slice A0_1 l0_1.length c0_1) := (blk_cell BK270.out 1).trans rfl
   have hfz20_0 := blk_frozen BK270.out 0
   have hfz20_1 := blk_frozen BK270.out 1
   go_wp2_with (first | ((with_reducible refine gate_callee (f := 11) rfl ?_); refine goesL_ (some 26) rfl rfl Try.func11 (by kernel_rfl) rfl #[.agg #[.slice A0_0 l0_0.length c0_0, .slice A0_1 l0_1.length c0_1]] rfl ar_ ?_; (with_reducible refine (fencepostlaw08_Great.calls k _ _ l0_0 _ _ l0_1 false _ ?side1 ?side2 ?side3 ?side4 A12.out).mono ?_); (case side1 => exact cd_ (Kd.C_below HR0_0.out HB.out)); (case side2 => exact HC0_0.out); (case side3 => exact cd_ (Kd.C_below HR0_1.out HB.out)); (case side4 => exact HC0_1.out); rintro e w21 ⟨rfl, hb⟩; refine ⟨_, rfl, ?_⟩; have n0_ := Aside0.mk (bb_ BK270.out hb); have n1_ := Aside0.mk (bb_ BK271.out hb); have n2_ := Aside0.mk (below_step (hb_ HB.out) hb); clear BK270; clear BK271; clear HB; have BK270 := n0_; have BK271 := n1_; have HB := n2_; clear n0_ n1_ n2_; (try clear hb); (try clear hb2); (try clear hk); (try clear hi); have hcz22_0 : w21.cell? ⟨gb271, 0, none⟩ = some (.string a1_0) := (blk_cell BK271.out 0).trans rfl; have hcz22_1 : w21.cell? ⟨gb271, 1, none⟩ = some (.slice A1_1 l1_1.length c1_1) := (blk_cell BK271.out 1).trans rfl; have hcz22_2 : w21.cell? ⟨gb271, 2, none⟩ = some (.slice A1_2 l1_2.length c1_2) := (blk_cell BK271.out 2).trans rfl; have hcz22_3 : w21.cell? ⟨gb271, 3, none⟩ = some (.bool a1_3) := (blk_cell BK271.out 3).trans rfl; have hcz22_4 : w21.cell? ⟨gb271, 4, none⟩ = some (.slice A1_4 l1_4.length c1_4) := (blk_cell BK271.out 4).trans rfl; have hfz22_0 := blk_frozen BK271.out 0; have hfz22_1 := blk_frozen BK271.out 1; have hfz22_2 := blk_frozen BK271.out 2; have hfz22_3 := blk_frozen BK271.out 3; have hfz22_4 := blk_frozen BK271.out 4) | (go_at_call 12; (with_reducible refine (fencepostlaw04_Great.calls k a1_0 _ _ l1_1 _ _ l1_2 a1_3 _ _ l1_4 true _ ?side1 ?side2 ?side3 ?side4 ?side5 ?side6 A17.out).mono ?_); (case side1 => exact cd_ (Kd.C_below HR1_1.out HB.out)); (case side2 => exact HC1_1.out); (case side3 => exact cd_ (Kd.C_below HR1_2.out HB.out)); (case side4 => exact HC1_2.out); (case side5 => exact cd_ (Kd.C_below HR1_4.out HB.out)); (case side6 => exact HC1_4.out); rintro e w23 ⟨rfl, hb⟩; have n0_ := Aside0.mk (bb_ BK270.out hb); have n1_ := Aside0.mk (bb_ BK271.out hb); have n2_ := Aside0.mk (below_step (hb_ HB.out) hb); clear BK270; clear BK271; clear HB; have BK270 := n0_; have BK271 := n1_; have HB := n2_; clear n0_ n1_ n2_; (try clear hb); (try clear hb2); (try clear hk); (try clear hi)))
   go_meet
   case rel => exact ⟨_, (true), rf_, H', ⟨by first | omega | exact Nat.le_refl _⟩, ⟨bd_ BK270.out⟩, ⟨bd_ BK271.out⟩, ⟨hb_ HB.out⟩⟩
  replace c18 := Bool.eq_false_iff.mpr c18
  subst c18
  have H1 : (fencepostlaw08_SlotsTells.j0 k l2 a3 a4 a5 t272 (decide ((l2.length : Int) > 100)) l0_0 l0_1 a1_0 l1_1 l1_2 a1_3 l1_4) = some r := by rw [if_neg (show ¬ (false = true) by decide)] at H; exact H
  clear H
  have H := H1
  clear H1
  have H' := Aside0.mk H
  clear H
  have hnb24 := NB270_271.out
  have hnc24 := NB271_270.out
  have hcz25_0 : w11.cell? ⟨gb270, 0, none⟩ = some (.slice A0_0 l0_0.length c0_0) := (blk_cell BK270.out 0).trans rfl
  have hcz25_1 : w11.cell? ⟨gb270, 1, none⟩ = some (.slice A0_1 l0_1.length c0_1) := (blk_cell BK270.out 1).trans rfl
  have hfz25_0 := blk_frozen BK270.out 0
  have hfz25_1 := blk_frozen BK270.out 1
  go_wp2_with (first | ((with_reducible refine gate_callee (f := 11) rfl ?_); refine goesL_ (some 26) rfl rfl Try.func11 (by kernel_rfl) rfl #[.agg #[.slice A0_0 l0_0.length c0_0, .slice A0_1 l0_1.length c0_1]] rfl ar_ ?_; (with_reducible refine (fencepostlaw08_Great.calls k _ _ l0_0 _ _ l0_1 false _ ?side1 ?side2 ?side3 ?side4 A12.out).mono ?_); (case side1 => exact cd_ (Kd.C_below HR0_0.out HB.out)); (case side2 => exact HC0_0.out); (case side3 => exact cd_ (Kd.C_below HR0_1.out HB.out)); (case side4 => exact HC0_1.out); rintro e w26 ⟨rfl, hb⟩; refine ⟨_, rfl, ?_⟩; have n0_ := Aside0.mk (bb_ BK270.out hb); have n1_ := Aside0.mk (bb_ BK271.out hb); have n2_ := Aside0.mk (below_step (hb_ HB.out) hb); clear BK270; clear BK271; clear HB; have BK270 := n0_; have BK271 := n1_; have HB := n2_; clear n0_ n1_ n2_; (try clear hb); (try clear hb2); (try clear hk); (try clear hi); have hcz27_0 : w26.cell? ⟨gb271, 0, none⟩ = some (.string a1_0) := (blk_cell BK271.out 0).trans rfl; have hcz27_1 : w26.cell? ⟨gb271, 1, none⟩ = some (.slice A1_1 l1_1.length c1_1) := (blk_cell BK271.out 1).trans rfl; have hcz27_2 : w26.cell? ⟨gb271, 2, none⟩ = some (.slice A1_2 l1_2.length c1_2) := (blk_cell BK271.out 2).trans rfl; have hcz27_3 : w26.cell? ⟨gb271, 3, none⟩ = some (.bool a1_3) := (blk_cell BK271.out 3).trans rfl; have hcz27_4 : w26.cell? ⟨gb271, 4, none⟩ = some (.slice A1_4 l1_4.length c1_4) := (blk_cell BK271.out 4).trans rfl; have hfz27_0 := blk_frozen BK271.out 0; have hfz27_1 := blk_frozen BK271.out 1; have hfz27_2 := blk_frozen BK271.out 2; have hfz27_3 := blk_frozen BK271.out 3; have hfz27_4 := blk_frozen BK271.out 4) | (go_at_call 12; (with_reducible refine (fencepostlaw04_Great.calls k a1_0 _ _ l1_1 _ _ l1_2 a1_3 _ _ l1_4 false _ ?side1 ?side2 ?side3 ?side4 ?side5 ?side6 A17.out).mono ?_); (case side1 => exact cd_ (Kd.C_below HR1_1.out HB.out)); (case side2 => exact HC1_1.out); (case side3 => exact cd_ (Kd.C_below HR1_2.out HB.out)); (case side4 => exact HC1_2.out); (case side5 => exact cd_ (Kd.C_below HR1_4.out HB.out)); (case side6 => exact HC1_4.out); rintro e w28 ⟨rfl, hb⟩; have n0_ := Aside0.mk (bb_ BK270.out hb); have n1_ := Aside0.mk (bb_ BK271.out hb); have n2_ := Aside0.mk (below_step (hb_ HB.out) hb); clear BK270; clear BK271; clear HB; have BK270 := n0_; have BK271 := n1_; have HB := n2_; clear n0_ n1_ n2_; (try clear hb); (try clear hb2); (try clear hk); (try clear hi)))
  go_meet
  case rel => exact ⟨_, (decide ((l2.length : Int) > 100)), rf_, H', ⟨by first | omega | exact Nat.le_refl _⟩, ⟨bd_ BK270.out⟩, ⟨bd_ BK271.out⟩, ⟨hb_ HB.out⟩⟩
 clear HC8
 try clear c2
 obtain ⟨kq, x35_7, rfl, HA, HJ7, BK270, BK271, HB⟩ := hcut
 cases kq with
 | zero => exact absurd HA.out (by simp [fencepostlaw08_SlotsTells.j0])
 | succ kj7 => ?_
 have H := HA.out
 clear HA
 simp only [fencepostlaw08_SlotsTells.j0] at H
 by_cases c29 : x35_7 = true
 ·subst c29
  have H1 : (some t272) = some r := by rw [if_pos rfl] at H; exact H
  clear H
  have H := H1
  clear H1
  obtain rfl := Option.some.inj H
  go_wp2
  go_ret
  exact ⟨by first | rfl | (simp [errW_none, errW_some] <;> rfl) | (simp [*, errW_none, errW_some] <;> rfl), hb_ HB.out⟩
 replace c29 := Bool.eq_false_iff.mpr c29
 subst c29
 have H1 : ((slots_Of.f l0_0 l0_1 a3).bind fun bt275 => ((fencepostref08_Of.f kj7 l0_0 l0_1 a3).bind fun bt278 => ((slots_Erase.f a1_0 l1_1 l1_2 a1_3 l1_4 l2).bind fun bt281 => ((fencepostref08_Erase.f kj7 a1_0 l1_1 l1_2 a1_3 l1_4 l2).bind fun bt294 => (if t272 = true then ((slots_Many.f l0_0 l0_1).bind fun t307 => ((fencepostref08_Many.f kj7 l0_0 l0_1).bind fun t308 => (if t307 = t308 then (if bt275.1 = bt278.1 then (if bt275.2.1 = bt278.2.1 then (if (bt275.2.2 == bt278.2.2) = true then ((slots_Num.f l0_0 l0_1 a4 a5).bind fun t309 => ((fencepostref08_Num.f kj7 l0_0 l0_1 a4 a5).bind fun t310 => (if t309 = t310 then ((slots_Insert.f l0_0 l0_1 l2).bind fun bt311 => ((fencepostref08_Insert.f kj7 l0_0 l0_1 l2).bind fun bt317 => ((fencepostref07_Same.f kj7 bt311.1 bt311.2 bt317.1 bt317.2).bind fun t323 => (if t323 = true then ((slots_Fence.f a1_0 l1_1 l1_2 a1_3 l1_4 l2).bind fun bt324 => ((fencepostref08_Fence.f kj7 a1_0 l1_1 l1_2 a1_3 l1_4 l2).bind fun bt335 => ((fencepostref04_Same.f kj7 bt324.1 bt324.2.1 bt324.2.2.1 bt324.2.2.2.1 bt324.2.2.2.2 bt335.1 bt335.2.1 bt335.2.2.1 bt335.2.2.2.1 bt335.2.2.2.2).bind fun t346 => (if t346 = true then ((fencepostref04_Same.f kj7 bt281.1 bt281.2.1 bt281.2.2.1 bt281.2.2.2.1 bt281.2.2.2.2.1 bt294.1 bt294.2.1 bt294.2.2.1 bt294.2.2.2.1 bt294.2.2.2.2.1).bind fun t347 => (if t347 = true then (some (bt281.2.2.2.2.2 == bt294.2.2.2.2.2)) else (some false))) else (some false))))) else (some false))))) else (some false)))) else (some false)) else (some false)) else (some false)) else (some false)))) else (some false)))))) = some r := by rw [if_neg (show ¬ (false = true) by decide)] at H; exact H
 clear H
 have H := H1
 clear H1
 replace H := Option.bind_eq_some_iff.mp H
 obtain ⟨⟨t275, t276, t277⟩, A300, H⟩ := H
 replace H : ((fencepostref08_Of.f kj7 l0_0 l0_1 a3).bind fun bt278 => ((slots_Erase.f a1_0 l1_1 l1_2 a1_3 l1_4 l2).bind fun bt281 => ((fencepostref08_Erase.f kj7 a1_0 l1_1 l1_2 a1_3 l1_4 l2).bind fun bt294 => (if t272 = true then ((slots_Many.f l0_0 l0_1).bind fun t307 => ((fencepostref08_Many.f kj7 l0_0 l0_1).bind fun t308 => (if t307 = t308 then (if t275 = bt278.1 then (if t276 = bt278.2.1 then (if (t277 == bt278.2.2) = true then ((slots_Num.f l0_0 l0_1 a4 a5).bind fun t309 => ((fencepostref08_Num.f kj7 l0_0 l0_1 a4 a5).bind fun t310 => (if t309 = t310 then ((slots_Insert.f l0_0 l0_1 l2).bind fun bt311 => ((fencepostref08_Insert.f kj7 l0_0 l0_1 l2).bind fun bt317 => ((fencepostref07_Same.f kj7 bt311.1 bt311.2 bt317.1 bt317.2).bind fun t323 => (if t323 = true then ((slots_Fence.f a1_0 l1_1 l1_2 a1_3 l1_4 l2).bind fun bt324 => ((fencepostref08_Fence.f kj7 a1_0 l1_1 l1_2 a1_3 l1_4 l2).bind fun bt335 => ((fencepostref04_Same.f kj7 bt324.1 bt324.2.1 bt324.2.2.1 bt324.2.2.2.1 bt324.2.2.2.2 bt335.1 bt335.2.1 bt335.2.2.1 bt335.2.2.2.1 bt335.2.2.2.2).bind fun t346 => (if t346 = true then ((fencepostref04_Same.f kj7 bt281.1 bt281.2.1 bt281.2.2.1 bt281.2.2.2.1 bt281.2.2.2.2.1 bt294.1 bt294.2.1 bt294.2.2.1 bt294.2.2.2.1 bt294.2.2.2.2.1).bind fun t347 => (if t347 = true then (some (bt281.2.2.2.2.2 == bt294.2.2.2.2.2)) else (some false))) else (some false))))) else (some false))))) else (some false)))) else (some false)) else (some false)) else (some false)) else (some false)))) else (some false))))) = some r := H
 have A30 := Aside0.mk A300
 clear A300
 replace H := Option.bind_eq_some_iff.mp H
 obtain ⟨⟨t278, t279, t280⟩, A310, H⟩ := H
 replace H : ((slots_Erase.f a1_0 l1_1 l1_2 a1_3 l1_4 l2).bind fun bt281 => ((fencepostref08_Erase.f kj7 a1_0 l1_1 l1_2 a1_3 l1_4 l2).bind fun bt294 => (if t272 = true then ((slots_Many.f l0_0 l0_1).bind fun t307 => ((fencepostref08_Many.f kj7 l0_0 l0_1).bind fun t308 => (if t307 = t308 then (if t275 = t278 then (if t276 = t279 then (if (t277 == t280) = true then ((slots_Num.f l0_0 l0_1 a4 a5).bind fun t309 => ((fencepostref08_Num.f kj7 l0_0 l0_1 a4 a5).bind fun t310 => (if t309 = t310 then ((slots_Insert.f l0_0 l0_1 l2).bind fun bt311 => ((fencepostref08_Insert.f kj7 l0_0 l0_1 l2).bind fun bt317 => ((fencepostref07_Same.f kj7 bt311.1 bt311.2 bt317.1 bt317.2).bind fun t323 => (if t323 = true then ((slots_Fence.f a1_0 l1_1 l1_2 a1_3 l1_4 l2).bind fun bt324 => ((fencepostref08_Fence.f kj7 a1_0 l1_1 l1_2 a1_3 l1_4 l2).bind fun bt335 => ((fencepostref04_Same.f kj7 bt324.1 bt324.2.1 bt324.2.2.1 bt324.2.2.2.1 bt324.2.2.2.2 bt335.1 bt335.2.1 bt335.2.2.1 bt335.2.2.2.1 bt335.2.2.2.2).bind fun t346 => (if t346 = true then ((fencepostref04_Same.f kj7 bt281.1 bt281.2.1 bt281.2.2.1 bt281.2.2.2.1 bt281.2.2.2.2.1 bt294.1 bt294.2.1 bt294.2.2.1 bt294.2.2.2.1 bt294.2.2.2.2.1).bind fun t347 => (if t347 = true then (some (bt281.2.2.2.2.2 == bt294.2.2.2.2.2)) else (some false))) else (some false))))) else (some false))))) else (some false)))) else (some false)) else (some false)) else (some false)) else (some false)))) else (some false)))) = some r := H
 have A31 := Aside0.mk A310
 clear A310
 replace H := Option.bind_eq_some_iff.mp H
 obtain ⟨⟨t281, t282, t285, t288, t289, t292⟩, A320, H⟩ := H
 replace H : ((fencepostref08_Erase.f kj7 a1_0 l1_1 l1_2 a1_3 l1_4 l2).bind fun bt294 => (if t272 = true then ((slots_Many.f l0_0 l0_1).bind fun t307 => ((fencepostref08_Many.f kj7 l0_0 l0_1).bind fun t308 => (if t307 = t308 then (if t275 = t278 then (if t276 = t279 then (if (t277 == t280) = true then ((slots_Num.f l0_0 l0_1 a4 a5).bind fun t309 => ((fencepostref08_Num.f kj7 l0_0 l0_1 a4 a5).bind fun t310 => (if t309 = t310 then ((slots_Insert.f l0_0 l0_1 l2).bind fun bt311 => ((fencepostref08_Insert.f kj7 l0_0 l0_1 l2).bind fun bt317 => ((fencepostref07_Same.f kj7 bt311.1 bt311.2 bt317.1 bt317.2).bind fun t323 => (if t323 = true then ((slots_Fence.f a1_0 l1_1 l1_2 a1_3 l1_4 l2).bind fun bt324 => ((fencepostref08_Fence.f kj7 a1_0 l1_1 l1_2 a1_3 l1_4 l2).bind fun bt335 => ((fencepostref04_Same.f kj7 bt324.1 bt324.2.1 bt324.2.2.1 bt324.2.2.2.1 bt324.2.2.2.2 bt335.1 bt335.2.1 bt335.2.2.1 bt335.2.2.2.1 bt335.2.2.2.2).bind fun t346 => (if t346 = true then ((fencepostref04_Same.f kj7 t281 t282 t285 t288 t289 bt294.1 bt294.2.1 bt294.2.2.1 bt294.2.2.2.1 bt294.2.2.2.2.1).bind fun t347 => (if t347 = true then (some (t292 == bt294.2.2.2.2.2)) else (some false))) else (some false))))) else (some false))))) else (some false)))) else (some false)) else (some false)) else (some false)) else (some false)))) else (some false))) = some r := H
 have A32 := Aside0.mk A320
 clear A320
 replace H := Option.bind_eq_some_iff.mp H
 obtain ⟨⟨t294, t295, t298, t301, t302, t305⟩, A330, H⟩ := H
 replace H : (if t272 = true then ((slots_Many.f l0_0 l0_1).bind fun t307 => ((fencepostref08_Many.f kj7 l0_0 l0_1).bind fun t308 => (if t307 = t308 then (if t275 = t278 then (if t276 = t279 then (if (t277 == t280) = true then ((slots_Num.f l0_0 l0_1 a4 a5).bind fun t309 => ((fencepostref08_Num.f kj7 l0_0 l0_1 a4 a5).bind fun t310 => (if t309 = t310 then ((slots_Insert.f l0_0 l0_1 l2).bind fun bt311 => ((fencepostref08_Insert.f kj7 l0_0 l0_1 l2).bind fun bt317 => ((fencepostref07_Same.f kj7 bt311.1 bt311.2 bt317.1 bt317.2).bind fun t323 => (if t323 = true then ((slots_Fence.f a1_0 l1_1 l1_2 a1_3 l1_4 l2).bind fun bt324 => ((fencepostref08_Fence.f kj7 a1_0 l1_1 l1_2 a1_3 l1_4 l2).bind fun bt335 => ((fencepostref04_Same.f kj7 bt324.1 bt324.2.1 bt324.2.2.1 bt324.2.2.2.1 bt324.2.2.2.2 bt335.1 bt335.2.1 bt335.2.2.1 bt335.2.2.2.1 bt335.2.2.2.2).bind fun t346 => (if t346 = true then ((fencepostref04_Same.f kj7 t281 t282 t285 t288 t289 t294 t295 t298 t301 t302).bind fun t347 => (if t347 = true then (some (t292 == t305)) else (some false))) else (some false))))) else (some false))))) else (some false)))) else (some false)) else (some false)) else (some false)) else (some false)))) else (some false)) = some r := H
 have A33 := Aside0.mk A330
 clear A330
 by_cases c34 : t272 = true
 rotate_left
 ·replace c34 := Bool.eq_false_iff.mpr c34
  subst c34
  have H1 : (some false) = some r := by rw [if_neg (show ¬ (false = true) by decide)] at H; exact H
  clear H
  have H := H1
  clear H1
  exact absurd ((Option.some.inj H).trans HT.out) (by simp)
 subst c34
 have H1 : ((slots_Many.f l0_0 l0_1).bind fun t307 => ((fencepostref08_Many.f kj7 l0_0 l0_1).bind fun t308 => (if t307 = t308 then (if t275 = t278 then (if t276 = t279 then (if (t277 == t280) = true then ((slots_Num.f l0_0 l0_1 a4 a5).bind fun t309 => ((fencepostref08_Num.f kj7 l0_0 l0_1 a4 a5).bind fun t310 => (if t309 = t310 then ((slots_Insert.f l0_0 l0_1 l2).bind fun bt311 => ((fencepostref08_Insert.f kj7 l0_0 l0_1 l2).bind fun bt317 => ((fencepostref07_Same.f kj7 bt311.1 bt311.2 bt317.1 bt317.2).bind fun t323 => (if t323 = true then ((slots_Fence.f a1_0 l1_1 l1_2 a1_3 l1_4 l2).bind fun bt324 => ((fencepostref08_Fence.f kj7 a1_0 l1_1 l1_2 a1_3 l1_4 l2).bind fun bt335 => ((fencepostref04_Same.f kj7 bt324.1 bt324.2.1 bt324.2.2.1 bt324.2.2.2.1 bt324.2.2.2.2 bt335.1 bt335.2.1 bt335.2.2.1 bt335.2.2.2.1 bt335.2.2.2.2).bind fun t346 => (if t346 = true then ((fencepostref04_Same.f kj7 t281 t282 t285 t288 t289 t294 t295 t298 t301 t302).bind fun t347 => (if t347 = true then (some (t292 == t305)) else (some false))) else (some false))))) else (some false))))) else (some false)))) else (some false)) else (some false)) else (some false)) else (some false)))) = some r := by rw [if_pos rfl] at H; exact H
 clear H
 have H := H1
 clear H1
 replace H := Option.bind_eq_some_iff.mp H
 obtain ⟨t307, A350, H⟩ := H
 replace H : ((fencepostref08_Many.f kj7 l0_0 l0_1).bind fun t308 => (if t307 = t308 then (if t275 = t278 then (if t276 = t279 then (if (t277 == t280) = true then ((slots_Num.f l0_0 l0_1 a4 a5).bind fun t309 => ((fencepostref08_Num.f kj7 l0_0 l0_1 a4 a5).bind fun t310 => (if t309 = t310 then ((slots_Insert.f l0_0 l0_1 l2).bind fun bt311 => ((fencepostref08_Insert.f kj7 l0_0 l0_1 l2).bind fun bt317 => ((fencepostref07_Same.f kj7 bt311.1 bt311.2 bt317.1 bt317.2).bind fun t323 => (if t323 = true then ((slots_Fence.f a1_0 l1_1 l1_2 a1_3 l1_4 l2).bind fun bt324 => ((fencepostref08_Fence.f kj7 a1_0 l1_1 l1_2 a1_3 l1_4 l2).bind fun bt335 => ((fencepostref04_Same.f kj7 bt324.1 bt324.2.1 bt324.2.2.1 bt324.2.2.2.1 bt324.2.2.2.2 bt335.1 bt335.2.1 bt335.2.2.1 bt335.2.2.2.1 bt335.2.2.2.2).bind fun t346 => (if t346 = true then ((fencepostref04_Same.f kj7 t281 t282 t285 t288 t289 t294 t295 t298 t301 t302).bind fun t347 => (if t347 = true then (some (t292 == t305)) else (some false))) else (some false))))) else (some false))))) else (some false)))) else (some false)) else (some false)) else (some false)) else (some false))) = some r := H
 have A35 := Aside0.mk A350
 clear A350
 replace H := Option.bind_eq_some_iff.mp H
 obtain ⟨t308, A360, H⟩ := H
 replace H : (if t307 = t308 then (if t275 = t278 then (if t276 = t279 then (if (t277 == t280) = true then ((slots_Num.f l0_0 l0_1 a4 a5).bind fun t309 => ((fencepostref08_Num.f kj7 l0_0 l0_1 a4 a5).bind fun t310 => (if t309 = t310 then ((slots_Insert.f l0_0 l0_1 l2).bind fun bt311 => ((fencepostref08_Insert.f kj7 l0_0 l0_1 l2).bind fun bt317 => ((fencepostref07_Same.f kj7 bt311.1 bt311.2 bt317.1 bt317.2).bind fun t323 => (if t323 = true then ((slots_Fence.f a1_0 l1_1 l1_2 a1_3 l1_4 l2).bind fun bt324 => ((fencepostref08_Fence.f kj7 a1_0 l1_1 l1_2 a1_3 l1_4 l2).bind fun bt335 => ((fencepostref04_Same.f kj7 bt324.1 bt324.2.1 bt324.2.2.1 bt324.2.2.2.1 bt324.2.2.2.2 bt335.1 bt335.2.1 bt335.2.2.1 bt335.2.2.2.1 bt335.2.2.2.2).bind fun t346 => (if t346 = true then ((fencepostref04_Same.f kj7 t281 t282 t285 t288 t289 t294 t295 t298 t301 t302).bind fun t347 => (if t347 = true then (some (t292 == t305)) else (some false))) else (some false))))) else (some false))))) else (some false)))) else (some false)) else (some false)) else (some false)) else (some false)) = some r := H
 have A36 := Aside0.mk A360
 clear A360
 by_cases c37 : t307 = t308
 rotate_left
 ·rw [if_neg c37] at H
  have c37b0 : (t307 == t308) = false := beq_eq_false_iff_ne.mpr c37
  have c37b1 : (t307 != t308) = true := bne_iff_ne.mpr c37
  exact absurd ((Option.some.inj H).trans HT.out) (by simp)
 rw [if_pos c37] at H
 have c37b0 : (t307 == t308) = true := beq_iff_eq.mpr c37
 have c37b1 : (t307 != t308) = false := bne_eq_false_iff_eq.mpr c37
 clear c37
 by_cases c38 : t275 = t278
 rotate_left
 ·rw [if_neg c38] at H
  have c38b0 : (t275 == t278) = false := beq_eq_false_iff_ne.mpr c38
  have c38b1 : (t275 != t278) = true := bne_iff_ne.mpr c38
  exact absurd ((Option.some.inj H).trans HT.out) (by simp)
 rw [if_pos c38] at H
 have c38b0 : (t275 == t278) = true := beq_iff_eq.mpr c38
 have c38b1 : (t275 != t278) = false := bne_eq_false_iff_eq.mpr c38
 clear c38
 by_cases c39 : t276 = t279
 rotate_left
 ·rw [if_neg c39] at H
  have c39b0 : (t276 == t279) = false := beq_eq_false_iff_ne.mpr c39
  have c39b1 : (t276 != t279) = true := bne_iff_ne.mpr c39
  exact absurd ((Option.some.inj H).trans HT.out) (by simp)
 rw [if_pos c39] at H
 have c39b0 : (t276 == t279) = true := beq_iff_eq.mpr c39
 have c39b1 : (t276 != t279) = false := bne_eq_false_iff_eq.mpr c39
 clear c39
 by_cases c40 : (t277 == t280) = true
 rotate_left
 ·rw [if_neg c40] at H
  have c40b0 : (t277 == t280) = false := by simpa using c40
  (try (have c40b1 : decide (t277 = t280) = false := by simpa using c40))
  (try (have c40b2 : (t277 == t280) = false := by simpa using c40))
  (try (have c40b3 : ¬ (t277 = t280) := by simpa using c40))
  clear c40
  exact absurd ((Option.some.inj H).trans HT.out) (by simp)
 rw [if_pos c40] at H
 have c40b0 : (t277 == t280) = true := c40
 (try (have c40b1 : decide (t277 = t280) = true := by simpa using c40))
 (try (have c40b2 : (t277 == t280) = true := by simpa using c40))
 clear c40
 replace H := Option.bind_eq_some_iff.mp H
 obtain ⟨t309, A410, H⟩ := H
 replace H : ((fencepostref08_Num.f kj7 l0_0 l0_1 a4 a5).bind fun t310 => (if t309 = t310 then ((slots_Insert.f l0_0 l0_1 l2).bind fun bt311 => ((fencepostref08_Insert.f kj7 l0_0 l0_1 l2).bind fun bt317 => ((fencepostref07_Same.f kj7 bt311.1 bt311.2 bt317.1 bt317.2).bind fun t323 => (if t323 = true then ((slots_Fence.f a1_0 l1_1 l1_2 a1_3 l1_4 l2).bind fun bt324 => ((fencepostref08_Fence.f kj7 a1_0 l1_1 l1_2 a1_3 l1_4 l2).bind fun bt335 => ((fencepostref04_Same.f kj7 bt324.1 bt324.2.1 bt324.2.2.1 bt324.2.2.2.1 bt324.2.2.2.2 bt335.1 bt335.2.1 bt335.2.2.1 bt335.2.2.2.1 bt335.2.2.2.2).bind fun t346 => (if t346 = true then ((fencepostref04_Same.f kj7 t281 t282 t285 t288 t289 t294 t295 t298 t301 t302).bind fun t347 => (if t347 = true then (some (t292 == t305)) else (some false))) else (some false))))) else (some false))))) else (some false))) = some r := H
 have A41 := Aside0.mk A410
 clear A410
 replace H := Option.bind_eq_some_iff.mp H
 obtain ⟨t310, A420, H⟩ := H
 replace H : (if t309 = t310 then ((slots_Insert.f l0_0 l0_1 l2).bind fun bt311 => ((fencepostref08_Insert.f kj7 l0_0 l0_1 l2).bind fun bt317 => ((fencepostref07_Same.f kj7 bt311.1 bt311.2 bt317.1 bt317.2).bind fun t323 => (if t323 = true then ((slots_Fence.f a1_0 l1_1 l1_2 a1_3 l1_4 l2).bind fun bt324 => ((fencepostref08_Fence.f kj7 a1_0 l1_1 l1_2 a1_3 l1_4 l2).bind fun bt335 => ((fencepostref04_Same.f kj7 bt324.1 bt324.2.1 bt324.2.2.1 bt324.2.2.2.1 bt324.2.2.2.2 bt335.1 bt335.2.1 bt335.2.2.1 bt335.2.2.2.1 bt335.2.2.2.2).bind fun t346 => (if t346 = true then ((fencepostref04_Same.f kj7 t281 t282 t285 t288 t289 t294 t295 t298 t301 t302).bind fun t347 => (if t347 = true then (some (t292 == t305)) else (some false))) else (some false))))) else (some false))))) else (some false)) = some r := H
 have A42 := Aside0.mk A420
 clear A420
 by_cases c43 : t309 = t310
 rotate_left
 ·rw [if_neg c43] at H
  have c43b0 : (t309 == t310) = false := beq_eq_false_iff_ne.mpr c43
  have c43b1 : (t309 != t310) = true := bne_iff_ne.mpr c43
  exact absurd ((Option.some.inj H).trans HT.out) (by simp)
 rw [if_pos c43] at H
 have c43b0 : (t309 == t310) = true := beq_iff_eq.mpr c43
 have c43b1 : (t309 != t310) = false := bne_eq_false_iff_eq.mpr c43
 clear c43
 replace H := Option.bind_eq_some_iff.mp H
 obtain ⟨⟨t311, t314⟩, A440, H⟩ := H
 replace H : ((fencepostref08_Insert.f kj7 l0_0 l0_1 l2).bind fun bt317 => ((fencepostref07_Same.f kj7 t311 t314 bt317.1 bt317.2).bind fun t323 => (if t323 = true then ((slots_Fence.f a1_0 l1_1 l1_2 a1_3 l1_4 l2).bind fun bt324 => ((fencepostref08_Fence.f kj7 a1_0 l1_1 l1_2 a1_3 l1_4 l2).bind fun bt335 => ((fencepostref04_Same.f kj7 bt324.1 bt324.2.1 bt324.2.2.1 bt324.2.2.2.1 bt324.2.2.2.2 bt335.1 bt335.2.1 bt335.2.2.1 bt335.2.2.2.1 bt335.2.2.2.2).bind fun t346 => (if t346 = true then ((fencepostref04_Same.f kj7 t281 t282 t285 t288 t289 t294 t295 t298 t301 t302).bind fun t347 => (if t347 = true then (some (t292 == t305)) else (some false))) else (some false))))) else (some false)))) = some r := H
 have A44 := Aside0.mk A440
 clear A440
 replace H := Option.bind_eq_some_iff.mp H
 obtain ⟨⟨t317, t320⟩, A450, H⟩ := H
 replace H : ((fencepostref07_Same.f kj7 t311 t314 t317 t320).bind fun t323 => (if t323 = true then ((slots_Fence.f a1_0 l1_1 l1_2 a1_3 l1_4 l2).bind fun bt324 => ((fencepostref08_Fence.f kj7 a1_0 l1_1 l1_2 a1_3 l1_4 l2).bind fun bt335 => ((fencepostref04_Same.f kj7 bt324.1 bt324.2.1 bt324.2.2.1 bt324.2.2.2.1 bt324.2.2.2.2 bt335.1 bt335.2.1 bt335.2.2.1 bt335.2.2.2.1 bt335.2.2.2.2).bind fun t346 => (if t346 = true then ((fencepostref04_Same.f kj7 t281 t282 t285 t288 t289 t294 t295 t298 t301 t302).bind fun t347 => (if t347 = true then (some (t292 == t305)) else (some false))) else (some false))))) else (some false))) = some r := H
 have A45 := Aside0.mk A450
 clear A450
 replace H := Option.bind_eq_some_iff.mp H
 obtain ⟨t323, A460, H⟩ := H
 replace H : (if t323 = true then ((slots_Fence.f a1_0 l1_1 l1_2 a1_3 l1_4 l2).bind fun bt324 => ((fencepostref08_Fence.f kj7 a1_0 l1_1 l1_2 a1_3 l1_4 l2).bind fun bt335 => ((fencepostref04_Same.f kj7 bt324.1 bt324.2.1 bt324.2.2.1 bt324.2.2.2.1 bt324.2.2.2.2 bt335.1 bt335.2.1 bt335.2.2.1 bt335.2.2.2.1 bt335.2.2.2.2).bind fun t346 => (if t346 = true then ((fencepostref04_Same.f kj7 t281 t282 t285 t288 t289 t294 t295 t298 t301 t302).bind fun t347 => (if t347 = true then (some (t292 == t305)) else (some false))) else (some false))))) else (some false)) = some r := H
 have A46 := Aside0.mk A460
 clear A460
 by_cases c47 : t323 = true
 rotate_left
 ·replace c47 := Bool.eq_false_iff.mpr c47
  subst c47
  have H1 : (some false) = some r := by rw [if_neg (show ¬ (false = true) by decide)] at H; exact H
  clear H
  have H := H1
  clear H1
  exact absurd ((Option.some.inj H).trans HT.out) (by simp)
 subst c47
 have H1 : ((slots_Fence.f a1_0 l1_1 l1_2 a1_3 l1_4 l2).bind fun bt324 => ((fencepostref08_Fence.f kj7 a1_0 l1_1 l1_2 a1_3 l1_4 l2).bind fun bt335 => ((fencepostref04_Same.f kj7 bt324.1 bt324.2.1 bt324.2.2.1 bt324.2.2.2.1 bt324.2.2.2.2 bt335.1 bt335.2.1 bt335.2.2.1 bt335.2.2.2.1 bt335.2.2.2.2).bind fun t346 => (if t346 = true then ((fencepostref04_Same.f kj7 t281 t282 t285 t288 t289 t294 t295 t298 t301 t302).bind fun t347 => (if t347 = true then (some (t292 == t305)) else (some false))) else (some false))))) = some r := by rw [if_pos rfl] at H; exact H
 clear H
 have H := H1
 clear H1
 replace H := Option.bind_eq_some_iff.mp H
 obtain ⟨⟨t324, t325, t328, t331, t332⟩, A480, H⟩ := H
 replace H : ((fencepostref08_Fence.f kj7 a1_0 l1_1 l1_2 a1_3 l1_4 l2).bind fun bt335 => ((fencepostref04_Same.f kj7 t324 t325 t328 t331 t332 bt335.1 bt335.2.1 bt335.2.2.1 bt335.2.2.2.1 bt335.2.2.2.2).bind fun t346 => (if t346 = true then ((fencepostref04_Same.f kj7 t281 t282 t285 t288 t289 t294 t295 t298 t301 t302).bind fun t347 => (if t347 = true then (some (t292 == t305)) else (some false))) else (some false)))) = some r := H
 have A48 := Aside0.mk A480
 clear A480
 replace H := Option.bind_eq_some_iff.mp H
 obtain ⟨⟨t335, t336, t339, t342, t343⟩, A490, H⟩ := H
 replace H : ((fencepostref04_Same.f kj7 t324 t325 t328 t331 t332 t335 t336 t339 t342 t343).bind fun t346 => (if t346 = true then ((fencepostref04_Same.f kj7 t281 t282 t285 t288 t289 t294 t295 t298 t301 t302).bind fun t347 => (if t347 = true then (some (t292 == t305)) else (some false))) else (some false))) = some r := H
 have A49 := Aside0.mk A490
 clear A490
 replace H := Option.bind_eq_some_iff.mp H
 obtain ⟨t346, A500, H⟩ := H
 replace H : (if t346 = true then ((fencepostref04_Same.f kj7 t281 t282 t285 t288 t289 t294 t295 t298 t301 t302).bind fun t347 => (if t347 = true then (some (t292 == t305)) else (some false))) else (some false)) = some r := H
 have A50 := Aside0.mk A500
 clear A500
 by_cases c51 : t346 = true
 rotate_left
 ·replace c51 := Bool.eq_false_iff.mpr c51
  subst c51
  have H1 : (some false) = some r := by rw [if_neg (show ¬ (false = true) by decide)] at H; exact H
  clear H
  have H := H1
  clear H1
  exact absurd ((Option.some.inj H).trans HT.out) (by simp)
 subst c51
 have H1 : ((fencepostref04_Same.f kj7 t281 t282 t285 t288 t289 t294 t295 t298 t301 t302).bind fun t347 => (if t347 = true then (some (t292 == t305)) else (some false))) = some r := by rw [if_pos rfl] at H; exact H
 clear H
 have H := H1
 clear H1
 replace H := Option.bind_eq_some_iff.mp H
 obtain ⟨t347, A520, H⟩ := H
 replace H : (if t347 = true then (some (t292 == t305)) else (some false)) = some r := H
 have A52 := Aside0.mk A520
 clear A520
 by_cases c53 : t347 = true
 rotate_left
 ·replace c53 := Bool.eq_false_iff.mpr c53
  subst c53
  have H1 : (some false) = some r := by rw [if_neg (show ¬ (false = true) by decide)] at H; exact H
  clear H
  have H := H1
  clear H1
  exact absurd ((Option.some.inj H).trans HT.out) (by simp)
 subst c53
 have H1 : (some (t292 == t305)) = some r := by rw [if_pos rfl] at H; exact H
 clear H
 have H := H1
 clear H1
 obtain rfl := Option.some.inj H
 have hnb54 := NB270_271.out
 have hnc54 := NB271_270.out
 have hcz55_0 : wc.cell? ⟨gb270, 0, none⟩ = some (.slice A0_0 l0_0.length c0_0) := (blk_cell BK270.out 0).trans rfl
 have hcz55_1 : wc.cell? ⟨gb270, 1, none⟩ = some (.slice A0_1 l0_1.length c0_1) := (blk_cell BK270.out 1).trans rfl
 have hfz55_0 := blk_frozen BK270.out 0
 have hfz55_1 := blk_frozen BK270.out 1
 try go_wp2_with (first | ((with_reducible refine gate_callee (f := 13) rfl ?_); refine goesL_ (some 40) rfl rfl Try.func13 (by kernel_rfl) rfl #[.agg #[.slice A0_0 l0_0.length c0_0, .slice A0_1 l0_1.length c0_1], .int .i64 a3] rfl ar_ ?_; (with_reducible refine (slots_Of.calls _ _ l0_0 _ _ l0_1 a3 t275 t276 t277 _ ?side1 ?side2 ?side3 ?side4 A30.out).mono ?_); (case side1 => exact cd_ (Kd.C_below HR0_0.out HB.out)); (case side2 => exact HC0_0.out); (case side3 => exact cd_ (Kd.C_below HR0_1.out HB.out)); (case side4 => exact HC0_1.out); rintro e w56 ⟨rfl, hb⟩; refine ⟨_, rfl, ?_⟩; have n0_ := Aside0.mk (bb_ BK270.out hb); have n1_ := Aside0.mk (bb_ BK271.out hb); have n2_ := Aside0.mk (below_step (hb_ HB.out) hb); clear BK270; clear BK271; clear HB; have BK270 := n0_; have BK271 := n1_; have HB := n2_; clear n0_ n1_ n2_; (try clear hb); (try clear hb2); (try clear hk); (try clear hi); have hcz57_0 : w56.cell? ⟨gb270, 0, none⟩ = some (.slice A0_0 l0_0.length c0_0) := (blk_cell BK270.out 0).trans rfl; have hcz57_1 : w56.cell? ⟨gb270, 1, none⟩ = some (.slice A0_1 l0_1.length c0_1) := (blk_cell BK270.out 1).trans rfl; have hfz57_0 := blk_frozen BK270.out 0; have hfz57_1 := blk_frozen BK270.out 1) | ((with_reducible refine gate_callee (f := 14) rfl ?_); refine goesL_ (some 47) rfl rfl Try.func14 (by kernel_rfl) rfl #[.agg #[.slice A0_0 l0_0.length c0_0, .slice A0_1 l0_1.length c0_1], .int .i64 a3] rfl ar_ ?_; (with_reducible refine (fencepostref08_Of.calls kj7 _ _ l0_0 _ _ l0_1 a3 t278 t279 t280 _ ?side1 ?side2 ?side3 ?side4 A31.out).mono ?_); (case side1 => exact cd_ (Kd.C_below HR0_0.out HB.out)); (case side2 => exact HC0_0.out); (case side3 => exact cd_ (Kd.C_below HR0_1.out HB.out)); (case side4 => exact HC0_1.out); rintro e w58 ⟨rfl, hb⟩; refine ⟨_, rfl, ?_⟩; have n0_ := Aside0.mk (bb_ BK270.out hb); have n1_ := Aside0.mk (bb_ BK271.out hb); have n2_ := Aside0.mk (below_step (hb_ HB.out) hb); clear BK270; clear BK271; clear HB; have BK270 := n0_; have BK271 := n1_; have HB := n2_; clear n0_ n1_ n2_; (try clear hb); (try clear hb2); (try clear hk); (try clear hi); have hcz59_0 : w58.cell? ⟨gb271, 0, none⟩ = some (.string a1_0) := (blk_cell BK271.out 0).trans rfl; have hcz59_1 : w58.cell? ⟨gb271, 1, none⟩ = some (.slice A1_1 l1_1.length c1_1) := (blk_cell BK271.out 1).trans rfl; have hcz59_2 : w58.cell? ⟨gb271, 2, none⟩ = some (.slice A1_2 l1_2.length c1_2) := (blk_cell BK271.out 2).trans rfl; have hcz59_3 : w58.cell? ⟨gb271, 3, none⟩ = some (.bool a1_3) := (blk_cell BK271.out 3).trans rfl; have hcz59_4 : w58.cell? ⟨gb271, 4, none⟩ = some (.slice A1_4 l1_4.length c1_4) := (blk_cell BK271.out 4).trans rfl; have hfz59_0 := blk_frozen BK271.out 0; have hfz59_1 := blk_frozen BK271.out 1; have hfz59_2 := blk_frozen BK271.out 2; have hfz59_3 := blk_frozen BK271.out 3; have hfz59_4 := blk_frozen BK271.out 4) | ((with_reducible refine gate_callee (f := 15) rfl ?_); refine goesL_ (some 54) rfl rfl Try.func15 (by kernel_rfl) rfl #[.agg #[.string a1_0, .slice A1_1 l1_1.length c1_1, .slice A1_2 l1_2.length c1_2, .bool a1_3, .slice A1_4 l1_4.length c1_4], .slice A2 l2.length c2] rfl ar_ ?_; (with_reducible refine (slots_Erase.calls a1_0 (fun k_ => k_ < w.heap.size) _ _ l1_1 (fun k_ => k_ < w.heap.size) _ _ l1_2 a1_3 (fun k_ => k_ < w.heap.size) _ _ l1_4 _ _ l2 t281 t282 t285 t288 t289 t292 _ ?side1 ?side2 ?side3 ?side4 ?side5 A32.out).mono ?_); (case side1 => exact Kd.V_mk HC1_1.out (Kd.F_below (Kd.C_F k62_heap HR1_1.out) (hb_ HB.out))); (case side2 => exact Kd.V_mk HC1_2.out (Kd.F_below (Kd.C_F k58_heap HR1_2.out) (hb_ HB.out))); (case side3 => exact Kd.V_mk HC1_4.out (Kd.F_below (Kd.C_F k64_heap HR1_4.out) (hb_ HB.out))); (case side4 => exact cd_ (Kd.C_below HR2.out HB.out)); (case side5 => exact HC2.out); rintro e w60 ⟨v283, v286, v290, rfl, ho0, ho1, ho2, hb⟩; refine ⟨_, rfl, ?_⟩; have n0_ := Aside0.mk (Kd.V_lower (Kd.V_mono (ok' := fun k_ => k_ ≠ gb270 ∧ k_ ≠ gb271) ho0 (fun k_ hk_ => ⟨Or.elim hk_ (fun hs_ => Or.elim hs_ (nl_ GW270.out) (fun hs_ => Or.elim hs_ (nl_ GW270.out) (nl_ GW270.out))) (fun hn_ => (fb_ BK270.out k_ hn_)), Or.elim hk_ (fun hs_ => Or.elim hs_ (nl_ GW271.out) (fun hs_ => Or.elim hs_ (nl_ GW271.out) (nl_ GW271.out))) (fun hn_ => (fb_ BK271.out k_ hn_))⟩)) (below_size (hb_ HB.out))); have n1_ := Aside0.mk (Kd.V_lower (Kd.V_mono (ok' := fun k_ => k_ ≠ gb270 ∧ k_ ≠ gb271) ho1 (fun k_ hk_ => ⟨Or.elim hk_ (fun hs_ => Or.elim hs_ (nl_ GW270.out) (fun hs_ => Or.elim hs_ (nl_ GW270.out) (nl_ GW270.out))) (fun hn_ => (fb_ BK270.out k_ hn_)), Or.elim hk_ (fun hs_ => Or.elim hs_ (nl_ GW271.out) (fun hs_ => Or.elim hs_ (nl_ GW271.out) (nl_ GW271.out))) (fun hn_ => (fb_ BK271.out k_ hn_))⟩)) (below_size (hb_ HB.out))); have n2_ := Aside0.mk (Kd.V_lower (Kd.V_mono (ok' := fun k_ => k_ ≠ gb270 ∧ k_ ≠ gb271) ho2 (fun k_ hk_ => ⟨Or.elim hk_ (fun hs_ => Or.elim hs_ (nl_ GW270.out) (fun hs_ => Or.elim hs_ (nl_ GW270.out) (nl_ GW270.out))) (fun hn_ => (fb_ BK270.out k_ hn_)), Or.elim hk_ (fun hs_ => Or.elim hs_ (nl_ GW271.out) (fun hs_ => Or.elim hs_ (nl_ GW271.out) (nl_ GW271.out))) (fun hn_ => (fb_ BK271.out k_ hn_))⟩)) (below_size (hb_ HB.out))); have n3_ := Aside0.mk (bb_ BK270.out hb); have n4_ := Aside0.mk (bb_ BK271.out hb); have n5_ := Aside0.mk (below_step (hb_ HB.out) hb); clear BK270; clear BK271; clear HB; have HO284 := n0_; have HO287 := n1_; have HO291 := n2_; have BK270 := n3_; have BK271 := n4_; have HB := n5_; clear n0_ n1_ n2_ n3_ n4_ n5_; (try clear hb); (try clear hb2); (try clear hk); (try clear hi); (try clear ho0); (try clear ho1); (try clear ho2)) | ((with_reducible refine gate_dst (N := 20) rfl ?_); (try (refine gate_guard (by rfl) ?_; dsimp only)); refine box_event ?hg (N := 20) ?hd (cs := #[.string (⟨#[]⟩ : ByteArray), .slice none 0 0, .slice none 0 0, .bool false, .slice none 0 0]) (t := 30) ?hr ?_; (case hd => rfl); (case hg => rfl); (case hr => first | (go_simp; done) | (go_simp; rfl)); intro gb293 hg w61 hbox hb; have n0_ := Aside0.mk (Kd.V_below (Kd.V_elderB (vd_ HO284.out) gb293 (Nat.le_of_eq hg.symm)) hb); have n1_ := Aside0.mk (Kd.V_below (Kd.V_elderB (vd_ HO287.out) gb293 (Nat.le_of_eq hg.symm)) hb); have n2_ := Aside0.mk (Kd.V_below (Kd.V_elderB (vd_ HO291.out) gb293 (Nat.le_of_eq hg.symm)) hb); have n3_ := Aside0.mk (bb_ BK270.out hb); have n4_ := Aside0.mk (bb_ BK271.out hb); have n5_ := Aside0.mk (below_step (hb_ HB.out) hb); have n6_ := Aside0.mk (hbox); have n7_ := Aside0.mk (gs_ hg (hb_ HB.out)); have n8_ := Aside0.mk (gs_ hg (hb_ HB.out)); have n9_ := Aside0.mk (gn_ hg BK270.out); have n10_ := Aside0.mk (gn_ hg BK270.out).symm; have n11_ := Aside0.mk (gn_ hg BK271.out); have n12_ := Aside0.mk (gn_ hg BK271.out).symm; clear HO284; clear HO287; clear HO291; clear BK270; clear BK271; clear HB; have HO284 := n0_; have HO287 := n1_; have HO291 := n2_; have BK270 := n3_; have BK271 := n4_; have HB := n5_; have BK293 := n6_; have GW293 := n7_; have GE293 := n8_; have NB270_293 := n9_; have NB293_270 := n10_; have NB271_293 := n11_; have NB293_271 := n12_; clear n0_ n1_ n2_ n3_ n4_ n5_ n6_ n7_ n8_ n9_ n10_ n11_ n12_; clear hb hbox hg; have hnb62 := NB293_270.out; have hnc62 := NB270_293.out; have hnb63 := NB293_271.out; have hnc63 := NB271_293.out; have hcz64_0 : w61.cell? ⟨gb293, 0, none⟩ = some (.string (⟨#[]⟩ : ByteArray)) := (blk_cell BK293.out 0).trans rfl; have hcz64_1 : w61.cell? ⟨gb293, 1, none⟩ = some (.slice none 0 0) := (blk_cell BK293.out 1).trans rfl; have hcz64_2 : w61.cell? ⟨gb293, 2, none⟩ = some (.slice none 0 0) := (blk_cell BK293.out 2).trans rfl; have hcz64_3 : w61.cell? ⟨gb293, 3, none⟩ = some (.bool false) := (blk_cell BK293.out 3).trans rfl; have hcz64_4 : w61.cell? ⟨gb293, 4, none⟩ = some (.slice none 0 0) := (blk_cell BK293.out 4).trans rfl; have hfz64_0 := blk_frozen BK293.out 0; have hfz64_1 := blk_frozen BK293.out 1; have hfz64_2 := blk_frozen BK293.out 2; have hfz64_3 := blk_frozen BK293.out 3; have hfz64_4 := blk_frozen BK293.out 4; obtain ⟨Ao65, co65, eo65⟩ := Kd.V_slice HO284.out; subst eo65; obtain ⟨Ao66, co66, eo66⟩ := Kd.V_slice HO287.out; subst eo66; obtain ⟨Ao67, co67, eo67⟩ := Kd.V_slice HO291.out; subst eo67) | ((with_reducible refine gate_store (t := 30) (p := 20) rfl ?_); refine store_event (t := 30) (p := 20) (v := ?vo_w68) (w1 := (((((w61.setCell ⟨gb293, 0, none⟩ (.string t281)).setCell ⟨gb293, 1, none⟩ (.slice Ao65 t282.length co65)).setCell ⟨gb293, 2, none⟩ (.slice Ao66 t285.length co66)).setCell ⟨gb293, 3, none⟩ (.bool t288)).setCell ⟨gb293, 4, none⟩ (.slice Ao67 t289.length co67))) ?hg ?ho ?hn ?hr ?_; (case ho => rfl); (case hg => rfl); (case hn => rfl); (case hr => first | (go_simp; done) | (go_simp; rfl)); intro w68 hw; have n0_ : Aside0 (Kd.V k62 62 w68 w.heap.size (fun k_ => k_ ≠ gb270 ∧ k_ ≠ gb271 ∧ k_ ≠ gb293) (.slice Ao65 t282.length co65) t282) := ⟨(by rw [hw]; exact (by (with_reducible repeat (first | apply Kd.V_alloc | apply Kd.V_drewN | apply Kd.V_drew)); exact Kd.V_mono (Kd.V_far (p := ⟨gb293, 4, none⟩) (Kd.V_far (p := ⟨gb293, 3, none⟩) (Kd.V_far (p := ⟨gb293, 2, none⟩) (Kd.V_far (p := ⟨gb293, 1, none⟩) (Kd.V_far (p := ⟨gb293, 0, none⟩) (Kd.V_mono HO284.out (fun k_ hk => (⟨hk, hk.2⟩ : _ ∧ k_ ≠ gb293))) (fun _ hk => hk.2) (.string t281)) (fun _ hk => hk.2) (.slice Ao65 t282.length co65)) (fun _ hk => hk.2) (.slice Ao66 t285.length co66)) (fun _ hk => hk.2) (.bool t288)) (fun _ hk => hk.2) (.slice Ao67 t289.length co67)) (fun _ hk => ⟨hk.1.1.1, ⟨hk.1.1.2, hk.1.2⟩⟩)))⟩; have n1_ : Aside0 (Kd.V k58 58 w68 w.heap.size (fun k_ => k_ ≠ gb270 ∧ k_ ≠ gb271 ∧ k_ ≠ gb293) (.slice Ao66 t285.length co66) t285) := ⟨(by rw [hw]; exact (by (with_reducible repeat (first | apply Kd.V_alloc | apply Kd.V_drewN | apply Kd.V_drew)); exact Kd.V_mono (Kd.V_far (p := ⟨gb293, 4, none⟩) (Kd.V_far (p := ⟨gb293, 3, none⟩) (Kd.V_far (p := ⟨gb293, 2, none⟩) (Kd.V_far (p := ⟨gb293, 1, none⟩) (Kd.V_far (p := ⟨gb293, 0, none⟩) (Kd.V_mono HO287.out (fun k_ hk => (⟨hk, hk.2⟩ : _ ∧ k_ ≠ gb293))) (fun _ hk => hk.2) (.string t281)) (fun _ hk => hk.2) (.slice Ao65 t282.length co65)) (fun _ hk => hk.2) (.slice Ao66 t285.length co66)) (fun _ hk => hk.2) (.bool t288)) (fun _ hk => hk.2) (.slice Ao67 t289.length co67)) (fun _ hk => ⟨hk.1.1.1, ⟨hk.1.1.2, hk.1.2⟩⟩)))⟩; have n2_ : Aside0 (Kd.V k64 64 w68 w.heap.size (fun k_ => k_ ≠ gb270 ∧ k_ ≠ gb271 ∧ k_ ≠ gb293) (.slice Ao67 t289.length co67) t289) := ⟨(by rw [hw]; exact (by (with_reducible repeat (first | apply Kd.V_alloc | apply Kd.V_drewN | apply Kd.V_drew)); exact Kd.V_mono (Kd.V_far (p := ⟨gb293, 4, none⟩) (Kd.V_far (p := ⟨gb293, 3, none⟩) (Kd.V_far (p := ⟨gb293, 2, none⟩) (Kd.V_far (p := ⟨gb293, 1, none⟩) (Kd.V_far (p := ⟨gb293, 0, none⟩) (Kd.V_mono HO291.out (fun k_ hk => (⟨hk, hk.2⟩ : _ ∧ k_ ≠ gb293))) (fun _ hk => hk.2) (.string t281)) (fun _ hk => hk.2) (.slice Ao65 t282.length co65)) (fun _ hk => hk.2) (.slice Ao66 t285.length co66)) (fun _ hk => hk.2) (.bool t288)) (fun _ hk => hk.2) (.slice Ao67 t289.length co67)) (fun _ hk => ⟨hk.1.1.1, ⟨hk.1.1.2, hk.1.2⟩⟩)))⟩; have n3_ : Aside0 (w68.heap[gb270]? = some (.cells #[.slice A0_0 l0_0.length c0_0, .slice A0_1 l0_1.length c0_1] 25 (0, 0))) := ⟨(by rw [hw]; exact (by exact bf5_ BK270.out NB270_293.out))⟩; have n4_ : Aside0 (w68.heap[gb271]? = some (.cells #[.string a1_0, .slice A1_1 l1_1.length c1_1, .slice A1_2 l1_2.length c1_2, .bool a1_3, .slice A1_4 l1_4.length c1_4] 30 (0, 0))) := ⟨(by rw [hw]; exact (by exact bf5_ BK271.out NB271_293.out))⟩; have n5_ : Aside0 (w68.heap[gb293]? = some (.cells #[.string t281, .slice Ao65 t282.length co65, .slice Ao66 t285.length co66, .bool t288, .slice Ao67 t289.length co67] 30 (0, 0))) := ⟨(by rw [hw]; exact (by exact bp5_ BK293.out))⟩; have n6_ : Aside0 (Below w.heap.size w w68) := ⟨(by rw [hw]; exact (hb_ HB.out))⟩; clear hw; clear HO284; clear HO287; clear HO291; clear BK270; clear BK271; clear BK293; clear HB; have HO284 := n0_; have HO287 := n1_; have HO291 := n2_; have BK270 := n3_; have BK271 := n4_; have BK293 := n5_; have HB := n6_; clear n0_ n1_ n2_ n3_ n4_ n5_ n6_; have hcz69_0 : w68.cell? ⟨gb271, 0, none⟩ = some (.string a1_0) := (blk_cell BK271.out 0).trans rfl; have hcz69_1 : w68.cell? ⟨gb271, 1, none⟩ = some (.slice A1_1 l1_1.length c1_1) := (blk_cell BK271.out 1).trans rfl; have hcz69_2 : w68.cell? ⟨gb271, 2, none⟩ = some (.slice A1_2 l1_2.length c1_2) := (blk_cell BK271.out 2).trans rfl; have hcz69_3 : w68.cell? ⟨gb271, 3, none⟩ = some (.bool a1_3) := (blk_cell BK271.out 3).trans rfl; have hcz69_4 : w68.cell? ⟨gb271, 4, none⟩ = some (.slice A1_4 l1_4.length c1_4) := (blk_cell BK271.out 4).trans rfl; have hfz69_0 := blk_frozen BK271.out 0; have hfz69_1 := blk_frozen BK271.out 1; have hfz69_2 := blk_frozen BK271.out 2; have hfz69_3 := blk_frozen BK271.out 3; have hfz69_4 := blk_frozen BK271.out 4) | ((with_reducible refine gate_callee (f := 16) rfl ?_); refine goesL_ (some 60) rfl rfl Try.func16 (by kernel_rfl) rfl #[.agg #[.string a1_0, .slice A1_1 l1_1.length c1_1, .slice A1_2 l1_2.length c1_2, .bool a1_3, .slice A1_4 l1_4.length c1_4], .slice A2 l2.length c2] rfl ar_ ?_; (with_reducible refine (fencepostref08_Erase.calls kj7 a1_0 (fun k_ => k_ < w.heap.size) _ _ l1_1 (fun k_ => k_ < w.heap.size) _ _ l1_2 a1_3 (fun k_ => k_ < w.heap.size) _ _ l1_4 _ _ l2 t294 t295 t298 t301 t302 t305 _ ?side1 ?side2 ?side3 ?side4 ?side5 A33.out).mono ?_); (case side1 => exact Kd.V_mk HC1_1.out (Kd.F_below (Kd.C_F k62_heap HR1_1.out) (hb_ HB.out))); (case side2 => exact Kd.V_mk HC1_2.out (Kd.F_below (Kd.C_F k58_heap HR1_2.out) (hb_ HB.out))); (case side3 => exact Kd.V_mk HC1_4.out (Kd.F_below (Kd.C_F k64_heap HR1_4.out) (hb_ HB.out))); (case side4 => exact cd_ (Kd.C_below HR2.out HB.out)); (case side5 => exact HC2.out); rintro e w70 ⟨v296, v299, v303, rfl, ho0, ho1, ho2, hb⟩; refine ⟨_, rfl, ?_⟩; have n0_ := Aside0.mk (Kd.V_below (vd_ HO284.out) hb); have n1_ := Aside0.mk (Kd.V_below (vd_ HO287.out) hb); have n2_ := Aside0.mk (Kd.V_below (vd_ HO291.out) hb); have n3_ := Aside0.mk (Kd.V_lower (Kd.V_mono (ok' := fun k_ => k_ ≠ gb270 ∧ k_ ≠ gb271 ∧ k_ ≠ gb293) ho0 (fun k_ hk_ => ⟨Or.elim hk_ (fun hs_ => Or.elim hs_ (nl_ GW270.out) (fun hs_ => Or.elim hs_ (nl_ GW270.out) (nl_ GW270.out))) (fun hn_ => (fb_ BK270.out k_ hn_)), Or.elim hk_ (fun hs_ => Or.elim hs_ (nl_ GW271.out) (fun hs_ => Or.elim hs_ (nl_ GW271.out) (nl_ GW271.out))) (fun hn_ => (fb_ BK271.out k_ hn_)), Or.elim hk_ (fun hs_ => Or.elim hs_ (nl_ GW293.out) (fun hs_ => Or.elim hs_ (nl_ GW293.out) (nl_ GW293.out))) (fun hn_ => (fb_ BK293.out k_ hn_))⟩)) (below_size (hb_ HB.out))); have n4_ := Aside0.mk (Kd.V_lower (Kd.V_mono (ok' := fun k_ => k_ ≠ gb270 ∧ k_ ≠ gb271 ∧ k_ ≠ gb293) ho1 (fun k_ hk_ => ⟨Or.elim hk_ (fun hs_ => Or.elim hs_ (nl_ GW270.out) (fun hs_ => Or.elim hs_ (nl_ GW270.out) (nl_ GW270.out))) (fun hn_ => (fb_ BK270.out k_ hn_)), Or.elim hk_ (fun hs_ => Or.elim hs_ (nl_ GW271.out) (fun hs_ => Or.elim hs_ (nl_ GW271.out) (nl_ GW271.out))) (fun hn_ => (fb_ BK271.out k_ hn_)), Or.elim hk_ (fun hs_ => Or.elim hs_ (nl_ GW293.out) (fun hs_ => Or.elim hs_ (nl_ GW293.out) (nl_ GW293.out))) (fun hn_ => (fb_ BK293.out k_ hn_))⟩)) (below_size (hb_ HB.out))); have n5_ := Aside0.mk (Kd.V_lower (Kd.V_mono (ok' := fun k_ => k_ ≠ gb270 ∧ k_ ≠ gb271 ∧ k_ ≠ gb293) ho2 (fun k_ hk_ => ⟨Or.elim hk_ (fun hs_ => Or.elim hs_ (nl_ GW270.out) (fun hs_ => Or.elim hs_ (nl_ GW270.out) (nl_ GW270.out))) (fun hn_ => (fb_ BK270.out k_ hn_)), Or.elim hk_ (fun hs_ => Or.elim hs_ (nl_ GW271.out) (fun hs_ => Or.elim hs_ (nl_ GW271.out) (nl_ GW271.out))) (fun hn_ => (fb_ BK271.out k_ hn_)), Or.elim hk_ (fun hs_ => Or.elim hs_ (nl_ GW293.out) (fun hs_ => Or.elim hs_ (nl_ GW293.out) (nl_ GW293.out))) (fun hn_ => (fb_ BK293.out k_ hn_))⟩)) (below_size (hb_ HB.out))); have n6_ := Aside0.mk (bb_ BK270.out hb); have n7_ := Aside0.mk (bb_ BK271.out hb); have n8_ := Aside0.mk (bb_ BK293.out hb); have n9_ := Aside0.mk (below_step (hb_ HB.out) hb); clear HO284; clear HO287; clear HO291; clear BK270; clear BK271; clear BK293; clear HB; have HO284 := n0_; have HO287 := n1_; have HO291 := n2_; have HO297 := n3_; have HO300 := n4_; have HO304 := n5_; have BK270 := n6_; have BK271 := n7_; have BK293 := n8_; have HB := n9_; clear n0_ n1_ n2_ n3_ n4_ n5_ n6_ n7_ n8_ n9_; (try clear hb); (try clear hb2); (try clear hk); (try clear hi); (try clear ho0); (try clear ho1); (try clear ho2)) | ((with_reducible refine gate_dst (N := 22) rfl ?_); (try (refine gate_guard (by rfl) ?_; dsimp only)); refine box_event ?hg (N := 22) ?hd (cs := #[.string (⟨#[]⟩ : ByteArray), .slice none 0 0, .slice none 0 0, .bool false, .slice none 0 0]) (t := 30) ?hr ?_; (case hd => rfl); (case hg => rfl); (case hr => first | (go_simp; done) | (go_simp; rfl)); intro gb306 hg w71 hbox hb; have n0_ := Aside0.mk (Kd.V_below (Kd.V_elderB (vd_ HO284.out) gb306 (Nat.le_of_eq hg.symm)) hb); have n1_ := Aside0.mk (Kd.V_below (Kd.V_elderB (vd_ HO287.out) gb306 (Nat.le_of_eq hg.symm)) hb); have n2_ := Aside0.mk (Kd.V_below (Kd.V_elderB (vd_ HO291.out) gb306 (Nat.le_of_eq hg.symm)) hb); have n3_ := Aside0.mk (Kd.V_below (Kd.V_elderB (vd_ HO297.out) gb306 (Nat.le_of_eq hg.symm)) hb); have n4_ := Aside0.mk (Kd.V_below (Kd.V_elderB (vd_ HO300.out) gb306 (Nat.le_of_eq hg.symm)) hb); have n5_ := Aside0.mk (Kd.V_below (Kd.V_elderB (vd_ HO304.out) gb306 (Nat.le_of_eq hg.symm)) hb); have n6_ := Aside0.mk (bb_ BK270.out hb); have n7_ := Aside0.mk (bb_ BK271.out hb); have n8_ := Aside0.mk (bb_ BK293.out hb); have n9_ := Aside0.mk (below_step (hb_ HB.out) hb); have n10_ := Aside0.mk (hbox); have n11_ := Aside0.mk (gs_ hg (hb_ HB.out)); have n12_ := Aside0.mk (gs_ hg (hb_ HB.out)); have n13_ := Aside0.mk (gn_ hg BK270.out); have n14_ := Aside0.mk (gn_ hg BK270.out).symm; have n15_ := Aside0.mk (gn_ hg BK271.out); have n16_ := Aside0.mk (gn_ hg BK271.out).symm; have n17_ := Aside0.mk (gn_ hg BK293.out); have n18_ := Aside0.mk (gn_ hg BK293.out).symm; clear HO284; clear HO287; clear HO291; clear HO297; clear HO300; clear HO304; clear BK270; clear BK271; clear BK293; clear HB; have HO284 := n0_; have HO287 := n1_; have HO291 := n2_; have HO297 := n3_; have HO300 := n4_; have HO304 := n5_; have BK270 := n6_; have BK271 := n7_; have BK293 := n8_; have HB := n9_; have BK306 := n10_; have GW306 := n11_; have GE306 := n12_; have NB270_306 := n13_; have NB306_270 := n14_; have NB271_306 := n15_; have NB306_271 := n16_; have NB293_306 := n17_; have NB306_293 := n18_; clear n0_ n1_ n2_ n3_ n4_ n5_ n6_ n7_ n8_ n9_ n10_ n11_ n12_ n13_ n14_ n15_ n16_ n17_ n18_; clear hb hbox hg; have hnb72 := NB306_270.out; have hnc72 := NB270_306.out; have hnb73 := NB306_271.out; have hnc73 := NB271_306.out; have hnb74 := NB306_293.out; have hnc74 := NB293_306.out; have hcz75_0 : w71.cell? ⟨gb306, 0, none⟩ = some (.string (⟨#[]⟩ : ByteArray)) := (blk_cell BK306.out 0).trans rfl; have hcz75_1 : w71.cell? ⟨gb306, 1, none⟩ = some (.slice none 0 0) := (blk_cell BK306.out 1).trans rfl; have hcz75_2 : w71.cell? ⟨gb306, 2, none⟩ = some (.slice none 0 0) := (blk_cell BK306.out 2).trans rfl; have hcz75_3 : w71.cell? ⟨gb306, 3, none⟩ = some (.bool false) := (blk_cell BK306.out 3).trans rfl; have hcz75_4 : w71.cell? ⟨gb306, 4, none⟩ = some (.slice none 0 0) := (blk_cell BK306.out 4).trans rfl; have hfz75_0 := blk_frozen BK306.out 0; have hfz75_1 := blk_frozen BK306.out 1; have hfz75_2 := blk_frozen BK306.out 2; have hfz75_3 := blk_frozen BK306.out 3; have hfz75_4 := blk_frozen BK306.out 4; obtain ⟨Ao76, co76, eo76⟩ := Kd.V_slice HO297.out; subst eo76; obtain ⟨Ao77, co77, eo77⟩ := Kd.V_slice HO300.out; subst eo77; obtain ⟨Ao78, co78, eo78⟩ := Kd.V_slice HO304.out; subst eo78))
 have n0_ : Aside0 (Kd.V k62 62 (((((w71.setCell ⟨gb306, 0, none⟩ (.string t294)).setCell ⟨gb306, 1, none⟩ (.slice Ao76 t295.length co76)).setCell ⟨gb306, 2, none⟩ (.slice Ao77 t298.length co77)).setCell ⟨gb306, 3, none⟩ (.bool t301)).setCell ⟨gb306, 4, none⟩ (.slice Ao78 t302.length co78)) w.heap.size (fun k_ => k_ ≠ gb270 ∧ k_ ≠ gb271 ∧ k_ ≠ gb293 ∧ k_ ≠ gb306) (.slice Ao65 t282.length co65) t282) := ⟨by (with_reducible repeat (first | apply Kd.V_alloc | apply Kd.V_drewN | apply Kd.V_drew)); exact Kd.V_mono (Kd.V_far (p := ⟨gb306, 4, none⟩) (Kd.V_far (p := ⟨gb306, 3, none⟩) (Kd.V_far (p := ⟨gb306, 2, none⟩) (Kd.V_far (p := ⟨gb306, 1, none⟩) (Kd.V_far (p := ⟨gb306, 0, none⟩) (Kd.V_mono HO284.out (fun k_ hk => (⟨hk, hk.2⟩ : _ ∧ k_ ≠ gb306))) (fun _ hk => hk.2) (.string t294)) (fun _ hk => hk.2) (.slice Ao76 t295.length co76)) (fun _ hk => hk.2) (.slice Ao77 t298.length co77)) (fun _ hk => hk.2) (.bool t301)) (fun _ hk => hk.2) (.slice Ao78 t302.length co78)) (fun _ hk => ⟨hk.1.1.1, ⟨hk.1.1.2.1, ⟨hk.1.1.2.2, hk.1.2⟩⟩⟩)⟩
 have n1_ : Aside0 (Kd.V k58 58 (((((w71.setCell ⟨gb306, 0, none⟩ (.string t294)).setCell ⟨gb306, 1, none⟩ (.slice Ao76 t295.length co76)).setCell ⟨gb306, 2, none⟩ (.slice Ao77 t298.length co77)).setCell ⟨gb306, 3, none⟩ (.bool t301)).setCell ⟨gb306, 4, none⟩ (.slice Ao78 t302.length co78)) w.heap.size (fun k_ => k_ ≠ gb270 ∧ k_ ≠ gb271 ∧ k_ ≠ gb293 ∧ k_ ≠ gb306) (.slice Ao66 t285.length co66) t285) := ⟨by (with_reducible repeat (first | apply Kd.V_alloc | apply Kd.V_drewN | apply Kd.V_drew)); exact Kd.V_mono (Kd.V_far (p := ⟨gb306, 4, none⟩) (Kd.V_far (p := ⟨gb306, 3, none⟩) (Kd.V_far (p := ⟨gb306, 2, none⟩) (Kd.V_far (p := ⟨gb306, 1, none⟩) (Kd.V_far (p := ⟨gb306, 0, none⟩) (Kd.V_mono HO287.out (fun k_ hk => (⟨hk, hk.2⟩ : _ ∧ k_ ≠ gb306))) (fun _ hk => hk.2) (.string t294)) (fun _ hk => hk.2) (.slice Ao76 t295.length co76)) (fun _ hk => hk.2) (.slice Ao77 t298.length co77)) (fun _ hk => hk.2) (.bool t301)) (fun _ hk => hk.2) (.slice Ao78 t302.length co78)) (fun _ hk => ⟨hk.1.1.1, ⟨hk.1.1.2.1, ⟨hk.1.1.2.2, hk.1.2⟩⟩⟩)⟩
 have n2_ : Aside0 (Kd.V k64 64 (((((w71.setCell ⟨gb306, 0, none⟩ (.string t294)).setCell ⟨gb306, 1, none⟩ (.slice Ao76 t295.length co76)).setCell ⟨gb306, 2, none⟩ (.slice Ao77 t298.length co77)).setCell ⟨gb306, 3, none⟩ (.bool t301)).setCell ⟨gb306, 4, none⟩ (.slice Ao78 t302.length co78)) w.heap.size (fun k_ => k_ ≠ gb270 ∧ k_ ≠ gb271 ∧ k_ ≠ gb293 ∧ k_ ≠ gb306) (.slice Ao67 t289.length co67) t289) := ⟨by (with_reducible repeat (first | apply Kd.V_alloc | apply Kd.V_drewN | apply Kd.V_drew)); exact Kd.V_mono (Kd.V_far (p := ⟨gb306, 4, none⟩) (Kd.V_far (p := ⟨gb306, 3, none⟩) (Kd.V_far (p := ⟨gb306, 2, none⟩) (Kd.V_far (p := ⟨gb306, 1, none⟩) (Kd.V_far (p := ⟨gb306, 0, none⟩) (Kd.V_mono HO291.out (fun k_ hk => (⟨hk, hk.2⟩ : _ ∧ k_ ≠ gb306))) (fun _ hk => hk.2) (.string t294)) (fun _ hk => hk.2) (.slice Ao76 t295.length co76)) (fun _ hk => hk.2) (.slice Ao77 t298.length co77)) (fun _ hk => hk.2) (.bool t301)) (fun _ hk => hk.2) (.slice Ao78 t302.length co78)) (fun _ hk => ⟨hk.1.1.1, ⟨hk.1.1.2.1, ⟨hk.1.1.2.2, hk.1.2⟩⟩⟩)⟩
 have n3_ : Aside0 (Kd.V k62 62 (((((w71.setCell ⟨gb306, 0, none⟩ (.string t294)).setCell ⟨gb306, 1, none⟩ (.slice Ao76 t295.length co76)).setCell ⟨gb306, 2, none⟩ (.slice Ao77 t298.length co77)).setCell ⟨gb306, 3, none⟩ (.bool t301)).setCell ⟨gb306, 4, none⟩ (.slice Ao78 t302.length co78)) w.heap.size (fun k_ => k_ ≠ gb270 ∧ k_ ≠ gb271 ∧ k_ ≠ gb293 ∧ k_ ≠ gb306) (.slice Ao76 t295.length co76) t295) := ⟨by (with_reducible repeat (first | apply Kd.V_alloc | apply Kd.V_drewN | apply Kd.V_drew)); exact Kd.V_mono (Kd.V_far (p := ⟨gb306, 4, none⟩) (Kd.V_far (p := ⟨gb306, 3, none⟩) (Kd.V_far (p := ⟨gb306, 2, none⟩) (Kd.V_far (p := ⟨gb306, 1, none⟩) (Kd.V_far (p := ⟨gb306, 0, none⟩) (Kd.V_mono HO297.out (fun k_ hk => (⟨hk, hk.2⟩ : _ ∧ k_ ≠ gb306))) (fun _ hk => hk.2) (.string t294)) (fun _ hk => hk.2) (.slice Ao76 t295.length co76)) (fun _ hk => hk.2) (.slice Ao77 t298.length co77)) (fun _ hk => hk.2) (.bool t301)) (fun _ hk => hk.2) (.slice Ao78 t302.length co78)) (fun _ hk => ⟨hk.1.1.1, ⟨hk.1.1.2.1, ⟨hk.1.1.2.2, hk.1.2⟩⟩⟩)⟩
 have n4_ : Aside0 (Kd.V k58 58 (((((w71.setCell ⟨gb306, 0, none⟩ (.string t294)).setCell ⟨gb306, 1, none⟩ (.slice Ao76 t295.length co76)).setCell ⟨gb306, 2, none⟩ (.slice Ao77 t298.length co77)).setCell ⟨gb306, 3, none⟩ (.bool t301)).setCell ⟨gb306, 4, none⟩ (.slice Ao78 t302.length co78)) w.heap.size (fun k_ => k_ ≠ gb270 ∧ k_ ≠ gb271 ∧ k_ ≠ gb293 ∧ k_ ≠ gb306) (.slice Ao77 t298.length co77) t298) := ⟨by (with_reducible repeat (first | apply Kd.V_alloc | apply Kd.V_drewN | apply Kd.V_drew)); exact Kd.V_mono (Kd.V_far (p := ⟨gb306, 4, none⟩) (Kd.V_far (p := ⟨gb306, 3, none⟩) (Kd.V_far (p := ⟨gb306, 2, none⟩) (Kd.V_far (p := ⟨gb306, 1, none⟩) (Kd.V_far (p := ⟨gb306, 0, none⟩) (Kd.V_mono HO300.out (fun k_ hk => (⟨hk, hk.2⟩ : _ ∧ k_ ≠ gb306))) (fun _ hk => hk.2) (.string t294)) (fun _ hk => hk.2) (.slice Ao76 t295.length co76)) (fun _ hk => hk.2) (.slice Ao77 t298.length co77)) (fun _ hk => hk.2) (.bool t301)) (fun _ hk => hk.2) (.slice Ao78 t302.length co78)) (fun _ hk => ⟨hk.1.1.1, ⟨hk.1.1.2.1, ⟨hk.1.1.2.2, hk.1.2⟩⟩⟩)⟩
 have n5_ : Aside0 (Kd.V k64 64 (((((w71.setCell ⟨gb306, 0, none⟩ (.string t294)).setCell ⟨gb306, 1, none⟩ (.slice Ao76 t295.length co76)).setCell ⟨gb306, 2, none⟩ (.slice Ao77 t298.length co77)).setCell ⟨gb306, 3, none⟩ (.bool t301)).setCell ⟨gb306, 4, none⟩ (.slice Ao78 t302.length co78)) w.heap.size (fun k_ => k_ ≠ gb270 ∧ k_ ≠ gb271 ∧ k_ ≠ gb293 ∧ k_ ≠ gb306) (.slice Ao78 t302.length co78) t302) := ⟨by (with_reducible repeat (first | apply Kd.V_alloc | apply Kd.V_drewN | apply Kd.V_drew)); exact Kd.V_mono (Kd.V_far (p := ⟨gb306, 4, none⟩) (Kd.V_far (p := ⟨gb306, 3, none⟩) (Kd.V_far (p := ⟨gb306, 2, none⟩) (Kd.V_far (p := ⟨gb306, 1, none⟩) (Kd.V_far (p := ⟨gb306, 0, none⟩) (Kd.V_mono HO304.out (fun k_ hk => (⟨hk, hk.2⟩ : _ ∧ k_ ≠ gb306))) (fun _ hk => hk.2) (.string t294)) (fun _ hk => hk.2) (.slice Ao76 t295.length co76)) (fun _ hk => hk.2) (.slice Ao77 t298.length co77)) (fun _ hk => hk.2) (.bool t301)) (fun _ hk => hk.2) (.slice Ao78 t302.length co78)) (fun _ hk => ⟨hk.1.1.1, ⟨hk.1.1.2.1, ⟨hk.1.1.2.2, hk.1.2⟩⟩⟩)⟩
 have n6_ : Aside0 ((((((w71.setCell ⟨gb306, 0, none⟩ (.string t294)).setCell ⟨gb306, 1, none⟩ (.slice Ao76 t295.length co76)).setCell ⟨gb306, 2, none⟩ (.slice Ao77 t298.length co77)).setCell ⟨gb306, 3, none⟩ (.bool t301)).setCell ⟨gb306, 4, none⟩ (.slice Ao78 t302.length co78)).heap[gb270]? = some (.cells #[.slice A0_0 l0_0.length c0_0, .slice A0_1 l0_1.length c0_1] 25 (0, 0))) := ⟨by exact bf5_ BK270.out NB270_306.out⟩
 have n7_ : Aside0 ((((((w71.setCell ⟨gb306, 0, none⟩ (.string t294)).setCell ⟨gb306, 1, none⟩ (.slice Ao76 t295.length co76)).setCell ⟨gb306, 2, none⟩ (.slice Ao77 t298.length co77)).setCell ⟨gb306, 3, none⟩ (.bool t301)).setCell ⟨gb306, 4, none⟩ (.slice Ao78 t302.length co78)).heap[gb271]? = some (.cells #[.string a1_0, .slice A1_1 l1_1.length c1_1, .slice A1_2 l1_2.length c1_2, .bool a1_3, .slice A1_4 l1_4.length c1_4] 30 (0, 0))) := ⟨by exact bf5_ BK271.out NB271_306.out⟩
 have n8_ : Aside0 ((((((w71.setCell ⟨gb306, 0, none⟩ (.string t294)).setCell ⟨gb306, 1, none⟩ (.slice Ao76 t295.length co76)).setCell ⟨gb306, 2, none⟩ (.slice Ao77 t298.length co77)).setCell ⟨gb306, 3, none⟩ (.bool t301)).setCell ⟨gb306, 4, none⟩ (.slice Ao78 t302.length co78)).heap[gb293]? = some (.cells #[.string t281, .slice Ao65 t282.length co65, .slice Ao66 t285.length co66, .bool t288, .slice Ao67 t289.length co67] 30 (0, 0))) := ⟨by exact bf5_ BK293.out NB293_306.out⟩
 have n9_ : Aside0 ((((((w71.setCell ⟨gb306, 0, none⟩ (.string t294)).setCell ⟨gb306, 1, none⟩ (.slice Ao76 t295.length co76)).setCell ⟨gb306, 2, none⟩ (.slice Ao77 t298.length co77)).setCell ⟨gb306, 3, none⟩ (.bool t301)).setCell ⟨gb306, 4, none⟩ (.slice Ao78 t302.length co78)).heap[gb306]? = some (.cells #[.string t294, .slice Ao76 t295.length co76, .slice Ao77 t298.length co77, .bool t301, .slice Ao78 t302.length co78] 30 (0, 0))) := ⟨by exact bp5_ BK306.out⟩
 have n10_ : Aside0 (Below w.heap.size w (((((w71.setCell ⟨gb306, 0, none⟩ (.string t294)).setCell ⟨gb306, 1, none⟩ (.slice Ao76 t295.length co76)).setCell ⟨gb306, 2, none⟩ (.slice Ao77 t298.length co77)).setCell ⟨gb306, 3, none⟩ (.bool t301)).setCell ⟨gb306, 4, none⟩ (.slice Ao78 t302.length co78))) := ⟨hb_ HB.out⟩
 (try clear HO284)
 (try clear HO287)
 (try clear HO291)
 (try clear HO297)
 (try clear HO300)
 (try clear HO304)
 (try clear BK270)
 (try clear BK271)
 (try clear BK293)
 (try clear BK306)
 (try clear HB)
 generalize (((((w71.setCell ⟨gb306, 0, none⟩ (.string t294)).setCell ⟨gb306, 1, none⟩ (.slice Ao76 t295.length co76)).setCell ⟨gb306, 2, none⟩ (.slice Ao77 t298.length co77)).setCell ⟨gb306, 3, none⟩ (.bool t301)).setCell ⟨gb306, 4, none⟩ (.slice Ao78 t302.length co78)) = w79 at n0_ n1_ n2_ n3_ n4_ n5_ n6_ n7_ n8_ n9_ n10_ ⊢
 have HO284 := n0_
 have HO287 := n1_
 have HO291 := n2_
 have HO297 := n3_
 have HO300 := n4_
 have HO304 := n5_
 have BK270 := n6_
 have BK271 := n7_
 have BK293 := n8_
 have BK306 := n9_
 have HB := n10_
 clear n0_ n1_ n2_ n3_ n4_ n5_ n6_ n7_ n8_ n9_ n10_
 have n0_ := Aside0.mk (Kd.V_drew HO284.out)
 have n1_ := Aside0.mk (Kd.V_drew HO287.out)
 have n2_ := Aside0.mk (Kd.V_drew HO291.out)
 have n3_ := Aside0.mk (Kd.V_drew HO297.out)
 have n4_ := Aside0.mk (Kd.V_drew HO300.out)
 have n5_ := Aside0.mk (Kd.V_drew HO304.out)
 have n6_ := Aside0.mk (blk_drew BK270.out)
 have n7_ := Aside0.mk (blk_drew BK271.out)
 have n8_ := Aside0.mk (blk_drew BK293.out)
 have n9_ := Aside0.mk (blk_drew BK306.out)
 have n10_ := Aside0.mk (below_drew1 HB.out)
 clear HO284
 clear HO287
 clear HO291
 clear HO297
 clear HO300
 clear HO304
 clear BK270
 clear BK271
 clear BK293
 clear BK306
 clear HB
 have HO284 := n0_
 have HO287 := n1_
 have HO291 := n2_
 have HO297 := n3_
 have HO300 := n4_
 have HO304 := n5_
 have BK270 := n6_
 have BK271 := n7_
 have BK293 := n8_
 have BK306 := n9_
 have HB := n10_
 clear n0_ n1_ n2_ n3_ n4_ n5_ n6_ n7_ n8_ n9_ n10_
 refine start_ (n := 63) (S := fun w' => w'.cell? ⟨gb270, 0, none⟩ = some (.slice A0_0 l0_0.length c0_0) ∧ w'.cell? ⟨gb270, 1, none⟩ = some (.slice A0_1 l0_1.length c0_1) ∧ w'.cell? ⟨gb271, 0, none⟩ = some (.string a1_0) ∧ w'.cell? ⟨gb271, 1, none⟩ = some (.slice A1_1 l1_1.length c1_1) ∧ w'.cell? ⟨gb271, 2, none⟩ = some (.slice A1_2 l1_2.length c1_2) ∧ w'.cell? ⟨gb271, 3, none⟩ = some (.bool a1_3) ∧ w'.cell? ⟨gb271, 4, none⟩ = some (.slice A1_4 l1_4.length c1_4) ∧ w'.cell? ⟨gb293, 0, none⟩ = some (.string t281) ∧ w'.cell? ⟨gb293, 1, none⟩ = some (.slice Ao65 t282.length co65) ∧ w'.cell? ⟨gb293, 2, none⟩ = some (.slice Ao66 t285.length co66) ∧ w'.cell? ⟨gb293, 3, none⟩ = some (.bool t288) ∧ w'.cell? ⟨gb293, 4, none⟩ = some (.slice Ao67 t289.length co67) ∧ w'.cell? ⟨gb306, 0, none⟩ = some (.string t294) ∧ w'.cell? ⟨gb306, 1, none⟩ = some (.slice Ao76 t295.length co76) ∧ w'.cell? ⟨gb306, 2, none⟩ = some (.slice Ao77 t298.length co77) ∧ w'.cell? ⟨gb306, 3, none⟩ = some (.bool t301) ∧ w'.cell? ⟨gb306, 4, none⟩ = some (.slice Ao78 t302.length co78)) (ds := []) (lb_ 63 0) (by kernel_rfl) rfl rfl ⟨(blk_cell BK270.out 0).trans rfl, (blk_cell BK270.out 1).trans rfl, (blk_cell BK271.out 0).trans rfl, (blk_cell BK271.out 1).trans rfl, (blk_cell BK271.out 2).trans rfl, (blk_cell BK271.out 3).trans rfl, (blk_cell BK271.out 4).trans rfl, (blk_cell BK293.out 0).trans rfl, (blk_cell BK293.out 1).trans rfl, (blk_cell BK293.out 2).trans rfl, (blk_cell BK293.out 3).trans rfl, (blk_cell BK293.out 4).trans rfl, (blk_cell BK306.out 0).trans rfl, (blk_cell BK306.out 1).trans rfl, (blk_cell BK306.out 2).trans rfl, (blk_cell BK306.out 3).trans rfl, (blk_cell BK306.out 4).trans rfl⟩ (fun hHeld => ?_); refine with_tabW fencepostlaw08_SlotsTells.tab8 fencepostlaw08_SlotsTells.bits8 (fun HT_ HW_ => ?_)
 generalize w79.drew = w80 at HO284 HO287 HO291 HO297 HO300 HO304 BK270 BK271 BK293 BK306 HB hHeld ⊢
 refine pure_ (i := 0) (N := some 63) (v := ?_) (a' := ?_) (lb_ 63 1) rfl rfl (any_of HT_.out (by kernel_rfl)) (fun _ _ _ h => h) (Or.inl ⟨by rfl, ?_⟩) ?_ ?_; rotate_left; intro w'; go_simp; with_reducible rfl; rotate_left; simp only [Act.put, List.setIfInBounds_toArray, List.set_cons_zero, List.set_cons_succ, i64_w, i32_w]; rfl
 refine pure_ (i := 1) (N := some 64) (v := ?_) (a' := ?_) (lb_ 63 3) rfl rfl (any_of HT_.out (by kernel_rfl)) (fun _ _ _ h => h) (Or.inl ⟨by rfl, ?_⟩) ?_ ?_; rotate_left; intro w'; go_simp; with_reducible rfl; rotate_left; simp only [Act.put, List.setIfInBounds_toArray, List.set_cons_zero, List.set_cons_succ, i64_w, i32_w]; rfl
 refine take_ (i := 2) (N := some 65) (v := ?_) (a' := ?_) (lb_ 63 7) rfl rfl (take_ofW HT_.out HW_.out (by kernel_rfl)) (fun _ _ _ h => h) (Or.inl ⟨by rfl, ?_⟩) hHeld ?_ ?_; rotate_left; rintro w' ⟨s0, s1, s2, s3, s4, s5, s6, s7, s8, s9, s10, s11, s12, s13, s14, s15, s16⟩; go_simp; with_reducible rfl; rotate_left; simp only [Act.put, List.setIfInBounds_toArray, List.set_cons_zero, List.set_cons_succ, i64_w, i32_w]; rfl
 refine take_ (i := 4) (N := some 67) (v := ?_) (a' := ?_) (lb_ 63 23) rfl rfl (take_ofW HT_.out HW_.out (by kernel_rfl)) (fun _ _ _ h => h) (Or.inl ⟨by rfl, ?_⟩) hHeld ?_ ?_; rotate_left; rintro w' ⟨s0, s1, s2, s3, s4, s5, s6, s7, s8, s9, s10, s11, s12, s13, s14, s15, s16⟩; go_simp; with_reducible rfl; rotate_left; simp only [Act.put, List.setIfInBounds_toArray, List.set_cons_zero, List.set_cons_succ, i64_w, i32_w]; rfl
 refine one_ (i := 3) (N := some 66) (lb_ 63 31) rfl rfl (one_of HT_.out (by kernel_rfl)) (by decide) (fun K hK => ?_)
 refine goes_ Try.func17 (by kernel_rfl) rfl #[.agg #[.slice A0_0 l0_0.length c0_0, .slice A0_1 l0_1.length c0_1]] (by rfl) rfl rfl ar_ ?_
 with_reducible refine (slots_Many.calls _ _ l0_0 _ _ l0_1 t307 _ ?side1 ?side2 ?side3 ?side4 A35.out).mono ?_
 (case side1 => exact cd_ (Kd.C_below HR0_0.out HB.out))
 (case side2 => exact HC0_0.out)
 (case side3 => exact cd_ (Kd.C_below HR0_1.out HB.out))
 (case side4 => exact HC0_1.out)
 rintro e w81 ⟨rfl, hb⟩
 refine ⟨_, rfl, ?_⟩
 have n0_ := Aside0.mk (Kd.V_below (vd_ HO284.out) hb)
 have n1_ := Aside0.mk (Kd.V_below (vd_ HO287.out) hb)
 have n2_ := Aside0.mk (Kd.V_below (vd_ HO291.out) hb)
 have n3_ := Aside0.mk (Kd.V_below (vd_ HO297.out) hb)
 have n4_ := Aside0.mk (Kd.V_below (vd_ HO300.out) hb)
 have n5_ := Aside0.mk (Kd.V_below (vd_ HO304.out) hb)
 have n6_ := Aside0.mk (bb_ BK270.out hb)
 have n7_ := Aside0.mk (bb_ BK271.out hb)
 have n8_ := Aside0.mk (bb_ BK293.out hb)
 have n9_ := Aside0.mk (bb_ BK306.out hb)
 have n10_ := Aside0.mk (below_step (hb_ HB.out) hb)
 clear HO284
 clear HO287
 clear HO291
 clear HO297
 clear HO300
 clear HO304
 clear BK270
 clear BK271
 clear BK293
 clear BK306
 clear HB
 have HO284 := n0_
 have HO287 := n1_
 have HO291 := n2_
 have HO297 := n3_
 have HO300 := n4_
 have HO304 := n5_
 have BK270 := n6_
 have BK271 := n7_
 have BK293 := n8_
 have BK306 := n9_
 have HB := n10_
 clear n0_ n1_ n2_ n3_ n4_ n5_ n6_ n7_ n8_ n9_ n10_
 (try clear hb)
 (try clear hb2)
 (try clear hk)
 (try clear hi)
 refine hK.out _ _ ⟨(blk_cell BK270.out 0).trans rfl, (blk_cell BK270.out 1).trans rfl, (blk_cell BK271.out 0).trans rfl, (blk_cell BK271.out 1).trans rfl, (blk_cell BK271.out 2).trans rfl, (blk_cell BK271.out 3).trans rfl, (blk_cell BK271.out 4).trans rfl, (blk_cell BK293.out 0).trans rfl, (blk_cell BK293.out 1).trans rfl, (blk_cell BK293.out 2).trans rfl, (blk_cell BK293.out 3).trans rfl, (blk_cell BK293.out 4).trans rfl, (blk_cell BK306.out 0).trans rfl, (blk_cell BK306.out 1).trans rfl, (blk_cell BK306.out 2).trans rfl, (blk_cell BK306.out 3).trans rfl, (blk_cell BK306.out 4).trans rfl⟩ (fun hHeld => ?_)
 clear hK K
 refine norm_ (a' := ?_) ?_ ?_
 rotate_left
 ·show Act.put _ (some 66) _ = _
  simp only [Act.put, List.setIfInBounds_toArray, List.set_cons_zero, List.set_cons_succ, i64_w, i32_w]
  rfl
 refine one_ (i := 5) (N := some 68) (lb_ 63 63) rfl rfl (one_of HT_.out (by kernel_rfl)) (by decide) (fun K hK => ?_)
 refine goes_ Try.func18 (by kernel_rfl) rfl #[.agg #[.slice A0_0 l0_0.length c0_0, .slice A0_1 l0_1.length c0_1]] (by rfl) rfl rfl ar_ ?_
 with_reducible refine (fencepostref08_Many.calls kj7 _ _ l0_0 _ _ l0_1 t308 _ ?side1 ?side2 ?side3 ?side4 A36.out).mono ?_
 (case side1 => exact cd_ (Kd.C_below HR0_0.out HB.out))
 (case side2 => exact HC0_0.out)
 (case side3 => exact cd_ (Kd.C_below HR0_1.out HB.out))
 (case side4 => exact HC0_1.out)
 rintro e w82 ⟨rfl, hb⟩
 refine ⟨_, rfl, ?_⟩
 have n0_ := Aside0.mk (Kd.V_below (vd_ HO284.out) hb)
 have n1_ := Aside0.mk (Kd.V_below (vd_ HO287.out) hb)
 have n2_ := Aside0.mk (Kd.V_below (vd_ HO291.out) hb)
 have n3_ := Aside0.mk (Kd.V_below (vd_ HO297.out) hb)
 have n4_ := Aside0.mk (Kd.V_below (vd_ HO300.out) hb)
 have n5_ := Aside0.mk (Kd.V_below (vd_ HO304.out) hb)
 have n6_ := Aside0.mk (bb_ BK270.out hb)
 have n7_ := Aside0.mk (bb_ BK271.out hb)
 have n8_ := Aside0.mk (bb_ BK293.out hb)
 have n9_ := Aside0.mk (bb_ BK306.out hb)
 have n10_ := Aside0.mk (below_step (hb_ HB.out) hb)
 clear HO284
 clear HO287
 clear HO291
 clear HO297
 clear HO300
 clear HO304
 clear BK270
 clear BK271
 clear BK293
 clear BK306
 clear HB
 have HO284 := n0_
 have HO287 := n1_
 have HO291 := n2_
 have HO297 := n3_
 have HO300 := n4_
 have HO304 := n5_
 have BK270 := n6_
 have BK271 := n7_
 have BK293 := n8_
 have BK306 := n9_
 have HB := n10_
 clear n0_ n1_ n2_ n3_ n4_ n5_ n6_ n7_ n8_ n9_ n10_
 (try clear hb)
 (try clear hb2)
 (try clear hk)
 (try clear hi)
 refine hK.out _ _ ⟨(blk_cell BK270.out 0).trans rfl, (blk_cell BK270.out 1).trans rfl, (blk_cell BK271.out 0).trans rfl, (blk_cell BK271.out 1).trans rfl, (blk_cell BK271.out 2).trans rfl, (blk_cell BK271.out 3).trans rfl, (blk_cell BK271.out 4).trans rfl, (blk_cell BK293.out 0).trans rfl, (blk_cell BK293.out 1).trans rfl, (blk_cell BK293.out 2).trans rfl, (blk_cell BK293.out 3).trans rfl, (blk_cell BK293.out 4).trans rfl, (blk_cell BK306.out 0).trans rfl, (blk_cell BK306.out 1).trans rfl, (blk_cell BK306.out 2).trans rfl, (blk_cell BK306.out 3).trans rfl, (blk_cell BK306.out 4).trans rfl⟩ (fun hHeld => ?_)
 clear hK K
 refine norm_ (a' := ?_) ?_ ?_
 rotate_left
 ·show Act.put _ (some 68) _ = _
  simp only [Act.put, List.setIfInBounds_toArray, List.set_cons_zero, List.set_cons_succ, i64_w, i32_w]
  rfl
 refine pure_ (i := 6) (N := some 69) (v := ?_) (a' := ?_) (lb_ 63 127) rfl rfl (any_of HT_.out (by kernel_rfl)) (fun _ _ _ h => h) (Or.inl ⟨by rfl, ?_⟩) ?_ ?_; rotate_left; intro w'; go_simp; with_reducible rfl; rotate_left; simp only [Act.put, List.setIfInBounds_toArray, List.set_cons_zero, List.set_cons_succ, i64_w, i32_w]; rfl
 refine pure_ (i := 7) (N := some 70) (v := ?_) (a' := ?_) (lb_ 63 255) rfl rfl (any_of HT_.out (by kernel_rfl)) (fun _ _ _ h => h) (Or.inl ⟨by rfl, ?_⟩) ?_ ?_; rotate_left; intro w'; go_simp; with_reducible rfl; rotate_left; simp only [Act.put, List.setIfInBounds_toArray, List.set_cons_zero, List.set_cons_succ, i64_w, i32_w]; rfl
 refine pure_ (i := 8) (N := some 71) (v := ?_) (a' := ?_) (lb_ 63 511) rfl rfl (any_of HT_.out (by kernel_rfl)) (fun _ _ _ h => h) (Or.inl ⟨by rfl, ?_⟩) ?_ ?_; rotate_left; intro w'; go_simp; with_reducible rfl; rotate_left; simp only [Act.put, List.setIfInBounds_toArray, List.set_cons_zero, List.set_cons_succ, i64_w, i32_w]; rfl
 refine pure_ (i := 9) (N := some 72) (v := ?_) (a' := ?_) (lb_ 63 1023) rfl rfl (any_of HT_.out (by kernel_rfl)) (fun _ _ _ h => h) (Or.inl ⟨by rfl, ?_⟩) ?_ ?_; rotate_left; intro w'; go_simp; with_reducible rfl; rotate_left; simp only [Act.put, List.setIfInBounds_toArray, List.set_cons_zero, List.set_cons_succ, i64_w, i32_w]; rfl
 refine pure_ (i := 10) (N := some 73) (v := ?_) (a' := ?_) (lb_ 63 2047) rfl rfl (any_of HT_.out (by kernel_rfl)) (fun _ _ _ h => h) (Or.inl ⟨by rfl, ?_⟩) ?_ ?_; rotate_left; intro w'; go_simp; with_reducible rfl; rotate_left; simp only [Act.put, List.setIfInBounds_toArray, List.set_cons_zero, List.set_cons_succ, i64_w, i32_w]; rfl
 refine pure_ (i := 11) (N := some 74) (v := ?_) (a' := ?_) (lb_ 63 4095) rfl rfl (any_of HT_.out (by kernel_rfl)) (fun _ _ _ h => h) (Or.inl ⟨by rfl, ?_⟩) ?_ ?_; rotate_left; intro w'; go_simp; with_reducible rfl; rotate_left; simp only [Act.put, List.setIfInBounds_toArray, List.set_cons_zero, List.set_cons_succ, i64_w, i32_w]; rfl
 refine pure_ (i := 12) (N := some 75) (v := ?_) (a' := ?_) (lb_ 63 8191) rfl rfl (any_of HT_.out (by kernel_rfl)) (fun _ _ _ h => h) (Or.inl ⟨by rfl, ?_⟩) ?_ ?_; rotate_left; intro w'; go_simp; with_reducible rfl; rotate_left; simp only [Act.put, List.setIfInBounds_toArray, List.set_cons_zero, List.set_cons_succ, i64_w, i32_w]; rfl
 refine pure_ (i := 13) (N := some 76) (v := ?_) (a' := ?_) (lb_ 63 16383) rfl rfl (any_of HT_.out (by kernel_rfl)) (fun _ _ _ h => h) (Or.inl ⟨by rfl, ?_⟩) ?_ ?_; rotate_left; intro w'; go_simp; with_reducible rfl; rotate_left; simp only [Act.put, List.setIfInBounds_toArray, List.set_cons_zero, List.set_cons_succ, i64_w, i32_w]; rfl
 refine pure_ (i := 14) (N := some 77) (v := ?_) (a' := ?_) (lb_ 63 32767) rfl rfl (any_of HT_.out (by kernel_rfl)) (fun _ _ _ h => h) (Or.inl ⟨by rfl, ?_⟩) ?_ ?_; rotate_left; intro w'; go_simp; with_reducible rfl; rotate_left; simp only [Act.put, List.setIfInBounds_toArray, List.set_cons_zero, List.set_cons_succ, i64_w, i32_w]; rfl
 refine pure_ (i := 15) (N := some 78) (v := ?_) (a' := ?_) (lb_ 63 65535) rfl rfl (any_of HT_.out (by kernel_rfl)) (fun _ _ _ h => h) (Or.inl ⟨by rfl, ?_⟩) ?_ ?_; rotate_left; intro w'; go_simp; with_reducible rfl; rotate_left; simp only [Act.put, List.setIfInBounds_toArray, List.set_cons_zero, List.set_cons_succ, i64_w, i32_w]; rfl
 refine pure_ (i := 16) (N := some 79) (v := ?_) (a' := ?_) (lb_ 63 131071) rfl rfl (any_of HT_.out (by kernel_rfl)) (fun _ _ _ h => h) (Or.inl ⟨by rfl, ?_⟩) ?_ ?_; rotate_left; intro w'; go_simp; with_reducible rfl; rotate_left; simp only [Act.put, List.setIfInBounds_toArray, List.set_cons_zero, List.set_cons_succ, i64_w, i32_w]; rfl
 refine pure_ (i := 17) (N := some 80) (v := ?_) (a' := ?_) (lb_ 63 262143) rfl rfl (any_of HT_.out (by kernel_rfl)) (fun _ _ _ h => h) (Or.inl ⟨by rfl, ?_⟩) ?_ ?_; rotate_left; intro w'; go_simp; with_reducible rfl; rotate_left; simp only [Act.put, List.setIfInBounds_toArray, List.set_cons_zero, List.set_cons_succ, i64_w, i32_w]; rfl
 refine pure_ (i := 18) (N := some 81) (v := ?_) (a' := ?_) (lb_ 63 524287) rfl rfl (any_of HT_.out (by kernel_rfl)) (fun _ _ _ h => h) (Or.inl ⟨by rfl, ?_⟩) ?_ ?_; rotate_left; intro w'; go_simp; with_reducible rfl; rotate_left; simp only [Act.put, List.setIfInBounds_toArray, List.set_cons_zero, List.set_cons_succ, i64_w, i32_w]; rfl
 refine pure_ (i := 19) (N := some 82) (v := ?_) (a' := ?_) (lb_ 63 1048575) rfl rfl (any_of HT_.out (by kernel_rfl)) (fun _ _ _ h => h) (Or.inl ⟨by rfl, ?_⟩) ?_ ?_; rotate_left; intro w'; go_simp; with_reducible rfl; rotate_left; simp only [Act.put, List.setIfInBounds_toArray, List.set_cons_zero, List.set_cons_succ, i64_w, i32_w]; rfl
 refine pure_ (i := 20) (N := some 83) (v := ?_) (a' := ?_) (lb_ 63 2097151) rfl rfl (any_of HT_.out (by kernel_rfl)) (fun _ _ _ h => h) (Or.inl ⟨by rfl, ?_⟩) ?_ ?_; rotate_left; intro w'; go_simp; with_reducible rfl; rotate_left; simp only [Act.put, List.setIfInBounds_toArray, List.set_cons_zero, List.set_cons_succ, i64_w, i32_w]; rfl
 refine pure_ (i := 21) (N := some 84) (v := ?_) (a' := ?_) (lb_ 63 4194303) rfl rfl (any_of HT_.out (by kernel_rfl)) (fun _ _ _ h => h) (Or.inl ⟨by rfl, ?_⟩) ?_ ?_; rotate_left; intro w'; go_simp; with_reducible rfl; rotate_left; simp only [Act.put, List.setIfInBounds_toArray, List.set_cons_zero, List.set_cons_succ, i64_w, i32_w]; rfl
 refine pure_ (i := 22) (N := some 85) (v := ?_) (a' := ?_) (lb_ 63 8388607) rfl rfl (any_of HT_.out (by kernel_rfl)) (fun _ _ _ h => h) (Or.inl ⟨by rfl, ?_⟩) ?_ ?_; rotate_left; intro w'; go_simp; with_reducible rfl; rotate_left; simp only [Act.put, List.setIfInBounds_toArray, List.set_cons_zero, List.set_cons_succ, i64_w, i32_w]; rfl
 refine pure_ (i := 23) (N := some 86) (v := ?_) (a' := ?_) (lb_ 63 16777215) rfl rfl (any_of HT_.out (by kernel_rfl)) (fun _ _ _ h => h) (Or.inl ⟨by rfl, ?_⟩) ?_ ?_; rotate_left; intro w'; go_simp; with_reducible rfl; rotate_left; simp only [Act.put, List.setIfInBounds_toArray, List.set_cons_zero, List.set_cons_succ, i64_w, i32_w]; rfl
 refine pure_ (i := 25) (N := some 88) (v := ?_) (a' := ?_) (lb_ 63 50331647) rfl rfl (any_of HT_.out (by kernel_rfl)) (fun _ _ _ h => h) (Or.inl ⟨by rfl, ?_⟩) ?_ ?_; rotate_left; intro w'; go_simp; with_reducible rfl; rotate_left; simp only [Act.put, List.setIfInBounds_toArray, List.set_cons_zero, List.set_cons_succ, i64_w, i32_w]; rfl
 refine pure_ (i := 26) (N := some 89) (v := ?_) (a' := ?_) (lb_ 63 117440511) rfl rfl (any_of HT_.out (by kernel_rfl)) (fun _ _ _ h => h) (Or.inl ⟨by rfl, ?_⟩) ?_ ?_; rotate_left; intro w'; go_simp; with_reducible rfl; rotate_left; simp only [Act.put, List.setIfInBounds_toArray, List.set_cons_zero, List.set_cons_succ, i64_w, i32_w]; rfl
 refine pure_ (i := 29) (N := some 92) (v := ?_) (a' := ?_) (lb_ 63 654311423) rfl rfl (any_of HT_.out (by kernel_rfl)) (fun _ _ _ h => h) (Or.inl ⟨by rfl, ?_⟩) ?_ ?_; rotate_left; intro w'; go_simp; with_reducible rfl; rotate_left; simp only [Act.put, List.setIfInBounds_toArray, List.set_cons_zero, List.set_cons_succ, i64_w, i32_w]; rfl
 refine pure_ (i := 30) (N := some 93) (v := ?_) (a' := ?_) (lb_ 63 1728053247) rfl rfl (any_of HT_.out (by kernel_rfl)) (fun _ _ _ h => h) (Or.inl ⟨by rfl, ?_⟩) ?_ ?_; rotate_left; intro w'; go_simp; with_reducible rfl; rotate_left; simp only [Act.put, List.setIfInBounds_toArray, List.set_cons_zero, List.set_cons_succ, i64_w, i32_w]; rfl
 refine take_ (i := 24) (N := some 87) (v := ?_) (a' := ?_) (lb_ 63 1744830463) rfl rfl (take_ofW HT_.out HW_.out (by kernel_rfl)) (fun _ _ _ h => h) (Or.inl ⟨by rfl, ?_⟩) hHeld ?_ ?_; rotate_left; rintro w' ⟨s0, s1, s2, s3, s4, s5, s6, s7, s8, s9, s10, s11, s12, s13, s14, s15, s16⟩; go_simp; with_reducible rfl; rotate_left; simp only [Act.put, List.setIfInBounds_toArray, List.set_cons_zero, List.set_cons_succ, i64_w, i32_w]; rfl
 refine take_ (i := 28) (N := some 91) (v := ?_) (a' := ?_) (lb_ 63 2013265919) rfl rfl (take_ofW HT_.out HW_.out (by kernel_rfl)) (fun _ _ _ h => h) (Or.inl ⟨by rfl, ?_⟩) hHeld ?_ ?_; rotate_left; rintro w' ⟨s0, s1, s2, s3, s4, s5, s6, s7, s8, s9, s10, s11, s12, s13, s14, s15, s16⟩; go_simp; with_reducible rfl; rotate_left; simp only [Act.put, List.setIfInBounds_toArray, List.set_cons_zero, List.set_cons_succ, i64_w, i32_w]; rfl
 refine one_ (i := 27) (N := some 90) (lb_ 63 2147483647) rfl rfl (one_of HT_.out (by kernel_rfl)) (by decide) (fun K hK => ?_)
 refine goes_ Try.func19 (by kernel_rfl) rfl #[.agg #[.slice A0_0 l0_0.length c0_0, .slice A0_1 l0_1.length c0_1], .int .i64 a4, .int .i64 a5] (by rfl) rfl rfl ar_ ?_
 with_reducible refine (slots_Num.calls _ _ l0_0 _ _ l0_1 a4 a5 t309 _ ?side1 ?side2 ?side3 ?side4 A41.out).mono ?_
 (case side1 => exact cd_ (Kd.C_below HR0_0.out HB.out))
 (case side2 => exact HC0_0.out)
 (case side3 => exact cd_ (Kd.C_below HR0_1.out HB.out))
 (case side4 => exact HC0_1.out)
 rintro e w83 ⟨rfl, hb⟩
 refine ⟨_, rfl, ?_⟩
 have n0_ := Aside0.mk (Kd.V_below (vd_ HO284.out) hb)
 have n1_ := Aside0.mk (Kd.V_below (vd_ HO287.out) hb)
 have n2_ := Aside0.mk (Kd.V_below (vd_ HO291.out) hb)
 have n3_ := Aside0.mk (Kd.V_below (vd_ HO297.out) hb)
 have n4_ := Aside0.mk (Kd.V_below (vd_ HO300.out) hb)
 have n5_ := Aside0.mk (Kd.V_below (vd_ HO304.out) hb)
 have n6_ := Aside0.mk (bb_ BK270.out hb)
 have n7_ := Aside0.mk (bb_ BK271.out hb)
 have n8_ := Aside0.mk (bb_ BK293.out hb)
 have n9_ := Aside0.mk (bb_ BK306.out hb)
 have n10_ := Aside0.mk (below_step (hb_ HB.out) hb)
 clear HO284
 clear HO287
 clear HO291
 clear HO297
 clear HO300
 clear HO304
 clear BK270
 clear BK271
 clear BK293
 clear BK306
 clear HB
 have HO284 := n0_
 have HO287 := n1_
 have HO291 := n2_
 have HO297 := n3_
 have HO300 := n4_
 have HO304 := n5_
 have BK270 := n6_
 have BK271 := n7_
 have BK293 := n8_
 have BK306 := n9_
 have HB := n10_
 clear n0_ n1_ n2_ n3_ n4_ n5_ n6_ n7_ n8_ n9_ n10_
 (try clear hb)
 (try clear hb2)
 (try clear hk)
 (try clear hi)
 refine hK.out _ _ ⟨(blk_cell BK270.out 0).trans rfl, (blk_cell BK270.out 1).trans rfl, (blk_cell BK271.out 0).trans rfl, (blk_cell BK271.out 1).trans rfl, (blk_cell BK271.out 2).trans rfl, (blk_cell BK271.out 3).trans rfl, (blk_cell BK271.out 4).trans rfl, (blk_cell BK293.out 0).trans rfl, (blk_cell BK293.out 1).trans rfl, (blk_cell BK293.out 2).trans rfl, (blk_cell BK293.out 3).trans rfl, (blk_cell BK293.out 4).trans rfl, (blk_cell BK306.out 0).trans rfl, (blk_cell BK306.out 1).trans rfl, (blk_cell BK306.out 2).trans rfl, (blk_cell BK306.out 3).trans rfl, (blk_cell BK306.out 4).trans rfl⟩ (fun hHeld => ?_)
 clear hK K
 refine norm_ (a' := ?_) ?_ ?_
 rotate_left
 ·show Act.put _ (some 90) _ = _
  simp only [Act.put, List.setIfInBounds_toArray, List.set_cons_zero, List.set_cons_succ, i64_w, i32_w]
  rfl
 refine one_ (i := 31) (N := some 94) (lb_ 63 4294967295) rfl rfl (one_of HT_.out (by kernel_rfl)) (by decide) (fun K hK => ?_)
 refine goes_ Try.func20 (by kernel_rfl) rfl #[.agg #[.slice A0_0 l0_0.length c0_0, .slice A0_1 l0_1.length c0_1], .int .i64 a4, .int .i64 a5] (by rfl) rfl rfl ar_ ?_
 with_reducible refine (fencepostref08_Num.calls kj7 _ _ l0_0 _ _ l0_1 a4 a5 t310 _ ?side1 ?side2 ?side3 ?side4 A42.out).mono ?_
 (case side1 => exact cd_ (Kd.C_below HR0_0.out HB.out))
 (case side2 => exact HC0_0.out)
 (case side3 => exact cd_ (Kd.C_below HR0_1.out HB.out))
 (case side4 => exact HC0_1.out)
 rintro e w84 ⟨rfl, hb⟩
 refine ⟨_, rfl, ?_⟩
 have n0_ := Aside0.mk (Kd.V_below (vd_ HO284.out) hb)
 have n1_ := Aside0.mk (Kd.V_below (vd_ HO287.out) hb)
 have n2_ := Aside0.mk (Kd.V_below (vd_ HO291.out) hb)
 have n3_ := Aside0.mk (Kd.V_below (vd_ HO297.out) hb)
 have n4_ := Aside0.mk (Kd.V_below (vd_ HO300.out) hb)
 have n5_ := Aside0.mk (Kd.V_below (vd_ HO304.out) hb)
 have n6_ := Aside0.mk (bb_ BK270.out hb)
 have n7_ := Aside0.mk (bb_ BK271.out hb)
 have n8_ := Aside0.mk (bb_ BK293.out hb)
 have n9_ := Aside0.mk (bb_ BK306.out hb)
 have n10_ := Aside0.mk (below_step (hb_ HB.out) hb)
 clear HO284
 clear HO287
 clear HO291
 clear HO297
 clear HO300
 clear HO304
 clear BK270
 clear BK271
 clear BK293
 clear BK306
 clear HB
 have HO284 := n0_
 have HO287 := n1_
 have HO291 := n2_
 have HO297 := n3_
 have HO300 := n4_
 have HO304 := n5_
 have BK270 := n6_
 have BK271 := n7_
 have BK293 := n8_
 have BK306 := n9_
 have HB := n10_
 clear n0_ n1_ n2_ n3_ n4_ n5_ n6_ n7_ n8_ n9_ n10_
 (try clear hb)
 (try clear hb2)
 (try clear hk)
 (try clear hi)
 refine hK.out _ _ ⟨(blk_cell BK270.out 0).trans rfl, (blk_cell BK270.out 1).trans rfl, (blk_cell BK271.out 0).trans rfl, (blk_cell BK271.out 1).trans rfl, (blk_cell BK271.out 2).trans rfl, (blk_cell BK271.out 3).trans rfl, (blk_cell BK271.out 4).trans rfl, (blk_cell BK293.out 0).trans rfl, (blk_cell BK293.out 1).trans rfl, (blk_cell BK293.out 2).trans rfl, (blk_cell BK293.out 3).trans rfl, (blk_cell BK293.out 4).trans rfl, (blk_cell BK306.out 0).trans rfl, (blk_cell BK306.out 1).trans rfl, (blk_cell BK306.out 2).trans rfl, (blk_cell BK306.out 3).trans rfl, (blk_cell BK306.out 4).trans rfl⟩ (fun hHeld => ?_)
 clear hK K
 refine norm_ (a' := ?_) ?_ ?_
 rotate_left
 ·show Act.put _ (some 94) _ = _
  simp only [Act.put, List.setIfInBounds_toArray, List.set_cons_zero, List.set_cons_succ, i64_w, i32_w]
  rfl
 refine pure_ (i := 32) (N := some 95) (v := ?_) (a' := ?_) (lb_ 63 8589934591) rfl rfl (any_of HT_.out (by kernel_rfl)) (fun _ _ _ h => h) (Or.inl ⟨by rfl, ?_⟩) ?_ ?_; rotate_left; intro w'; go_simp; with_reducible rfl; rotate_left; simp only [Act.put, List.setIfInBounds_toArray, List.set_cons_zero, List.set_cons_succ, i64_w, i32_w]; rfl
 refine pure_ (i := 33) (N := some 96) (v := ?_) (a' := ?_) (lb_ 63 17179869183) rfl rfl (any_of HT_.out (by kernel_rfl)) (fun _ _ _ h => h) (Or.inl ⟨by rfl, ?_⟩) ?_ ?_; rotate_left; intro w'; go_simp; with_reducible rfl; rotate_left; simp only [Act.put, List.setIfInBounds_toArray, List.set_cons_zero, List.set_cons_succ, i64_w, i32_w]; rfl
 refine pure_ (i := 34) (N := some 97) (v := ?_) (a' := ?_) (lb_ 63 34359738367) rfl rfl (any_of HT_.out (by kernel_rfl)) (fun _ _ _ h => h) (Or.inl ⟨by rfl, ?_⟩) ?_ ?_; rotate_left; intro w'; go_simp; with_reducible rfl; rotate_left; simp only [Act.put, List.setIfInBounds_toArray, List.set_cons_zero, List.set_cons_succ, i64_w, i32_w]; rfl
 refine pure_ (i := 36) (N := some 99) (v := ?_) (a' := ?_) (lb_ 63 103079215103) rfl rfl (any_of HT_.out (by kernel_rfl)) (fun _ _ _ h => h) (Or.inl ⟨by rfl, ?_⟩) ?_ ?_; rotate_left; intro w'; go_simp; with_reducible rfl; rotate_left; simp only [Act.put, List.setIfInBounds_toArray, List.set_cons_zero, List.set_cons_succ, i64_w, i32_w]; rfl
 refine pure_ (i := 39) (N := some 102) (v := ?_) (a' := ?_) (lb_ 63 652835028991) rfl rfl (any_of HT_.out (by kernel_rfl)) (fun _ _ _ h => h) (Or.inl ⟨by rfl, ?_⟩) ?_ ?_; rotate_left; intro w'; go_simp; with_reducible rfl; rotate_left; simp only [Act.put, List.setIfInBounds_toArray, List.set_cons_zero, List.set_cons_succ, i64_w, i32_w]; rfl
 refine take_ (i := 35) (N := some 98) (v := ?_) (a' := ?_) (lb_ 63 687194767359) rfl rfl (take_ofW HT_.out HW_.out (by kernel_rfl)) (fun _ _ _ h => h) (Or.inl ⟨by rfl, ?_⟩) hHeld ?_ ?_; rotate_left; rintro w' ⟨s0, s1, s2, s3, s4, s5, s6, s7, s8, s9, s10, s11, s12, s13, s14, s15, s16⟩; go_simp; with_reducible rfl; rotate_left; simp only [Act.put, List.setIfInBounds_toArray, List.set_cons_zero, List.set_cons_succ, i64_w, i32_w]; rfl
 refine take_ (i := 38) (N := some 101) (v := ?_) (a' := ?_) (lb_ 63 962072674303) rfl rfl (take_ofW HT_.out HW_.out (by kernel_rfl)) (fun _ _ _ h => h) (Or.inl ⟨by rfl, ?_⟩) hHeld ?_ ?_; rotate_left; rintro w' ⟨s0, s1, s2, s3, s4, s5, s6, s7, s8, s9, s10, s11, s12, s13, s14, s15, s16⟩; go_simp; with_reducible rfl; rotate_left; simp only [Act.put, List.setIfInBounds_toArray, List.set_cons_zero, List.set_cons_succ, i64_w, i32_w]; rfl
 refine one_ (i := 37) (N := some 100) (lb_ 63 1099511627775) rfl rfl (one_of HT_.out (by kernel_rfl)) (by decide) (fun K hK => ?_)
 refine goes_ Try.func22 (by kernel_rfl) rfl #[.agg #[.slice A0_0 l0_0.length c0_0, .slice A0_1 l0_1.length c0_1], .slice A2 l2.length c2] (by rfl) rfl rfl ar_ ?_
 with_reducible refine (slots_Insert.calls _ _ l0_0 _ _ l0_1 _ _ l2 t311 t314 _ ?side1 ?side2 ?side3 ?side4 ?side5 ?side6 A44.out).mono ?_
 (case side1 => exact cd_ (Kd.C_below HR0_0.out HB.out))
 (case side2 => exact HC0_0.out)
 (case side3 => exact cd_ (Kd.C_below HR0_1.out HB.out))
 (case side4 => exact HC0_1.out)
 (case side5 => exact cd_ (Kd.C_below HR2.out HB.out))
 (case side6 => exact HC2.out)
 rintro e w85 ⟨v312, v315, rfl, ho0, ho1, hb⟩
 refine ⟨_, rfl, ?_⟩
 have n0_ := Aside0.mk (Kd.V_mono (Kd.V_told (Kd.V_told (Kd.V_old (vd_ HO284.out) hb) (Kd.R_base ho0)) (Kd.S_base ho1)) (fun _ h_ => h_.1))
 have n1_ := Aside0.mk (Kd.V_mono (Kd.V_told (Kd.V_told (Kd.V_old (vd_ HO287.out) hb) (Kd.R_base ho0)) (Kd.S_base ho1)) (fun _ h_ => h_.1))
 have n2_ := Aside0.mk (Kd.V_mono (Kd.V_told (Kd.V_told (Kd.V_old (vd_ HO291.out) hb) (Kd.R_base ho0)) (Kd.S_base ho1)) (fun _ h_ => h_.1))
 have n3_ := Aside0.mk (Kd.V_mono (Kd.V_told (Kd.V_told (Kd.V_old (vd_ HO297.out) hb) (Kd.R_base ho0)) (Kd.S_base ho1)) (fun _ h_ => h_.1))
 have n4_ := Aside0.mk (Kd.V_mono (Kd.V_told (Kd.V_told (Kd.V_old (vd_ HO300.out) hb) (Kd.R_base ho0)) (Kd.S_base ho1)) (fun _ h_ => h_.1))
 have n5_ := Aside0.mk (Kd.V_mono (Kd.V_told (Kd.V_told (Kd.V_old (vd_ HO304.out) hb) (Kd.R_base ho0)) (Kd.S_base ho1)) (fun _ h_ => h_.1))
 have n6_ := Aside0.mk (Kd.R_lower ho0 (below_size (hb_ HB.out)))
 have n7_ := Aside0.mk (Kd.S_lower ho1 (below_size (hb_ HB.out)))
 have n8_ := Aside0.mk (bb_ BK270.out hb)
 have n9_ := Aside0.mk (bb_ BK271.out hb)
 have n10_ := Aside0.mk (bb_ BK293.out hb)
 have n11_ := Aside0.mk (bb_ BK306.out hb)
 have n12_ := Aside0.mk (below_step (hb_ HB.out) hb)
 clear HO284
 clear HO287
 clear HO291
 clear HO297
 clear HO300
 clear HO304
 clear BK270
 clear BK271
 clear BK293
 clear BK306
 clear HB
 have HO284 := n0_
 have HO287 := n1_
 have HO291 := n2_
 have HO297 := n3_
 have HO300 := n4_
 have HO304 := n5_
 have HO313 := n6_
 have HO316 := n7_
 have BK270 := n8_
 have BK271 := n9_
 have BK293 := n10_
 have BK306 := n11_
 have HB := n12_
 clear n0_ n1_ n2_ n3_ n4_ n5_ n6_ n7_ n8_ n9_ n10_ n11_ n12_
 (try clear hb)
 (try clear hb2)
 (try clear hk)
 (try clear hi)
 (try clear ho0)
 (try clear ho1)
 refine hK.out _ _ ⟨(blk_cell BK270.out 0).trans rfl, (blk_cell BK270.out 1).trans rfl, (blk_cell BK271.out 0).trans rfl, (blk_cell BK271.out 1).trans rfl, (blk_cell BK271.out 2).trans rfl, (blk_cell BK271.out 3).trans rfl, (blk_cell BK271.out 4).trans rfl, (blk_cell BK293.out 0).trans rfl, (blk_cell BK293.out 1).trans rfl, (blk_cell BK293.out 2).trans rfl, (blk_cell BK293.out 3).trans rfl, (blk_cell BK293.out 4).trans rfl, (blk_cell BK306.out 0).trans rfl, (blk_cell BK306.out 1).trans rfl, (blk_cell BK306.out 2).trans rfl, (blk_cell BK306.out 3).trans rfl, (blk_cell BK306.out 4).trans rfl⟩ (fun hHeld => ?_)
 clear hK K
 refine norm_ (a' := ?_) ?_ ?_
 rotate_left
 ·show Act.put _ (some 100) _ = _
  simp only [Act.put, List.setIfInBounds_toArray, List.set_cons_zero, List.set_cons_succ, i64_w, i32_w]
  rfl
 refine one_ (i := 40) (N := some 103) (lb_ 63 2199023255551) rfl rfl (one_of HT_.out (by kernel_rfl)) (by decide) (fun K hK => ?_)
 refine goes_ Try.func23 (by kernel_rfl) rfl #[.agg #[.slice A0_0 l0_0.length c0_0, .slice A0_1 l0_1.length c0_1], .slice A2 l2.length c2] (by rfl) rfl rfl ar_ ?_
 with_reducible refine (fencepostref08_Insert.calls kj7 _ _ l0_0 _ _ l0_1 _ _ l2 t317 t320 _ ?side1 ?side2 ?side3 ?side4 ?side5 ?side6 A45.out).mono ?_
 (case side1 => exact cd_ (Kd.C_below HR0_0.out HB.out))
 (case side2 => exact HC0_0.out)
 (case side3 => exact cd_ (Kd.C_below HR0_1.out HB.out))
 (case side4 => exact HC0_1.out)
 (case side5 => exact cd_ (Kd.C_below HR2.out HB.out))
 (case side6 => exact HC2.out)
 rintro e w86 ⟨v318, v321, rfl, ho0, ho1, hb⟩
 refine ⟨_, rfl, ?_⟩
 have n0_ := Aside0.mk (Kd.V_mono (Kd.V_told (Kd.V_told (Kd.V_old (vd_ HO284.out) hb) (Kd.R_base ho0)) (Kd.S_base ho1)) (fun _ h_ => h_.1))
 have n1_ := Aside0.mk (Kd.V_mono (Kd.V_told (Kd.V_told (Kd.V_old (vd_ HO287.out) hb) (Kd.R_base ho0)) (Kd.S_base ho1)) (fun _ h_ => h_.1))
 have n2_ := Aside0.mk (Kd.V_mono (Kd.V_told (Kd.V_told (Kd.V_old (vd_ HO291.out) hb) (Kd.R_base ho0)) (Kd.S_base ho1)) (fun _ h_ => h_.1))
 have n3_ := Aside0.mk (Kd.V_mono (Kd.V_told (Kd.V_told (Kd.V_old (vd_ HO297.out) hb) (Kd.R_base ho0)) (Kd.S_base ho1)) (fun _ h_ => h_.1))
 have n4_ := Aside0.mk (Kd.V_mono (Kd.V_told (Kd.V_told (Kd.V_old (vd_ HO300.out) hb) (Kd.R_base ho0)) (Kd.S_base ho1)) (fun _ h_ => h_.1))
 have n5_ := Aside0.mk (Kd.V_mono (Kd.V_told (Kd.V_told (Kd.V_old (vd_ HO304.out) hb) (Kd.R_base ho0)) (Kd.S_base ho1)) (fun _ h_ => h_.1))
 have n6_ := Aside0.mk (Kd.R_elder' (rd_ HO313.out) (Kd.R_base ho0) hb)
 have n7_ := Aside0.mk (Kd.S_elder' (sd_ HO316.out) (Kd.S_base ho1) hb)
 have n8_ := Aside0.mk (Kd.R_lower (Kd.R_new' ho0 (Kd.R_lt (rd_ HO313.out))) (below_size (hb_ HB.out)))
 have n9_ := Aside0.mk (Kd.S_lower (Kd.S_new' ho1 (Kd.S_lt (sd_ HO316.out))) (below_size (hb_ HB.out)))
 have n10_ := Aside0.mk (bb_ BK270.out hb)
 have n11_ := Aside0.mk (bb_ BK271.out hb)
 have n12_ := Aside0.mk (bb_ BK293.out hb)
 have n13_ := Aside0.mk (bb_ BK306.out hb)
 have n14_ := Aside0.mk (below_step (hb_ HB.out) hb)
 clear HO284
 clear HO287
 clear HO291
 clear HO297
 clear HO300
 clear HO304
 clear HO313
 clear HO316
 clear BK270
 clear BK271
 clear BK293
 clear BK306
 clear HB
 have HO284 := n0_
 have HO287 := n1_
 have HO291 := n2_
 have HO297 := n3_
 have HO300 := n4_
 have HO304 := n5_
 have HO313 := n6_
 have HO316 := n7_
 have HO319 := n8_
 have HO322 := n9_
 have BK270 := n10_
 have BK271 := n11_
 have BK293 := n12_
 have BK306 := n13_
 have HB := n14_
 clear n0_ n1_ n2_ n3_ n4_ n5_ n6_ n7_ n8_ n9_ n10_ n11_ n12_ n13_ n14_
 (try clear hb)
 (try clear hb2)
 (try clear hk)
 (try clear hi)
 (try clear ho0)
 (try clear ho1)
 obtain ⟨Ao87, co87, eo87⟩ := Kd.R_slice HO313.out
 (first | subst eo87 | (injection eo87 with f1_ f2_ f3_; have f4_ := f1_.symm; have f5_ := f3_.symm; clear f1_ f2_ f3_; subst f4_; subst f5_))
 obtain ⟨Ao88, co88, eo88⟩ := Kd.S_slice HO316.out
 (first | subst eo88 | (injection eo88 with f1_ f2_ f3_; have f4_ := f1_.symm; have f5_ := f3_.symm; clear f1_ f2_ f3_; subst f4_; subst f5_))
 obtain ⟨Ao89, co89, eo89⟩ := Kd.R_slice HO319.out
 (first | subst eo89 | (injection eo89 with f1_ f2_ f3_; have f4_ := f1_.symm; have f5_ := f3_.symm; clear f1_ f2_ f3_; subst f4_; subst f5_))
 obtain ⟨Ao90, co90, eo90⟩ := Kd.S_slice HO322.out
 (first | subst eo90 | (injection eo90 with f1_ f2_ f3_; have f4_ := f1_.symm; have f5_ := f3_.symm; clear f1_ f2_ f3_; subst f4_; subst f5_))
 refine hK.out _ _ ⟨(blk_cell BK270.out 0).trans rfl, (blk_cell BK270.out 1).trans rfl, (blk_cell BK271.out 0).trans rfl, (blk_cell BK271.out 1).trans rfl, (blk_cell BK271.out 2).trans rfl, (blk_cell BK271.out 3).trans rfl, (blk_cell BK271.out 4).trans rfl, (blk_cell BK293.out 0).trans rfl, (blk_cell BK293.out 1).trans rfl, (blk_cell BK293.out 2).trans rfl, (blk_cell BK293.out 3).trans rfl, (blk_cell BK293.out 4).trans rfl, (blk_cell BK306.out 0).trans rfl, (blk_cell BK306.out 1).trans rfl, (blk_cell BK306.out 2).trans rfl, (blk_cell BK306.out 3).trans rfl, (blk_cell BK306.out 4).trans rfl⟩ (fun hHeld => ?_)
 clear hK K
 refine norm_ (a' := ?_) ?_ ?_
 rotate_left
 ·show Act.put _ (some 103) _ = _
  simp only [Act.put, List.setIfInBounds_toArray, List.set_cons_zero, List.set_cons_succ, i64_w, i32_w]
  rfl
 refine one_ (i := 41) (N := some 104) (lb_ 63 4398046511103) rfl rfl (one_of HT_.out (by kernel_rfl)) (by decide) (fun K hK => ?_)
 refine goes_ Try.func21 (by kernel_rfl) rfl #[.agg #[.slice Ao87 t311.length co87, .slice Ao88 t314.length co88], .agg #[.slice Ao89 t317.length co89, .slice Ao90 t320.length co90]] (by rfl) rfl rfl ar_ ?_
 with_reducible refine (fencepostref07_Same.calls kj7 _ _ t311 _ _ t314 _ _ t317 _ _ t320 true _ ?side1 ?side2 ?side3 ?side4 ?side5 ?side6 ?side7 ?side8 A46.out).mono ?_
 (case side1 => repeat (first | exact (Kd.R_reads' HO313.out).2.2 | (with_reducible refine Kd.C_alloc ?_ _) | (with_reducible refine Kd.C_drewN ?_ _) | (with_reducible refine Kd.C_drew ?_)))
 (case side2 => exact (Kd.R_reads' HO313.out).2.1)
 (case side3 => repeat (first | exact (Kd.S_reads' HO316.out).2.2 | (with_reducible refine Kd.C_alloc ?_ _) | (with_reducible refine Kd.C_drewN ?_ _) | (with_reducible refine Kd.C_drew ?_)))
 (case side4 => exact (Kd.S_reads' HO316.out).2.1)
 (case side5 => repeat (first | exact (Kd.R_reads' HO319.out).2.2 | (with_reducible refine Kd.C_alloc ?_ _) | (with_reducible refine Kd.C_drewN ?_ _) | (with_reducible refine Kd.C_drew ?_)))
 (case side6 => exact (Kd.R_reads' HO319.out).2.1)
 (case side7 => repeat (first | exact (Kd.S_reads' HO322.out).2.2 | (with_reducible refine Kd.C_alloc ?_ _) | (with_reducible refine Kd.C_drewN ?_ _) | (with_reducible refine Kd.C_drew ?_)))
 (case side8 => exact (Kd.S_reads' HO322.out).2.1)
 rintro e w91 ⟨rfl, hb⟩
 refine ⟨_, rfl, ?_⟩
 have n0_ := Aside0.mk (Kd.V_below (vd_ HO284.out) hb)
 have n1_ := Aside0.mk (Kd.V_below (vd_ HO287.out) hb)
 have n2_ := Aside0.mk (Kd.V_below (vd_ HO291.out) hb)
 have n3_ := Aside0.mk (Kd.V_below (vd_ HO297.out) hb)
 have n4_ := Aside0.mk (Kd.V_below (vd_ HO300.out) hb)
 have n5_ := Aside0.mk (Kd.V_below (vd_ HO304.out) hb)
 have n6_ := Aside0.mk (Kd.R_below (rd_ HO313.out) hb)
 have n7_ := Aside0.mk (Kd.S_below (sd_ HO316.out) hb)
 have n8_ := Aside0.mk (Kd.R_below (rd_ HO319.out) hb)
 have n9_ := Aside0.mk (Kd.S_below (sd_ HO322.out) hb)
 have n10_ := Aside0.mk (bb_ BK270.out hb)
 have n11_ := Aside0.mk (bb_ BK271.out hb)
 have n12_ := Aside0.mk (bb_ BK293.out hb)
 have n13_ := Aside0.mk (bb_ BK306.out hb)
 have n14_ := Aside0.mk (below_step (hb_ HB.out) hb)
 clear HO284
 clear HO287
 clear HO291
 clear HO297
 clear HO300
 clear HO304
 clear HO313
 clear HO316
 clear HO319
 clear HO322
 clear BK270
 clear BK271
 clear BK293
 clear BK306
 clear HB
 have HO284 := n0_
 have HO287 := n1_
 have HO291 := n2_
 have HO297 := n3_
 have HO300 := n4_
 have HO304 := n5_
 have HO313 := n6_
 have HO316 := n7_
 have HO319 := n8_
 have HO322 := n9_
 have BK270 := n10_
 have BK271 := n11_
 have BK293 := n12_
 have BK306 := n13_
 have HB := n14_
 clear n0_ n1_ n2_ n3_ n4_ n5_ n6_ n7_ n8_ n9_ n10_ n11_ n12_ n13_ n14_
 (try clear hb)
 (try clear hb2)
 (try clear hk)
 (try clear hi)
 refine hK.out _ _ ⟨(blk_cell BK270.out 0).trans rfl, (blk_cell BK270.out 1).trans rfl, (blk_cell BK271.out 0).trans rfl, (blk_cell BK271.out 1).trans rfl, (blk_cell BK271.out 2).trans rfl, (blk_cell BK271.out 3).trans rfl, (blk_cell BK271.out 4).trans rfl, (blk_cell BK293.out 0).trans rfl, (blk_cell BK293.out 1).trans rfl, (blk_cell BK293.out 2).trans rfl, (blk_cell BK293.out 3).trans rfl, (blk_cell BK293.out 4).trans rfl, (blk_cell BK306.out 0).trans rfl, (blk_cell BK306.out 1).trans rfl, (blk_cell BK306.out 2).trans rfl, (blk_cell BK306.out 3).trans rfl, (blk_cell BK306.out 4).trans rfl⟩ (fun hHeld => ?_)
 clear hK K
 refine norm_ (a' := ?_) ?_ ?_
 rotate_left
 ·show Act.put _ (some 104) _ = _
  simp only [Act.put, List.setIfInBounds_toArray, List.set_cons_zero, List.set_cons_succ, i64_w, i32_w]
  rfl
 refine pure_ (i := 42) (N := some 105) (v := ?_) (a' := ?_) (lb_ 63 8796093022207) rfl rfl (any_of HT_.out (by kernel_rfl)) (fun _ _ _ h => h) (Or.inl ⟨by rfl, ?_⟩) ?_ ?_; rotate_left; intro w'; go_simp; with_reducible rfl; rotate_left; simp only [Act.put, List.setIfInBounds_toArray, List.set_cons_zero, List.set_cons_succ, i64_w, i32_w]; rfl
 refine pure_ (i := 43) (N := some 106) (v := ?_) (a' := ?_) (lb_ 63 17592186044415) rfl rfl (any_of HT_.out (by kernel_rfl)) (fun _ _ _ h => h) (Or.inl ⟨by rfl, ?_⟩) ?_ ?_; rotate_left; intro w'; go_simp; with_reducible rfl; rotate_left; simp only [Act.put, List.setIfInBounds_toArray, List.set_cons_zero, List.set_cons_succ, i64_w, i32_w]; rfl
 refine pure_ (i := 45) (N := some 108) (v := ?_) (a' := ?_) (lb_ 63 52776558133247) rfl rfl (any_of HT_.out (by kernel_rfl)) (fun _ _ _ h => h) (Or.inl ⟨by rfl, ?_⟩) ?_ ?_; rotate_left; intro w'; go_simp; with_reducible rfl; rotate_left; simp only [Act.put, List.setIfInBounds_toArray, List.set_cons_zero, List.set_cons_succ, i64_w, i32_w]; rfl
 refine pure_ (i := 48) (N := some 111) (v := ?_) (a' := ?_) (lb_ 63 334251534843903) rfl rfl (any_of HT_.out (by kernel_rfl)) (fun _ _ _ h => h) (Or.inl ⟨by rfl, ?_⟩) ?_ ?_; rotate_left; intro w'; go_simp; with_reducible rfl; rotate_left; simp only [Act.put, List.setIfInBounds_toArray, List.set_cons_zero, List.set_cons_succ, i64_w, i32_w]; rfl
 refine take_ (i := 44) (N := some 107) (v := ?_) (a' := ?_) (lb_ 63 351843720888319) rfl rfl (take_ofW HT_.out HW_.out (by kernel_rfl)) (fun _ _ _ h => h) (Or.inl ⟨by rfl, ?_⟩) hHeld ?_ ?_; rotate_left; rintro w' ⟨s0, s1, s2, s3, s4, s5, s6, s7, s8, s9, s10, s11, s12, s13, s14, s15, s16⟩; go_simp; with_reducible rfl; rotate_left; simp only [Act.put, List.setIfInBounds_toArray, List.set_cons_zero, List.set_cons_succ, i64_w, i32_w]; rfl
 refine take_ (i := 47) (N := some 110) (v := ?_) (a' := ?_) (lb_ 63 492581209243647) rfl rfl (take_ofW HT_.out HW_.out (by kernel_rfl)) (fun _ _ _ h => h) (Or.inl ⟨by rfl, ?_⟩) hHeld ?_ ?_; rotate_left; rintro w' ⟨s0, s1, s2, s3, s4, s5, s6, s7, s8, s9, s10, s11, s12, s13, s14, s15, s16⟩; go_simp; with_reducible rfl; rotate_left; simp only [Act.put, List.setIfInBounds_toArray, List.set_cons_zero, List.set_cons_succ, i64_w, i32_w]; rfl
 refine one_ (i := 46) (N := some 109) (lb_ 63 562949953421311) rfl rfl (one_of HT_.out (by kernel_rfl)) (by decide) (fun K hK => ?_)
 refine goes_ Try.func25 (by kernel_rfl) rfl #[.agg #[.string a1_0, .slice A1_1 l1_1.length c1_1, .slice A1_2 l1_2.length c1_2, .bool a1_3, .slice A1_4 l1_4.length c1_4], .slice A2 l2.length c2] (by rfl) rfl rfl ar_ ?_
 with_reducible refine (slots_Fence.calls a1_0 (fun k_ => k_ < w.heap.size) _ _ l1_1 _ _ l1_2 a1_3 (fun k_ => k_ < w.heap.size) _ _ l1_4 _ _ l2 t324 t325 t328 t331 t332 _ ?side1 ?side2 ?side3 ?side4 ?side5 ?side6 A48.out).mono ?_
 (case side1 => exact Kd.V_mk HC1_1.out (Kd.F_below (Kd.C_F k62_heap HR1_1.out) (hb_ HB.out)))
 (case side2 => exact cd_ (Kd.C_below HR1_2.out HB.out))
 (case side3 => exact HC1_2.out)
 (case side4 => exact Kd.V_mk HC1_4.out (Kd.F_below (Kd.C_F k64_heap HR1_4.out) (hb_ HB.out)))
 (case side5 => exact cd_ (Kd.C_below HR2.out HB.out))
 (case side6 => exact HC2.out)
 rintro e w92 ⟨v326, v329, v333, rfl, ho0, ho1, ho2, hb⟩
 refine ⟨_, rfl, ?_⟩
 have n0_ := Aside0.mk (Kd.V_elder' (vd_ HO284.out) (Kd.S_base ho1) hb)
 have n1_ := Aside0.mk (Kd.V_elder' (vd_ HO287.out) (Kd.S_base ho1) hb)
 have n2_ := Aside0.mk (Kd.V_elder' (vd_ HO291.out) (Kd.S_base ho1) hb)
 have n3_ := Aside0.mk (Kd.V_elder' (vd_ HO297.out) (Kd.S_base ho1) hb)
 have n4_ := Aside0.mk (Kd.V_elder' (vd_ HO300.out) (Kd.S_base ho1) hb)
 have n5_ := Aside0.mk (Kd.V_elder' (vd_ HO304.out) (Kd.S_base ho1) hb)
 have n6_ := Aside0.mk (Kd.R_below (rd_ HO313.out) hb)
 have n7_ := Aside0.mk (Kd.S_below (sd_ HO316.out) hb)
 have n8_ := Aside0.mk (Kd.R_below (rd_ HO319.out) hb)
 have n9_ := Aside0.mk (Kd.S_below (sd_ HO322.out) hb)
 have n10_ := Aside0.mk (Kd.V_lower (Kd.V_mono (ok' := fun k_ => some k_ ≠ (v329 : Value).ownBlock ∧ some k_ ≠ (.slice Ao87 t311.length co87 : Value).ownBlock ∧ some k_ ≠ (.slice Ao88 t314.length co88 : Value).ownBlock ∧ some k_ ≠ (.slice Ao89 t317.length co89 : Value).ownBlock ∧ some k_ ≠ (.slice Ao90 t320.length co90 : Value).ownBlock ∧ k_ ≠ gb270 ∧ k_ ≠ gb271 ∧ k_ ≠ gb293 ∧ k_ ≠ gb306) ho0 (fun k_ hk_ => ⟨hk_.2, Or.elim hk_.1 (fun hs_ => Or.elim hs_ (fun hs_ => fun e_ => Nat.not_le.2 hs_ (Kd.R_base HO313.out k_ e_.symm)) (fun hs_ => fun e_ => Nat.not_le.2 hs_ (Kd.R_base HO313.out k_ e_.symm))) (fun hn_ => (Kd.fresh' (Kd.R_lt (rd_ HO313.out)) k_ hn_)), Or.elim hk_.1 (fun hs_ => Or.elim hs_ (fun hs_ => fun e_ => Nat.not_le.2 hs_ (Kd.S_base HO316.out k_ e_.symm)) (fun hs_ => fun e_ => Nat.not_le.2 hs_ (Kd.S_base HO316.out k_ e_.symm))) (fun hn_ => (Kd.fresh' (Kd.S_lt (sd_ HO316.out)) k_ hn_)), Or.elim hk_.1 (fun hs_ => Or.elim hs_ (fun hs_ => fun e_ => Nat.not_le.2 hs_ (Kd.R_base HO319.out k_ e_.symm)) (fun hs_ => fun e_ => Nat.not_le.2 hs_ (Kd.R_base HO319.out k_ e_.symm))) (fun hn_ => (Kd.fresh' (Kd.R_lt (rd_ HO319.out)) k_ hn_)), Or.elim hk_.1 (fun hs_ => Or.elim hs_ (fun hs_ => fun e_ => Nat.not_le.2 hs_ (Kd.S_base HO322.out k_ e_.symm)) (fun hs_ => fun e_ => Nat.not_le.2 hs_ (Kd.S_base HO322.out k_ e_.symm))) (fun hn_ => (Kd.fresh' (Kd.S_lt (sd_ HO322.out)) k_ hn_)), Or.elim hk_.1 (fun hs_ => Or.elim hs_ (nl_ GW270.out) (nl_ GW270.out)) (fun hn_ => (fb_ BK270.out k_ hn_)), Or.elim hk_.1 (fun hs_ => Or.elim hs_ (nl_ GW271.out) (nl_ GW271.out)) (fun hn_ => (fb_ BK271.out k_ hn_)), Or.elim hk_.1 (fun hs_ => Or.elim hs_ (nl_ GW293.out) (nl_ GW293.out)) (fun hn_ => (fb_ BK293.out k_ hn_)), Or.elim hk_.1 (fun hs_ => Or.elim hs_ (nl_ GW306.out) (nl_ GW306.out)) (fun hn_ => (fb_ BK306.out k_ hn_))⟩)) (below_size (hb_ HB.out)))
 have n11_ := Aside0.mk (Kd.S_lower (Kd.S_mono (ok' := fun k_ => True) ho1 (fun _ hk_ => trivial)) (below_size (hb_ HB.out)))
 have n12_ := Aside0.mk (Kd.V_lower (Kd.V_mono (ok' := fun k_ => some k_ ≠ (v329 : Value).ownBlock ∧ some k_ ≠ (.slice Ao87 t311.length co87 : Value).ownBlock ∧ some k_ ≠ (.slice Ao88 t314.length co88 : Value).ownBlock ∧ some k_ ≠ (.slice Ao89 t317.length co89 : Value).ownBlock ∧ some k_ ≠ (.slice Ao90 t320.length co90 : Value).ownBlock ∧ k_ ≠ gb270 ∧ k_ ≠ gb271 ∧ k_ ≠ gb293 ∧ k_ ≠ gb306) ho2 (fun k_ hk_ => ⟨hk_.2, Or.elim hk_.1 (fun hs_ => Or.elim hs_ (fun hs_ => fun e_ => Nat.not_le.2 hs_ (Kd.R_base HO313.out k_ e_.symm)) (fun hs_ => fun e_ => Nat.not_le.2 hs_ (Kd.R_base HO313.out k_ e_.symm))) (fun hn_ => (Kd.fresh' (Kd.R_lt (rd_ HO313.out)) k_ hn_)), Or.elim hk_.1 (fun hs_ => Or.elim hs_ (fun hs_ => fun e_ => Nat.not_le.2 hs_ (Kd.S_base HO316.out k_ e_.symm)) (fun hs_ => fun e_ => Nat.not_le.2 hs_ (Kd.S_base HO316.out k_ e_.symm))) (fun hn_ => (Kd.fresh' (Kd.S_lt (sd_ HO316.out)) k_ hn_)), Or.elim hk_.1 (fun hs_ => Or.elim hs_ (fun hs_ => fun e_ => Nat.not_le.2 hs_ (Kd.R_base HO319.out k_ e_.symm)) (fun hs_ => fun e_ => Nat.not_le.2 hs_ (Kd.R_base HO319.out k_ e_.symm))) (fun hn_ => (Kd.fresh' (Kd.R_lt (rd_ HO319.out)) k_ hn_)), Or.elim hk_.1 (fun hs_ => Or.elim hs_ (fun hs_ => fun e_ => Nat.not_le.2 hs_ (Kd.S_base HO322.out k_ e_.symm)) (fun hs_ => fun e_ => Nat.not_le.2 hs_ (Kd.S_base HO322.out k_ e_.symm))) (fun hn_ => (Kd.fresh' (Kd.S_lt (sd_ HO322.out)) k_ hn_)), Or.elim hk_.1 (fun hs_ => Or.elim hs_ (nl_ GW270.out) (nl_ GW270.out)) (fun hn_ => (fb_ BK270.out k_ hn_)), Or.elim hk_.1 (fun hs_ => Or.elim hs_ (nl_ GW271.out) (nl_ GW271.out)) (fun hn_ => (fb_ BK271.out k_ hn_)), Or.elim hk_.1 (fun hs_ => Or.elim hs_ (nl_ GW293.out) (nl_ GW293.out)) (fun hn_ => (fb_ BK293.out k_ hn_)), Or.elim hk_.1 (fun hs_ => Or.elim hs_ (nl_ GW306.out) (nl_ GW306.out)) (fun hn_ => (fb_ BK306.out k_ hn_))⟩)) (below_size (hb_ HB.out)))
 have n13_ := Aside0.mk (bb_ BK270.out hb)
 have n14_ := Aside0.mk (bb_ BK271.out hb)
 have n15_ := Aside0.mk (bb_ BK293.out hb)
 have n16_ := Aside0.mk (bb_ BK306.out hb)
 have n17_ := Aside0.mk (below_step (hb_ HB.out) hb)
 clear HO284
 clear HO287
 clear HO291
 clear HO297
 clear HO300
 clear HO304
 clear HO313
 clear HO316
 clear HO319
 clear HO322
 clear BK270
 clear BK271
 clear BK293
 clear BK306
 clear HB
 have HO284 := n0_
 have HO287 := n1_
 have HO291 := n2_
 have HO297 := n3_
 have HO300 := n4_
 have HO304 := n5_
 have HO313 := n6_
 have HO316 := n7_
 have HO319 := n8_
 have HO322 := n9_
 have HO327 := n10_
 have HO330 := n11_
 have HO334 := n12_
 have BK270 := n13_
 have BK271 := n14_
 have BK293 := n15_
 have BK306 := n16_
 have HB := n17_
 clear n0_ n1_ n2_ n3_ n4_ n5_ n6_ n7_ n8_ n9_ n10_ n11_ n12_ n13_ n14_ n15_ n16_ n17_
 (try clear hb)
 (try clear hb2)
 (try clear hk)
 (try clear hi)
 (try clear ho0)
 (try clear ho1)
 (try clear ho2)
 refine hK.out _ _ ⟨(blk_cell BK270.out 0).trans rfl, (blk_cell BK270.out 1).trans rfl, (blk_cell BK271.out 0).trans rfl, (blk_cell BK271.out 1).trans rfl, (blk_cell BK271.out 2).trans rfl, (blk_cell BK271.out 3).trans rfl, (blk_cell BK271.out 4).trans rfl, (blk_cell BK293.out 0).trans rfl, (blk_cell BK293.out 1).trans rfl, (blk_cell BK293.out 2).trans rfl, (blk_cell BK293.out 3).trans rfl, (blk_cell BK293.out 4).trans rfl, (blk_cell BK306.out 0).trans rfl, (blk_cell BK306.out 1).trans rfl, (blk_cell BK306.out 2).trans rfl, (blk_cell BK306.out 3).trans rfl, (blk_cell BK306.out 4).trans rfl⟩ (fun hHeld => ?_)
 clear hK K
 refine norm_ (a' := ?_) ?_ ?_
 rotate_left
 ·show Act.put _ (some 109) _ = _
  simp only [Act.put, List.setIfInBounds_toArray, List.set_cons_zero, List.set_cons_succ, i64_w, i32_w]
  rfl
 refine one_ (i := 49) (N := some 112) (lb_ 63 1125899906842623) rfl rfl (one_of HT_.out (by kernel_rfl)) (by decide) (fun K hK => ?_)
 refine goes_ Try.func26 (by kernel_rfl) rfl #[.agg #[.string a1_0, .slice A1_1 l1_1.length c1_1, .slice A1_2 l1_2.length c1_2, .bool a1_3, .slice A1_4 l1_4.length c1_4], .slice A2 l2.length c2] (by rfl) rfl rfl ar_ ?_
 with_reducible refine (fencepostref08_Fence.calls kj7 a1_0 (fun k_ => k_ < w.heap.size) _ _ l1_1 _ _ l1_2 a1_3 (fun k_ => k_ < w.heap.size) _ _ l1_4 _ _ l2 t335 t336 t339 t342 t343 _ ?side1 ?side2 ?side3 ?side4 ?side5 ?side6 A49.out).mono ?_
 (case side1 => exact Kd.V_mk HC1_1.out (Kd.F_below (Kd.C_F k62_heap HR1_1.out) (hb_ HB.out)))
 (case side2 => exact cd_ (Kd.C_below HR1_2.out HB.out))
 (case side3 => exact HC1_2.out)
 (case side4 => exact Kd.V_mk HC1_4.out (Kd.F_below (Kd.C_F k64_heap HR1_4.out) (hb_ HB.out)))
 (case side5 => exact cd_ (Kd.C_below HR2.out HB.out))
 (case side6 => exact HC2.out)
 rintro e w93 ⟨v337, v340, v344, rfl, ho0, ho1, ho2, hb⟩
 refine ⟨_, rfl, ?_⟩
 have n0_ := Aside0.mk (Kd.V_elder' (vd_ HO284.out) (Kd.S_base ho1) hb)
 have n1_ := Aside0.mk (Kd.V_elder' (vd_ HO287.out) (Kd.S_base ho1) hb)
 have n2_ := Aside0.mk (Kd.V_elder' (vd_ HO291.out) (Kd.S_base ho1) hb)
 have n3_ := Aside0.mk (Kd.V_elder' (vd_ HO297.out) (Kd.S_base ho1) hb)
 have n4_ := Aside0.mk (Kd.V_elder' (vd_ HO300.out) (Kd.S_base ho1) hb)
 have n5_ := Aside0.mk (Kd.V_elder' (vd_ HO304.out) (Kd.S_base ho1) hb)
 have n6_ := Aside0.mk (Kd.R_below (rd_ HO313.out) hb)
 have n7_ := Aside0.mk (Kd.S_below (sd_ HO316.out) hb)
 have n8_ := Aside0.mk (Kd.R_below (rd_ HO319.out) hb)
 have n9_ := Aside0.mk (Kd.S_below (sd_ HO322.out) hb)
 have n10_ := Aside0.mk (Kd.V_elder' (vd_ HO327.out) (Kd.S_base ho1) hb)
 have n11_ := Aside0.mk (Kd.S_elder' (sd_ HO330.out) (Kd.S_base ho1) hb)
 have n12_ := Aside0.mk (Kd.V_elder' (vd_ HO334.out) (Kd.S_base ho1) hb)
 have n13_ := Aside0.mk (Kd.V_lower (Kd.V_mono (ok' := fun k_ => some k_ ≠ (v340 : Value).ownBlock ∧ some k_ ≠ (.slice Ao87 t311.length co87 : Value).ownBlock ∧ some k_ ≠ (.slice Ao88 t314.length co88 : Value).ownBlock ∧ some k_ ≠ (.slice Ao89 t317.length co89 : Value).ownBlock ∧ some k_ ≠ (.slice Ao90 t320.length co90 : Value).ownBlock ∧ some k_ ≠ (v329 : Value).ownBlock ∧ k_ ≠ gb270 ∧ k_ ≠ gb271 ∧ k_ ≠ gb293 ∧ k_ ≠ gb306) ho0 (fun k_ hk_ => ⟨hk_.2, Or.elim hk_.1 (fun hs_ => Or.elim hs_ (fun hs_ => fun e_ => Nat.not_le.2 hs_ (Kd.R_base HO313.out k_ e_.symm)) (fun hs_ => fun e_ => Nat.not_le.2 hs_ (Kd.R_base HO313.out k_ e_.symm))) (fun hn_ => (Kd.fresh' (Kd.R_lt (rd_ HO313.out)) k_ hn_)), Or.elim hk_.1 (fun hs_ => Or.elim hs_ (fun hs_ => fun e_ => Nat.not_le.2 hs_ (Kd.S_base HO316.out k_ e_.symm)) (fun hs_ => fun e_ => Nat.not_le.2 hs_ (Kd.S_base HO316.out k_ e_.symm))) (fun hn_ => (Kd.fresh' (Kd.S_lt (sd_ HO316.out)) k_ hn_)), Or.elim hk_.1 (fun hs_ => Or.elim hs_ (fun hs_ => fun e_ => Nat.not_le.2 hs_ (Kd.R_base HO319.out k_ e_.symm)) (fun hs_ => fun e_ => Nat.not_le.2 hs_ (Kd.R_base HO319.out k_ e_.symm))) (fun hn_ => (Kd.fresh' (Kd.R_lt (rd_ HO319.out)) k_ hn_)), Or.elim hk_.1 (fun hs_ => Or.elim hs_ (fun hs_ => fun e_ => Nat.not_le.2 hs_ (Kd.S_base HO322.out k_ e_.symm)) (fun hs_ => fun e_ => Nat.not_le.2 hs_ (Kd.S_base HO322.out k_ e_.symm))) (fun hn_ => (Kd.fresh' (Kd.S_lt (sd_ HO322.out)) k_ hn_)), Or.elim hk_.1 (fun hs_ => Or.elim hs_ (fun hs_ => fun e_ => Nat.not_le.2 hs_ (Kd.S_base HO330.out k_ e_.symm)) (fun hs_ => fun e_ => Nat.not_le.2 hs_ (Kd.S_base HO330.out k_ e_.symm))) (fun hn_ => (Kd.fresh' (Kd.S_lt (sd_ HO330.out)) k_ hn_)), Or.elim hk_.1 (fun hs_ => Or.elim hs_ (nl_ GW270.out) (nl_ GW270.out)) (fun hn_ => (fb_ BK270.out k_ hn_)), Or.elim hk_.1 (fun hs_ => Or.elim hs_ (nl_ GW271.out) (nl_ GW271.out)) (fun hn_ => (fb_ BK271.out k_ hn_)), Or.elim hk_.1 (fun hs_ => Or.elim hs_ (nl_ GW293.out) (nl_ GW293.out)) (fun hn_ => (fb_ BK293.out k_ hn_)), Or.elim hk_.1 (fun hs_ => Or.elim hs_ (nl_ GW306.out) (nl_ GW306.out)) (fun hn_ => (fb_ BK306.out k_ hn_))⟩)) (below_size (hb_ HB.out)))
 have n14_ := Aside0.mk (Kd.S_lower (Kd.S_new' (Kd.S_mono (ok' := fun k_ => True) ho1 (fun _ hk_ => trivial)) (Kd.S_lt (sd_ HO330.out))) (below_size (hb_ HB.out)))
 have n15_ := Aside0.mk (Kd.V_lower (Kd.V_mono (ok' := fun k_ => some k_ ≠ (v340 : Value).ownBlock ∧ some k_ ≠ (.slice Ao87 t311.length co87 : Value).ownBlock ∧ some k_ ≠ (.slice Ao88 t314.length co88 : Value).ownBlock ∧ some k_ ≠ (.slice Ao89 t317.length co89 : Value).ownBlock ∧ some k_ ≠ (.slice Ao90 t320.length co90 : Value).ownBlock ∧ some k_ ≠ (v329 : Value).ownBlock ∧ k_ ≠ gb270 ∧ k_ ≠ gb271 ∧ k_ ≠ gb293 ∧ k_ ≠ gb306) ho2 (fun k_ hk_ => ⟨hk_.2, Or.elim hk_.1 (fun hs_ => Or.elim hs_ (fun hs_ => fun e_ => Nat.not_le.2 hs_ (Kd.R_base HO313.out k_ e_.symm)) (fun hs_ => fun e_ => Nat.not_le.2 hs_ (Kd.R_base HO313.out k_ e_.symm))) (fun hn_ => (Kd.fresh' (Kd.R_lt (rd_ HO313.out)) k_ hn_)), Or.elim hk_.1 (fun hs_ => Or.elim hs_ (fun hs_ => fun e_ => Nat.not_le.2 hs_ (Kd.S_base HO316.out k_ e_.symm)) (fun hs_ => fun e_ => Nat.not_le.2 hs_ (Kd.S_base HO316.out k_ e_.symm))) (fun hn_ => (Kd.fresh' (Kd.S_lt (sd_ HO316.out)) k_ hn_)), Or.elim hk_.1 (fun hs_ => Or.elim hs_ (fun hs_ => fun e_ => Nat.not_le.2 hs_ (Kd.R_base HO319.out k_ e_.symm)) (fun hs_ => fun e_ => Nat.not_le.2 hs_ (Kd.R_base HO319.out k_ e_.symm))) (fun hn_ => (Kd.fresh' (Kd.R_lt (rd_ HO319.out)) k_ hn_)), Or.elim hk_.1 (fun hs_ => Or.elim hs_ (fun hs_ => fun e_ => Nat.not_le.2 hs_ (Kd.S_base HO322.out k_ e_.symm)) (fun hs_ => fun e_ => Nat.not_le.2 hs_ (Kd.S_base HO322.out k_ e_.symm))) (fun hn_ => (Kd.fresh' (Kd.S_lt (sd_ HO322.out)) k_ hn_)), Or.elim hk_.1 (fun hs_ => Or.elim hs_ (fun hs_ => fun e_ => Nat.not_le.2 hs_ (Kd.S_base HO330.out k_ e_.symm)) (fun hs_ => fun e_ => Nat.not_le.2 hs_ (Kd.S_base HO330.out k_ e_.symm))) (fun hn_ => (Kd.fresh' (Kd.S_lt (sd_ HO330.out)) k_ hn_)), Or.elim hk_.1 (fun hs_ => Or.elim hs_ (nl_ GW270.out) (nl_ GW270.out)) (fun hn_ => (fb_ BK270.out k_ hn_)), Or.elim hk_.1 (fun hs_ => Or.elim hs_ (nl_ GW271.out) (nl_ GW271.out)) (fun hn_ => (fb_ BK271.out k_ hn_)), Or.elim hk_.1 (fun hs_ => Or.elim hs_ (nl_ GW293.out) (nl_ GW293.out)) (fun hn_ => (fb_ BK293.out k_ hn_)), Or.elim hk_.1 (fun hs_ => Or.elim hs_ (nl_ GW306.out) (nl_ GW306.out)) (fun hn_ => (fb_ BK306.out k_ hn_))⟩)) (below_size (hb_ HB.out)))
 have n16_ := Aside0.mk (bb_ BK270.out hb)
 have n17_ := Aside0.mk (bb_ BK271.out hb)
 have n18_ := Aside0.mk (bb_ BK293.out hb)
 have n19_ := Aside0.mk (bb_ BK306.out hb)
 have n20_ := Aside0.mk (below_step (hb_ HB.out) hb)
 clear HO284
 clear HO287
 clear HO291
 clear HO297
 clear HO300
 clear HO304
 clear HO313
 clear HO316
 clear HO319
 clear HO322
 clear HO327
 clear HO330
 clear HO334
 clear BK270
 clear BK271
 clear BK293
 clear BK306
 clear HB
 have HO284 := n0_
 have HO287 := n1_
 have HO291 := n2_
 have HO297 := n3_
 have HO300 := n4_
 have HO304 := n5_
 have HO313 := n6_
 have HO316 := n7_
 have HO319 := n8_
 have HO322 := n9_
 have HO327 := n10_
 have HO330 := n11_
 have HO334 := n12_
 have HO338 := n13_
 have HO341 := n14_
 have HO345 := n15_
 have BK270 := n16_
 have BK271 := n17_
 have BK293 := n18_
 have BK306 := n19_
 have HB := n20_
 clear n0_ n1_ n2_ n3_ n4_ n5_ n6_ n7_ n8_ n9_ n10_ n11_ n12_ n13_ n14_ n15_ n16_ n17_ n18_ n19_ n20_
 (try clear hb)
 (try clear hb2)
 (try clear hk)
 (try clear hi)
 (try clear ho0)
 (try clear ho1)
 (try clear ho2)
 obtain ⟨Ao94, co94, eo94⟩ := Kd.V_slice HO327.out
 (first | subst eo94 | (injection eo94 with f1_ f2_ f3_; have f4_ := f1_.symm; have f5_ := f3_.symm; clear f1_ f2_ f3_; subst f4_; subst f5_))
 obtain ⟨Ao95, co95, eo95⟩ := Kd.S_slice HO330.out
 (first | subst eo95 | (injection eo95 with f1_ f2_ f3_; have f4_ := f1_.symm; have f5_ := f3_.symm; clear f1_ f2_ f3_; subst f4_; subst f5_))
 obtain ⟨Ao96, co96, eo96⟩ := Kd.V_slice HO334.out
 (first | subst eo96 | (injection eo96 with f1_ f2_ f3_; have f4_ := f1_.symm; have f5_ := f3_.symm; clear f1_ f2_ f3_; subst f4_; subst f5_))
 obtain ⟨Ao97, co97, eo97⟩ := Kd.V_slice HO338.out
 (first | subst eo97 | (injection eo97 with f1_ f2_ f3_; have f4_ := f1_.symm; have f5_ := f3_.symm; clear f1_ f2_ f3_; subst f4_; subst f5_))
 obtain ⟨Ao98, co98, eo98⟩ := Kd.S_slice HO341.out
 (first | subst eo98 | (injection eo98 with f1_ f2_ f3_; have f4_ := f1_.symm; have f5_ := f3_.symm; clear f1_ f2_ f3_; subst f4_; subst f5_))
 obtain ⟨Ao99, co99, eo99⟩ := Kd.V_slice HO345.out
 (first | subst eo99 | (injection eo99 with f1_ f2_ f3_; have f4_ := f1_.symm; have f5_ := f3_.symm; clear f1_ f2_ f3_; subst f4_; subst f5_))
 refine hK.out _ _ ⟨(blk_cell BK270.out 0).trans rfl, (blk_cell BK270.out 1).trans rfl, (blk_cell BK271.out 0).trans rfl, (blk_cell BK271.out 1).trans rfl, (blk_cell BK271.out 2).trans rfl, (blk_cell BK271.out 3).trans rfl, (blk_cell BK271.out 4).trans rfl, (blk_cell BK293.out 0).trans rfl, (blk_cell BK293.out 1).trans rfl, (blk_cell BK293.out 2).trans rfl, (blk_cell BK293.out 3).trans rfl, (blk_cell BK293.out 4).trans rfl, (blk_cell BK306.out 0).trans rfl, (blk_cell BK306.out 1).trans rfl, (blk_cell BK306.out 2).trans rfl, (blk_cell BK306.out 3).trans rfl, (blk_cell BK306.out 4).trans rfl⟩ (fun hHeld => ?_)
 clear hK K
 refine norm_ (a' := ?_) ?_ ?_
 rotate_left
 ·show Act.put _ (some 112) _ = _
  simp only [Act.put, List.setIfInBounds_toArray, List.set_cons_zero, List.set_cons_succ, i64_w, i32_w]
  rfl
 refine one_ (i := 50) (N := some 113) (lb_ 63 2251799813685247) rfl rfl (one_of HT_.out (by kernel_rfl)) (by decide) (fun K hK => ?_)
 refine goes_ Try.func24 (by kernel_rfl) rfl #[.agg #[.string t324, .slice Ao94 t325.length co94, .slice Ao95 t328.length co95, .bool t331, .slice Ao96 t332.length co96], .agg #[.string t335, .slice Ao97 t336.length co97, .slice Ao98 t339.length co98, .bool t342, .slice Ao99 t343.length co99]] (by rfl) rfl rfl ar_ ?_
 with_reducible refine (fencepostref04_Same.calls kj7 t324 _ _ t325 _ _ t328 t331 _ _ t332 t335 _ _ t336 _ _ t339 t342 _ _ t343 true _ ?side1 ?side2 ?side3 ?side4 ?side5 ?side6 ?side7 ?side8 ?side9 ?side10 ?side11 ?side12 A50.out).mono ?_
 (case side1 => repeat (first | exact (Kd.V_reads' HO327.out).2.2 | (with_reducible refine Kd.C_alloc ?_ _) | (with_reducible refine Kd.C_drewN ?_ _) | (with_reducible refine Kd.C_drew ?_)))
 (case side2 => exact (Kd.V_reads' HO327.out).2.1)
 (case side3 => repeat (first | exact (Kd.S_reads' HO330.out).2.2 | (with_reducible refine Kd.C_alloc ?_ _) | (with_reducible refine Kd.C_drewN ?_ _) | (with_reducible refine Kd.C_drew ?_)))
 (case side4 => exact (Kd.S_reads' HO330.out).2.1)
 (case side5 => repeat (first | exact (Kd.V_reads' HO334.out).2.2 | (with_reducible refine Kd.C_alloc ?_ _) | (with_reducible refine Kd.C_drewN ?_ _) | (with_reducible refine Kd.C_drew ?_)))
 (case side6 => exact (Kd.V_reads' HO334.out).2.1)
 (case side7 => repeat (first | exact (Kd.V_reads' HO338.out).2.2 | (with_reducible refine Kd.C_alloc ?_ _) | (with_reducible refine Kd.C_drewN ?_ _) | (with_reducible refine Kd.C_drew ?_)))
 (case side8 => exact (Kd.V_reads' HO338.out).2.1)
 (case side9 => repeat (first | exact (Kd.S_reads' HO341.out).2.2 | (with_reducible refine Kd.C_alloc ?_ _) | (with_reducible refine Kd.C_drewN ?_ _) | (with_reducible refine Kd.C_drew ?_)))
 (case side10 => exact (Kd.S_reads' HO341.out).2.1)
 (case side11 => repeat (first | exact (Kd.V_reads' HO345.out).2.2 | (with_reducible refine Kd.C_alloc ?_ _) | (with_reducible refine Kd.C_drewN ?_ _) | (with_reducible refine Kd.C_drew ?_)))
 (case side12 => exact (Kd.V_reads' HO345.out).2.1)
 rintro e w100 ⟨rfl, hb⟩
 refine ⟨_, rfl, ?_⟩
 have n0_ := Aside0.mk (Kd.V_below (vd_ HO284.out) hb)
 have n1_ := Aside0.mk (Kd.V_below (vd_ HO287.out) hb)
 have n2_ := Aside0.mk (Kd.V_below (vd_ HO291.out) hb)
 have n3_ := Aside0.mk (Kd.V_below (vd_ HO297.out) hb)
 have n4_ := Aside0.mk (Kd.V_below (vd_ HO300.out) hb)
 have n5_ := Aside0.mk (Kd.V_below (vd_ HO304.out) hb)
 have n6_ := Aside0.mk (Kd.R_below (rd_ HO313.out) hb)
 have n7_ := Aside0.mk (Kd.S_below (sd_ HO316.out) hb)
 have n8_ := Aside0.mk (Kd.R_below (rd_ HO319.out) hb)
 have n9_ := Aside0.mk (Kd.S_below (sd_ HO322.out) hb)
 have n10_ := Aside0.mk (Kd.V_below (vd_ HO327.out) hb)
 have n11_ := Aside0.mk (Kd.S_below (sd_ HO330.out) hb)
 have n12_ := Aside0.mk (Kd.V_below (vd_ HO334.out) hb)
 have n13_ := Aside0.mk (Kd.V_below (vd_ HO338.out) hb)
 have n14_ := Aside0.mk (Kd.S_below (sd_ HO341.out) hb)
 have n15_ := Aside0.mk (Kd.V_below (vd_ HO345.out) hb)
 have n16_ := Aside0.mk (bb_ BK270.out hb)
 have n17_ := Aside0.mk (bb_ BK271.out hb)
 have n18_ := Aside0.mk (bb_ BK293.out hb)
 have n19_ := Aside0.mk (bb_ BK306.out hb)
 have n20_ := Aside0.mk (below_step (hb_ HB.out) hb)
 clear HO284
 clear HO287
 clear HO291
 clear HO297
 clear HO300
 clear HO304
 clear HO313
 clear HO316
 clear HO319
 clear HO322
 clear HO327
 clear HO330
 clear HO334
 clear HO338
 clear HO341
 clear HO345
 clear BK270
 clear BK271
 clear BK293
 clear BK306
 clear HB
 have HO284 := n0_
 have HO287 := n1_
 have HO291 := n2_
 have HO297 := n3_
 have HO300 := n4_
 have HO304 := n5_
 have HO313 := n6_
 have HO316 := n7_
 have HO319 := n8_
 have HO322 := n9_
 have HO327 := n10_
 have HO330 := n11_
 have HO334 := n12_
 have HO338 := n13_
 have HO341 := n14_
 have HO345 := n15_
 have BK270 := n16_
 have BK271 := n17_
 have BK293 := n18_
 have BK306 := n19_
 have HB := n20_
 clear n0_ n1_ n2_ n3_ n4_ n5_ n6_ n7_ n8_ n9_ n10_ n11_ n12_ n13_ n14_ n15_ n16_ n17_ n18_ n19_ n20_
 (try clear hb)
 (try clear hb2)
 (try clear hk)
 (try clear hi)
 refine hK.out _ _ ⟨(blk_cell BK270.out 0).trans rfl, (blk_cell BK270.out 1).trans rfl, (blk_cell BK271.out 0).trans rfl, (blk_cell BK271.out 1).trans rfl, (blk_cell BK271.out 2).trans rfl, (blk_cell BK271.out 3).trans rfl, (blk_cell BK271.out 4).trans rfl, (blk_cell BK293.out 0).trans rfl, (blk_cell BK293.out 1).trans rfl, (blk_cell BK293.out 2).trans rfl, (blk_cell BK293.out 3).trans rfl, (blk_cell BK293.out 4).trans rfl, (blk_cell BK306.out 0).trans rfl, (blk_cell BK306.out 1).trans rfl, (blk_cell BK306.out 2).trans rfl, (blk_cell BK306.out 3).trans rfl, (blk_cell BK306.out 4).trans rfl⟩ (fun hHeld => ?_)
 clear hK K
 refine norm_ (a' := ?_) ?_ ?_
 rotate_left
 ·show Act.put _ (some 113) _ = _
  simp only [Act.put, List.setIfInBounds_toArray, List.set_cons_zero, List.set_cons_succ, i64_w, i32_w]
  rfl
 refine pure_ (i := 51) (N := some 114) (v := ?_) (a' := ?_) (lb_ 63 4503599627370495) rfl rfl (any_of HT_.out (by kernel_rfl)) (fun _ _ _ h => h) (Or.inl ⟨by rfl, ?_⟩) ?_ ?_; rotate_left; intro w'; go_simp; with_reducible rfl; rotate_left; simp only [Act.put, List.setIfInBounds_toArray, List.set_cons_zero, List.set_cons_succ, i64_w, i32_w]; rfl
 refine pure_ (i := 52) (N := some 115) (v := ?_) (a' := ?_) (lb_ 63 9007199254740991) rfl rfl (any_of HT_.out (by kernel_rfl)) (fun _ _ _ h => h) (Or.inl ⟨by rfl, ?_⟩) ?_ ?_; rotate_left; intro w'; go_simp; with_reducible rfl; rotate_left; simp only [Act.put, List.setIfInBounds_toArray, List.set_cons_zero, List.set_cons_succ, i64_w, i32_w]; rfl
 refine take_ (i := 53) (N := some 116) (v := ?_) (a' := ?_) (lb_ 63 18014398509481983) rfl rfl (take_ofW HT_.out HW_.out (by kernel_rfl)) (fun _ _ _ h => h) (Or.inl ⟨by rfl, ?_⟩) hHeld ?_ ?_; rotate_left; rintro w' ⟨s0, s1, s2, s3, s4, s5, s6, s7, s8, s9, s10, s11, s12, s13, s14, s15, s16⟩; go_simp; with_reducible rfl; rotate_left; simp only [Act.put, List.setIfInBounds_toArray, List.set_cons_zero, List.set_cons_succ, i64_w, i32_w]; rfl
 refine take_ (i := 54) (N := some 117) (v := ?_) (a' := ?_) (lb_ 63 36028797018963967) rfl rfl (take_ofW HT_.out HW_.out (by kernel_rfl)) (fun _ _ _ h => h) (Or.inl ⟨by rfl, ?_⟩) hHeld ?_ ?_; rotate_left; rintro w' ⟨s0, s1, s2, s3, s4, s5, s6, s7, s8, s9, s10, s11, s12, s13, s14, s15, s16⟩; go_simp; with_reducible rfl; rotate_left; simp only [Act.put, List.setIfInBounds_toArray, List.set_cons_zero, List.set_cons_succ, i64_w, i32_w]; rfl
 refine one_ (i := 55) (N := some 118) (lb_ 63 72057594037927935) rfl rfl (one_of HT_.out (by kernel_rfl)) (by decide) (fun K hK => ?_)
 refine goes_ Try.func24 (by kernel_rfl) rfl #[.agg #[.string t281, .slice Ao65 t282.length co65, .slice Ao66 t285.length co66, .bool t288, .slice Ao67 t289.length co67], .agg #[.string t294, .slice Ao76 t295.length co76, .slice Ao77 t298.length co77, .bool t301, .slice Ao78 t302.length co78]] (by rfl) rfl rfl ar_ ?_
 with_reducible refine (fencepostref04_Same.calls kj7 t281 _ _ t282 _ _ t285 t288 _ _ t289 t294 _ _ t295 _ _ t298 t301 _ _ t302 true _ ?side1 ?side2 ?side3 ?side4 ?side5 ?side6 ?side7 ?side8 ?side9 ?side10 ?side11 ?side12 A52.out).mono ?_
 (case side1 => repeat (first | exact (Kd.V_reads' HO284.out).2.2 | (with_reducible refine Kd.C_alloc ?_ _) | (with_reducible refine Kd.C_drewN ?_ _) | (with_reducible refine Kd.C_drew ?_)))
 (case side2 => exact (Kd.V_reads' HO284.out).2.1)
 (case side3 => repeat (first | exact (Kd.V_reads' HO287.out).2.2 | (with_reducible refine Kd.C_alloc ?_ _) | (with_reducible refine Kd.C_drewN ?_ _) | (with_reducible refine Kd.C_drew ?_)))
 (case side4 => exact (Kd.V_reads' HO287.out).2.1)
 (case side5 => repeat (first | exact (Kd.V_reads' HO291.out).2.2 | (with_reducible refine Kd.C_alloc ?_ _) | (with_reducible refine Kd.C_drewN ?_ _) | (with_reducible refine Kd.C_drew ?_)))
 (case side6 => exact (Kd.V_reads' HO291.out).2.1)
 (case side7 => repeat (first | exact (Kd.V_reads' HO297.out).2.2 | (with_reducible refine Kd.C_alloc ?_ _) | (with_reducible refine Kd.C_drewN ?_ _) | (with_reducible refine Kd.C_drew ?_)))
 (case side8 => exact (Kd.V_reads' HO297.out).2.1)
 (case side9 => repeat (first | exact (Kd.V_reads' HO300.out).2.2 | (with_reducible refine Kd.C_alloc ?_ _) | (with_reducible refine Kd.C_drewN ?_ _) | (with_reducible refine Kd.C_drew ?_)))
 (case side10 => exact (Kd.V_reads' HO300.out).2.1)
 (case side11 => repeat (first | exact (Kd.V_reads' HO304.out).2.2 | (with_reducible refine Kd.C_alloc ?_ _) | (with_reducible refine Kd.C_drewN ?_ _) | (with_reducible refine Kd.C_drew ?_)))
 (case side12 => exact (Kd.V_reads' HO304.out).2.1)
 rintro e w101 ⟨rfl, hb⟩
 refine ⟨_, rfl, ?_⟩
 have n0_ := Aside0.mk (Kd.V_below (vd_ HO284.out) hb)
 have n1_ := Aside0.mk (Kd.V_below (vd_ HO287.out) hb)
 have n2_ := Aside0.mk (Kd.V_below (vd_ HO291.out) hb)
 have n3_ := Aside0.mk (Kd.V_below (vd_ HO297.out) hb)
 have n4_ := Aside0.mk (Kd.V_below (vd_ HO300.out) hb)
 have n5_ := Aside0.mk (Kd.V_below (vd_ HO304.out) hb)
 have n6_ := Aside0.mk (Kd.R_below (rd_ HO313.out) hb)
 have n7_ := Aside0.mk (Kd.S_below (sd_ HO316.out) hb)
 have n8_ := Aside0.mk (Kd.R_below (rd_ HO319.out) hb)
 have n9_ := Aside0.mk (Kd.S_below (sd_ HO322.out) hb)
 have n10_ := Aside0.mk (Kd.V_below (vd_ HO327.out) hb)
 have n11_ := Aside0.mk (Kd.S_below (sd_ HO330.out) hb)
 have n12_ := Aside0.mk (Kd.V_below (vd_ HO334.out) hb)
 have n13_ := Aside0.mk (Kd.V_below (vd_ HO338.out) hb)
 have n14_ := Aside0.mk (Kd.S_below (sd_ HO341.out) hb)
 have n15_ := Aside0.mk (Kd.V_below (vd_ HO345.out) hb)
 have n16_ := Aside0.mk (bb_ BK270.out hb)
 have n17_ := Aside0.mk (bb_ BK271.out hb)
 have n18_ := Aside0.mk (bb_ BK293.out hb)
 have n19_ := Aside0.mk (bb_ BK306.out hb)
 have n20_ := Aside0.mk (below_step (hb_ HB.out) hb)
 clear HO284
 clear HO287
 clear HO291
 clear HO297
 clear HO300
 clear HO304
 clear HO313
 clear HO316
 clear HO319
 clear HO322
 clear HO327
 clear HO330
 clear HO334
 clear HO338
 clear HO341
 clear HO345
 clear BK270
 clear BK271
 clear BK293
 clear BK306
 clear HB
 have HO284 := n0_
 have HO287 := n1_
 have HO291 := n2_
 have HO297 := n3_
 have HO300 := n4_
 have HO304 := n5_
 have HO313 := n6_
 have HO316 := n7_
 have HO319 := n8_
 have HO322 := n9_
 have HO327 := n10_
 have HO330 := n11_
 have HO334 := n12_
 have HO338 := n13_
 have HO341 := n14_
 have HO345 := n15_
 have BK270 := n16_
 have BK271 := n17_
 have BK293 := n18_
 have BK306 := n19_
 have HB := n20_
 clear n0_ n1_ n2_ n3_ n4_ n5_ n6_ n7_ n8_ n9_ n10_ n11_ n12_ n13_ n14_ n15_ n16_ n17_ n18_ n19_ n20_
 (try clear hb)
 (try clear hb2)
 (try clear hk)
 (try clear hi)
 refine hK.out _ _ ⟨(blk_cell BK270.out 0).trans rfl, (blk_cell BK270.out 1).trans rfl, (blk_cell BK271.out 0).trans rfl, (blk_cell BK271.out 1).trans rfl, (blk_cell BK271.out 2).trans rfl, (blk_cell BK271.out 3).trans rfl, (blk_cell BK271.out 4).trans rfl, (blk_cell BK293.out 0).trans rfl, (blk_cell BK293.out 1).trans rfl, (blk_cell BK293.out 2).trans rfl, (blk_cell BK293.out 3).trans rfl, (blk_cell BK293.out 4).trans rfl, (blk_cell BK306.out 0).trans rfl, (blk_cell BK306.out 1).trans rfl, (blk_cell BK306.out 2).trans rfl, (blk_cell BK306.out 3).trans rfl, (blk_cell BK306.out 4).trans rfl⟩ (fun hHeld => ?_)
 clear hK K
 refine norm_ (a' := ?_) ?_ ?_
 rotate_left
 ·show Act.put _ (some 118) _ = _
  simp only [Act.put, List.setIfInBounds_toArray, List.set_cons_zero, List.set_cons_succ, i64_w, i32_w]
  rfl
 refine pure_ (i := 56) (N := some 119) (v := ?_) (a' := ?_) (lb_ 63 144115188075855871) rfl rfl (any_of HT_.out (by kernel_rfl)) (fun _ _ _ h => h) (Or.inl ⟨by rfl, ?_⟩) ?_ ?_; rotate_left; intro w'; go_simp; with_reducible rfl; rotate_left; simp only [Act.put, List.setIfInBounds_toArray, List.set_cons_zero, List.set_cons_succ, i64_w, i32_w]; rfl
 refine pure_ (i := 57) (N := some 120) (v := ?_) (a' := ?_) (lb_ 63 288230376151711743) rfl rfl (any_of HT_.out (by kernel_rfl)) (fun _ _ _ h => h) (Or.inl ⟨by rfl, ?_⟩) ?_ ?_; rotate_left; intro w'; go_simp; with_reducible rfl; rotate_left; simp only [Act.put, List.setIfInBounds_toArray, List.set_cons_zero, List.set_cons_succ, i64_w, i32_w]; rfl
 refine pure_ (i := 58) (N := some 121) (v := ?_) (a' := ?_) (lb_ 63 576460752303423487) rfl rfl (any_of HT_.out (by kernel_rfl)) (fun _ _ _ h => h) (Or.inl ⟨by rfl, ?_⟩) ?_ ?_; rotate_left; intro w'; go_simp; with_reducible rfl; rotate_left; simp only [Act.put, List.setIfInBounds_toArray, List.set_cons_zero, List.set_cons_succ, i64_w, i32_w]; rfl
 refine pure_ (i := 59) (N := some 122) (v := ?_) (a' := ?_) (lb_ 63 1152921504606846975) rfl rfl (any_of HT_.out (by kernel_rfl)) (fun _ _ _ h => h) (Or.inl ⟨by rfl, ?_⟩) ?_ ?_; rotate_left; intro w'; go_simp; with_reducible rfl; rotate_left; simp only [Act.put, List.setIfInBounds_toArray, List.set_cons_zero, List.set_cons_succ, i64_w, i32_w]; rfl
 refine pure_ (i := 60) (N := some 123) (v := ?_) (a' := ?_) (lb_ 63 2305843009213693951) rfl rfl (any_of HT_.out (by kernel_rfl)) (fun _ _ _ h => h) (Or.inl ⟨by rfl, ?_⟩) ?_ ?_; rotate_left; intro w'; go_simp; with_reducible rfl; rotate_left; simp only [Act.put, List.setIfInBounds_toArray, List.set_cons_zero, List.set_cons_succ, i64_w, i32_w]; rfl
 refine pure_ (i := 61) (N := some 124) (v := ?_) (a' := ?_) (lb_ 63 4611686018427387903) rfl rfl (any_of HT_.out (by kernel_rfl)) (fun _ _ _ h => h) (Or.inl ⟨by rfl, ?_⟩) ?_ ?_; rotate_left; intro w'; go_simp; with_reducible rfl; rotate_left; simp only [Act.put, List.setIfInBounds_toArray, List.set_cons_zero, List.set_cons_succ, i64_w, i32_w]; rfl
 refine pure_ (i := 62) (N := some 12) (v := ?_) (a' := ?_) (lb_ 63 9223372036854775807) rfl rfl (any_of HT_.out (by kernel_rfl)) (fun _ _ _ h => h) (Or.inl ⟨by rfl, ?_⟩) ?_ ?_; rotate_left; intro w'; go_simp; with_reducible rfl; rotate_left; simp only [Act.put, List.setIfInBounds_toArray, List.set_cons_zero, List.set_cons_succ, i64_w, i32_w]; rfl
 refine done_ (done_of HT_.out (by kernel_rfl)) ?_
 try go_wp2
 go_ret
 exact ⟨by first | rfl | (simp [errW_none, errW_some] <;> rfl) | (simp [*, errW_none, errW_some] <;> rfl), hb_ HB.out⟩
end Go.Proofs.Ytijpfonbeepmfaa.Print
