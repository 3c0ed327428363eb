-- Written by ownprint.py (this session's) with the kit's print.py: functions, contracts, rows; Lean checks it.
import Derived.Test.YtijpfonbeepmfaaPrint0
import Derived.Test.YtijpfonbeepmfaaPrint2
import Derived.Test.YtijpfonbeepmfaaPrint3
import Derived.Test.YtijpfonbeepmfaaPrint4
import Derived.Test.YtijpfonbeepmfaaHSq
namespace Go.Proofs.Ytijpfonbeepmfaa.Print
open Go.RowKit Go.Proofs.YtijpfonbeepmfaaW.PrintWords Go.Proofs.YtijpfonbeepmfaaW.PrintLast Go.Proofs.YtijpfonbeepmfaaW.PrintMore
attribute [local go_sem] max2_int min2_int max_two min_two max_three min_three max_four min_four   -- for this text's walks alone
set_option linter.unusedVariables false
set_option linter.unusedSimpArgs false
attribute [local go_sem high] eqA60 eqA62 eqA64
mutual
def fencepostref04_Same.j0 : Nat → Bool → ByteArray → List (S62) → List (S58) → Bool → List (S64) → ByteArray → List (S62) → List (S58) → Bool → List (S64) → Option (Bool)
 | 0, _, _, _, _, _, _, _, _, _, _, _ => none
 | k + 1, x47, x116000, x116001, x116002, x116003, x116004, x117000, x117001, x117002, x117003, x117004 => if x47 = true then (some false) else (fencepostref04_Same.l0 k 0 x116000 x116001 x116002 x116003 x116004 x117000 x117001 x117002 x117003 x117004)
def fencepostref04_Same.l0 : Nat → Int → ByteArray → List (S62) → List (S58) → Bool → List (S64) → ByteArray → List (S62) → List (S58) → Bool → List (S64) → Option (Bool)
 | 0, _, _, _, _, _, _, _, _, _, _, _ => none
 | k + 1, x5, x116000, x116001, x116002, x116003, x116004, x117000, x117001, x117002, x117003, x117004 => if x5 < (x116001.length : Int) then (if 0 ≤ x5 then (if x5 < (x117001.length : Int) then (if (!((((rd_T62 x116001 x5).f0).toList) == (((rd_T62 x117001 x5).f0).toList)) || (!(((rd_T62 x116001 x5).f1) == ((rd_T62 x117001 x5).f1)))) = true then (some false) else (fencepostref04_Same.l0 k (wrap64 (x5 + 1)) x116000 x116001 x116002 x116003 x116004 x117000 x117001 x117002 x117003 x117004)) else (none)) else (none)) else (fencepostref04_Same.l1 k 0 x116000 x116001 x116002 x116003 x116004 x117000 x117001 x117002 x117003 x117004)
def fencepostref04_Same.l1 : Nat → Int → ByteArray → List (S62) → List (S58) → Bool → List (S64) → ByteArray → List (S62) → List (S58) → Bool → List (S64) → Option (Bool)
 | 0, _, _, _, _, _, _, _, _, _, _, _ => none
 | k + 1, x6, x116000, x116001, x116002, x116003, x116004, x117000, x117001, x117002, x117003, x117004 => if x6 < (x116002.length : Int) then (if 0 ≤ x6 then (if x6 < (x117002.length : Int) then (if (((rd_T58 x116002 x6).f0).length : Int) = (((rd_T58 x117002 x6).f0).length : Int) then (fencepostref04_Same.l2 k x6 0 x116000 x116001 x116002 x116003 x116004 x117000 x117001 x117002 x117003 x117004) else (some false)) else (none)) else (none)) else (fencepostref04_Same.l3 k 0 x116000 x116001 x116002 x116003 x116004 x117000 x117001 x117002 x117003 x117004)
def fencepostref04_Same.l2 : Nat → Int → Int → ByteArray → List (S62) → List (S58) → Bool → List (S64) → ByteArray → List (S62) → List (S58) → Bool → List (S64) → Option (Bool)
 | 0, _, _, _, _, _, _, _, _, _, _, _, _ => none
 | k + 1, x6, x7, x116000, x116001, x116002, x116003, x116004, x117000, x117001, x117002, x117003, x117004 => if 0 ≤ x6 then (if x6 < (x116002.length : Int) then (if x7 < (((rd_T58 x116002 x6).f0).length : Int) then (if 0 ≤ x7 then (if x6 < (x117002.length : Int) then (if x7 < (((rd_T58 x117002 x6).f0).length : Int) then (if (!(((rd_T60 ((rd_T58 x116002 x6).f0) x7).f0) == ((rd_T60 ((rd_T58 x117002 x6).f0) x7).f0)) || (!((((rd_T60 ((rd_T58 x116002 x6).f0) x7).f1).toList) == (((rd_T60 ((rd_T58 x117002 x6).f0) x7).f1).toList)) || (!((((rd_T60 ((rd_T58 x116002 x6).f0) x7).f2).toList) == (((rd_T60 ((rd_T58 x117002 x6).f0) x7).f2).toList)) || (!((((rd_T60 ((rd_T58 x116002 x6).f0) x7).f3).toList) == (((rd_T60 ((rd_T58 x117002 x6).f0) x7).f3).toList)) || (!(((rd_T60 ((rd_T58 x116002 x6).f0) x7).f4) == ((rd_T60 ((rd_T58 x117002 x6).f0) x7).f4))))))) = true then (some false) else (fencepostref04_Same.l2 k x6 (wrap64 (x7 + 1)) x116000 x116001 x116002 x116003 x116004 x117000 x117001 x117002 x117003 x117004)) else (none)) else (none)) else (none)) else (fencepostref04_Same.l1 k (wrap64 (x6 + 1)) x116000 x116001 x116002 x116003 x116004 x117000 x117001 x117002 x117003 x117004)) else (none)) else (none)
def fencepostref04_Same.l3 : Nat → Int → ByteArray → List (S62) → List (S58) → Bool → List (S64) → ByteArray → List (S62) → List (S58) → Bool → List (S64) → Option (Bool)
 | 0, _, _, _, _, _, _, _, _, _, _, _ => none
 | k + 1, x8, x116000, x116001, x116002, x116003, x116004, x117000, x117001, x117002, x117003, x117004 => if x8 < (x116004.length : Int) then (if 0 ≤ x8 then (if x8 < (x117004.length : Int) then (if (!(((rd_T64 x116004 x8).f0) == ((rd_T64 x117004 x8).f0)) || (!((((rd_T64 x116004 x8).f1).toList) == (((rd_T64 x117004 x8).f1).toList)) || (!(((rd_T64 x116004 x8).f2) == ((rd_T64 x117004 x8).f2))))) = true then (some false) else (fencepostref04_Same.l3 k (wrap64 (x8 + 1)) x116000 x116001 x116002 x116003 x116004 x117000 x117001 x117002 x117003 x117004)) else (none)) else (none)) else (some true)
end
def fencepostref04_Same.f (k : Nat) (a0_0 : ByteArray) (l0_1 : List (S62)) (l0_2 : List (S58)) (a0_3 : Bool) (l0_4 : List (S64)) (a1_0 : ByteArray) (l1_1 : List (S62)) (l1_2 : List (S58)) (a1_3 : Bool) (l1_4 : List (S64)) : Option (Bool) := if a0_0.toList = a1_0.toList then (if (a0_3 != a1_3) = true then (fencepostref04_Same.j0 k true a0_0 l0_1 l0_2 a0_3 l0_4 a1_0 l1_1 l1_2 a1_3 l1_4) else (if (l0_1.length : Int) = (l1_1.length : Int) then (if (l0_2.length : Int) = (l1_2.length : Int) then (fencepostref04_Same.j0 k ((l0_4.length : Int) != (l1_4.length : Int)) a0_0 l0_1 l0_2 a0_3 l0_4 a1_0 l1_1 l1_2 a1_3 l1_4) else (fencepostref04_Same.j0 k true a0_0 l0_1 l0_2 a0_3 l0_4 a1_0 l1_1 l1_2 a1_3 l1_4)) else (fencepostref04_Same.j0 k true a0_0 l0_1 l0_2 a0_3 l0_4 a1_0 l1_1 l1_2 a1_3 l1_4))) else (fencepostref04_Same.j0 k true a0_0 l0_1 l0_2 a0_3 l0_4 a1_0 l1_1 l1_2 a1_3 l1_4)
set_option maxHeartbeats 8000000 in
set_option maxRecDepth 100000 in
theorem fencepostref04_Same.calls (k : Nat) (a0_0 : ByteArray) (A0_1 : Option Addr) (c0_1 : Nat) (l0_1 : List (S62)) (A0_2 : Option Addr) (c0_2 : Nat) (l0_2 : List (S58)) (a0_3 : Bool) (A0_4 : Option Addr) (c0_4 : Nat) (l0_4 : List (S64)) (a1_0 : ByteArray) (A1_1 : Option Addr) (c1_1 : Nat) (l1_1 : List (S62)) (A1_2 : Option Addr) (c1_2 : Nat) (l1_2 : List (S58)) (a1_3 : Bool) (A1_4 : Option Addr) (c1_4 : Nat) (l1_4 : List (S64)) (r : Bool) (w : World) (hr0_1 : Kd.C k62 w A0_1 l0_1.length l0_1) (hc0_1 : l0_1.length ≤ c0_1) (hr0_2 : Kd.C k58 w A0_2 l0_2.length l0_2) (hc0_2 : l0_2.length ≤ c0_2) (hr0_4 : Kd.C k64 w A0_4 l0_4.length l0_4) (hc0_4 : l0_4.length ≤ c0_4) (hr1_1 : Kd.C k62 w A1_1 l1_1.length l1_1) (hc1_1 : l1_1.length ≤ c1_1) (hr1_2 : Kd.C k58 w A1_2 l1_2.length l1_2) (hc1_2 : l1_2.length ≤ c1_2) (hr1_4 : Kd.C k64 w A1_4 l1_4.length l1_4) (hc1_4 : l1_4.length ≤ c1_4) (h : fencepostref04_Same.f k a0_0 l0_1 l0_2 a0_3 l0_4 a1_0 l1_1 l1_2 a1_3 l1_4 = some r) :
 Calls Try.prog 24 #[.agg #[.string a0_0, .slice A0_1 l0_1.length c0_1, .slice A0_2 l0_2.length c0_2, .bool a0_3, .slice A0_4 l0_4.length c0_4], .agg #[.string a1_0, .slice A1_1 l1_1.length c1_1, .slice A1_2 l1_2.length c1_2, .bool a1_3, .slice A1_4 l1_4.length c1_4]] w fun e w' => e = .returned (.bool r) ∧ Below w.heap.size w w' := by
 have hu30 := Try.underlying30
 have hu62 := Try.underlying62
 have hu60 := Try.underlying60
 have hu64 := Try.underlying64
 have HR0_1 := Aside0.mk hr0_1
 have HC0_1 := Aside0.mk hc0_1
 clear hr0_1 hc0_1
 have HR0_2 := Aside0.mk hr0_2
 have HC0_2 := Aside0.mk hc0_2
 clear hr0_2 hc0_2
 have HR0_4 := Aside0.mk hr0_4
 have HC0_4 := Aside0.mk hc0_4
 clear hr0_4 hc0_4
 have HR1_1 := Aside0.mk hr1_1
 have HC1_1 := Aside0.mk hc1_1
 clear hr1_1 hc1_1
 have HR1_2 := Aside0.mk hr1_2
 have HC1_2 := Aside0.mk hc1_2
 clear hr1_2 hc1_2
 have HR1_4 := Aside0.mk hr1_4
 have HC1_4 := Aside0.mk hc1_4
 clear hr1_4 hc1_4
 have HB := Aside0.mk (Below.refl w.heap.size w)
 have H : (if a0_0.toList = a1_0.toList then (if (a0_3 != a1_3) = true then (fencepostref04_Same.j0 k true a0_0 l0_1 l0_2 a0_3 l0_4 a1_0 l1_1 l1_2 a1_3 l1_4) else (if (l0_1.length : Int) = (l1_1.length : Int) then (if (l0_2.length : Int) = (l1_2.length : Int) then (fencepostref04_Same.j0 k ((l0_4.length : Int) != (l1_4.length : Int)) a0_0 l0_1 l0_2 a0_3 l0_4 a1_0 l1_1 l1_2 a1_3 l1_4) else (fencepostref04_Same.j0 k true a0_0 l0_1 l0_2 a0_3 l0_4 a1_0 l1_1 l1_2 a1_3 l1_4)) else (fencepostref04_Same.j0 k true a0_0 l0_1 l0_2 a0_3 l0_4 a1_0 l1_1 l1_2 a1_3 l1_4))) else (fencepostref04_Same.j0 k true a0_0 l0_1 l0_2 a0_3 l0_4 a1_0 l1_1 l1_2 a1_3 l1_4)) = some r := h
 clear h
 have HC3 := Aside0.mk H
 clear H
 go_enter Try.func24, Try.ntmps24
 (try simp only [List.append_eq, List.cons_append, List.nil_append])
 go_upto_region 1 with (first | ((with_reducible refine gate_dst (N := 2) rfl ?_); (try (refine gate_guard (by rfl) ?_; dsimp only)); refine box_event ?hg (N := 2) ?hd (cs := #[.string a0_0, .slice A0_1 l0_1.length c0_1, .slice A0_2 l0_2.length c0_2, .bool a0_3, .slice A0_4 l0_4.length c0_4]) (t := 30) ?hr ?_; (case hd => rfl); (case hg => rfl); (case hr => first | (go_simp; done) | (go_simp; rfl)); intro gb115 hg w4 hbox hb; have n0_ := Aside0.mk (below_step (hb_ HB.out) hb); have n1_ := Aside0.mk (hbox); have n2_ := Aside0.mk (gs_ hg (hb_ HB.out)); have n3_ := Aside0.mk (gs_ hg (hb_ HB.out)); clear HB; have HB := n0_; have BK115 := n1_; have GW115 := n2_; have GE115 := n3_; clear n0_ n1_ n2_ n3_; clear hb hbox hg) | ((with_reducible refine gate_dst (N := 3) rfl ?_); (try (refine gate_guard (by rfl) ?_; dsimp only)); refine box_event ?hg (N := 3) ?hd (cs := #[.string a1_0, .slice A1_1 l1_1.length c1_1, .slice A1_2 l1_2.length c1_2, .bool a1_3, .slice A1_4 l1_4.length c1_4]) (t := 30) ?hr ?_; (case hd => rfl); (case hg => rfl); (case hr => first | (go_simp; done) | (go_simp; rfl)); intro gb116 hg w5 hbox hb; have n0_ := Aside0.mk (bb_ BK115.out hb); have n1_ := Aside0.mk (below_step (hb_ HB.out) hb); have n2_ := Aside0.mk (hbox); have n3_ := Aside0.mk (gs_ hg (hb_ HB.out)); have n4_ := Aside0.mk (gs_ hg (hb_ HB.out)); have n5_ := Aside0.mk (gn_ hg BK115.out); have n6_ := Aside0.mk (gn_ hg BK115.out).symm; clear BK115; clear HB; have BK115 := n0_; have HB := n1_; have BK116 := n2_; have GW116 := n3_; have GE116 := n4_; have NB115_116 := n5_; have NB116_115 := n6_; clear n0_ n1_ n2_ n3_ n4_ n5_ n6_; clear hb hbox hg))
 repeat (go_quiet (first | ((with_reducible refine gate_dst (N := 2) rfl ?_); (try (refine gate_guard (by rfl) ?_; dsimp only)); refine box_event ?hg (N := 2) ?hd (cs := #[.string a0_0, .slice A0_1 l0_1.length c0_1, .slice A0_2 l0_2.length c0_2, .bool a0_3, .slice A0_4 l0_4.length c0_4]) (t := 30) ?hr ?_; (case hd => rfl); (case hg => rfl); (case hr => first | (go_simp; done) | (go_simp; rfl)); intro gb115 hg w4 hbox hb; have n0_ := Aside0.mk (below_step (hb_ HB.out) hb); have n1_ := Aside0.mk (hbox); have n2_ := Aside0.mk (gs_ hg (hb_ HB.out)); have n3_ := Aside0.mk (gs_ hg (hb_ HB.out)); clear HB; have HB := n0_; have BK115 := n1_; have GW115 := n2_; have GE115 := n3_; clear n0_ n1_ n2_ n3_; clear hb hbox hg) | ((with_reducible refine gate_dst (N := 3) rfl ?_); (try (refine gate_guard (by rfl) ?_; dsimp only)); refine box_event ?hg (N := 3) ?hd (cs := #[.string a1_0, .slice A1_1 l1_1.length c1_1, .slice A1_2 l1_2.length c1_2, .bool a1_3, .slice A1_4 l1_4.length c1_4]) (t := 30) ?hr ?_; (case hd => rfl); (case hg => rfl); (case hr => first | (go_simp; done) | (go_simp; rfl)); intro gb116 hg w5 hbox hb; have n0_ := Aside0.mk (bb_ BK115.out hb); have n1_ := Aside0.mk (below_step (hb_ HB.out) hb); have n2_ := Aside0.mk (hbox); have n3_ := Aside0.mk (gs_ hg (hb_ HB.out)); have n4_ := Aside0.mk (gs_ hg (hb_ HB.out)); have n5_ := Aside0.mk (gn_ hg BK115.out); have n6_ := Aside0.mk (gn_ hg BK115.out).symm; clear BK115; clear HB; have BK115 := n0_; have HB := n1_; have BK116 := n2_; have GW116 := n3_; have GE116 := n4_; have NB115_116 := n5_; have NB116_115 := n6_; clear n0_ n1_ n2_ n3_ n4_ n5_ n6_; clear hb hbox hg)); go_upto_region 1 with (first | ((with_reducible refine gate_dst (N := 2) rfl ?_); (try (refine gate_guard (by rfl) ?_; dsimp only)); refine box_event ?hg (N := 2) ?hd (cs := #[.string a0_0, .slice A0_1 l0_1.length c0_1, .slice A0_2 l0_2.length c0_2, .bool a0_3, .slice A0_4 l0_4.length c0_4]) (t := 30) ?hr ?_; (case hd => rfl); (case hg => rfl); (case hr => first | (go_simp; done) | (go_simp; rfl)); intro gb115 hg w4 hbox hb; have n0_ := Aside0.mk (below_step (hb_ HB.out) hb); have n1_ := Aside0.mk (hbox); have n2_ := Aside0.mk (gs_ hg (hb_ HB.out)); have n3_ := Aside0.mk (gs_ hg (hb_ HB.out)); clear HB; have HB := n0_; have BK115 := n1_; have GW115 := n2_; have GE115 := n3_; clear n0_ n1_ n2_ n3_; clear hb hbox hg) | ((with_reducible refine gate_dst (N := 3) rfl ?_); (try (refine gate_guard (by rfl) ?_; dsimp only)); refine box_event ?hg (N := 3) ?hd (cs := #[.string a1_0, .slice A1_1 l1_1.length c1_1, .slice A1_2 l1_2.length c1_2, .bool a1_3, .slice A1_4 l1_4.length c1_4]) (t := 30) ?hr ?_; (case hd => rfl); (case hg => rfl); (case hr => first | (go_simp; done) | (go_simp; rfl)); intro gb116 hg w5 hbox hb; have n0_ := Aside0.mk (bb_ BK115.out hb); have n1_ := Aside0.mk (below_step (hb_ HB.out) hb); have n2_ := Aside0.mk (hbox); have n3_ := Aside0.mk (gs_ hg (hb_ HB.out)); have n4_ := Aside0.mk (gs_ hg (hb_ HB.out)); have n5_ := Aside0.mk (gn_ hg BK115.out); have n6_ := Aside0.mk (gn_ hg BK115.out).symm; clear BK115; clear HB; have BK115 := n0_; have HB := n1_; have BK116 := n2_; have GW116 := n3_; have GE116 := n4_; have NB115_116 := n5_; have NB116_115 := n6_; clear n0_ n1_ n2_ n3_ n4_ n5_ n6_; clear hb hbox hg)))
 (try simp only [Act.put, List.setIfInBounds_toArray, List.set_cons_zero, List.set_cons_succ])
 go_cut [47] (fun v47 wc => ∃ (kq : Nat) (x47_2 : Bool), v47 = .bool x47_2 ∧ Aside0 (fencepostref04_Same.j0 kq x47_2 a0_0 l0_1 l0_2 a0_3 l0_4 a1_0 l1_1 l1_2 a1_3 l1_4 = some r) ∧ Aside0 (kq ≤ k) ∧ Aside0 (wc.heap[gb115]? = some (.cells #[.string a0_0, (.slice A0_1 l0_1.length c0_1), (.slice A0_2 l0_2.length c0_2), .bool a0_3, (.slice A0_4 l0_4.length c0_4)] 30 (0, 0))) ∧ Aside0 (wc.heap[gb116]? = some (.cells #[.string a1_0, (.slice A1_1 l1_1.length c1_1), (.slice A1_2 l1_2.length c1_2), .bool a1_3, (.slice A1_4 l1_4.length c1_4)] 30 (0, 0))) ∧ Aside0 (Below w.heap.size w wc))
 case first =>
  have H := HC3.out
  clear HC3
  by_cases c6 : a0_0.toList = a1_0.toList
  rotate_left
  ·rw [if_neg c6] at H
   have c6b0 : (a0_0.toList == a1_0.toList) = false := beq_eq_false_iff_ne.mpr c6
   have c6b1 : (a0_0.toList != a1_0.toList) = true := bne_iff_ne.mpr c6
   (first | rw [c6b0] | (simp only [i64_w, i32_w]; rw [c6b0]) | skip)
   have H' := Aside0.mk H
   clear H
   have hnb22 := NB115_116.out
   have hnc22 := NB116_115.out
   have hcz23_0 : w5.cell? ⟨gb115, 0, none⟩ = some (.string a0_0) := (blk_cell BK115.out 0).trans rfl
   have hcz23_1 : w5.cell? ⟨gb115, 1, none⟩ = some (.slice A0_1 l0_1.length c0_1) := (blk_cell BK115.out 1).trans rfl
   have hcz23_2 : w5.cell? ⟨gb115, 2, none⟩ = some (.slice A0_2 l0_2.length c0_2) := (blk_cell BK115.out 2).trans rfl
   have hcz23_3 : w5.cell? ⟨gb115, 3, none⟩ = some (.bool a0_3) := (blk_cell BK115.out 3).trans rfl
   have hcz23_4 : w5.cell? ⟨gb115, 4, none⟩ = some (.slice A0_4 l0_4.length c0_4) := (blk_cell BK115.out 4).trans rfl
   have hfz23_0 := blk_frozen BK115.out 0
   have hfz23_1 := blk_frozen BK115.out 1
   have hfz23_2 := blk_frozen BK115.out 2
   have hfz23_3 := blk_frozen BK115.out 3
   have hfz23_4 := blk_frozen BK115.out 4
   have hcz24_0 : w5.cell? ⟨gb116, 0, none⟩ = some (.string a1_0) := (blk_cell BK116.out 0).trans rfl
   have hcz24_1 : w5.cell? ⟨gb116, 1, none⟩ = some (.slice A1_1 l1_1.length c1_1) := (blk_cell BK116.out 1).trans rfl
   have hcz24_2 : w5.cell? ⟨gb116, 2, none⟩ = some (.slice A1_2 l1_2.length c1_2) := (blk_cell BK116.out 2).trans rfl
   have hcz24_3 : w5.cell? ⟨gb116, 3, none⟩ = some (.bool a1_3) := (blk_cell BK116.out 3).trans rfl
   have hcz24_4 : w5.cell? ⟨gb116, 4, none⟩ = some (.slice A1_4 l1_4.length c1_4) := (blk_cell BK116.out 4).trans rfl
   have hfz24_0 := blk_frozen BK116.out 0
   have hfz24_1 := blk_frozen BK116.out 1
   have hfz24_2 := blk_frozen BK116.out 2
   have hfz24_3 := blk_frozen BK116.out 3
   have hfz24_4 := blk_frozen BK116.out 4
   go_wp2
   repeat (go_quiet (fail); try go_wp2)
   go_meet
   case rel => exact ⟨_, (true), rf_, H', ⟨by first | omega | exact Nat.le_refl _⟩, ⟨bd_ BK115.out⟩, ⟨bd_ BK116.out⟩, ⟨hb_ HB.out⟩⟩
  rw [if_pos c6] at H
  have c6b0 : (a0_0.toList == a1_0.toList) = true := beq_iff_eq.mpr c6
  have c6b1 : (a0_0.toList != a1_0.toList) = false := bne_eq_false_iff_eq.mpr c6
  clear c6
  (first | rw [c6b0] | (simp only [i64_w, i32_w]; rw [c6b0]) | skip)
  by_cases c7 : (a0_3 != a1_3) = true
  ·rw [if_pos c7] at H
   have c7b0 : (a0_3 != a1_3) = true := c7
   (try (have c7b1 : decide (a0_3 = a1_3) = false := by simpa using c7))
   (try (have c7b2 : (a0_3 == a1_3) = false := by simpa using c7))
   (try (have c7b3 : ¬ (a0_3 = a1_3) := by simpa using c7))
   clear c7
   have H' := Aside0.mk H
   clear H
   have hnb8 := NB115_116.out
   have hnc8 := NB116_115.out
   have hcz9_0 : w5.cell? ⟨gb115, 0, none⟩ = some (.string a0_0) := (blk_cell BK115.out 0).trans rfl
   have hcz9_1 : w5.cell? ⟨gb115, 1, none⟩ = some (.slice A0_1 l0_1.length c0_1) := (blk_cell BK115.out 1).trans rfl
   have hcz9_2 : w5.cell? ⟨gb115, 2, none⟩ = some (.slice A0_2 l0_2.length c0_2) := (blk_cell BK115.out 2).trans rfl
   have hcz9_3 : w5.cell? ⟨gb115, 3, none⟩ = some (.bool a0_3) := (blk_cell BK115.out 3).trans rfl
   have hcz9_4 : w5.cell? ⟨gb115, 4, none⟩ = some (.slice A0_4 l0_4.length c0_4) := (blk_cell BK115.out 4).trans rfl
   have hfz9_0 := blk_frozen BK115.out 0
   have hfz9_1 := blk_frozen BK115.out 1
   have hfz9_2 := blk_frozen BK115.out 2
   have hfz9_3 := blk_frozen BK115.out 3
   have hfz9_4 := blk_frozen BK115.out 4
   have hcz10_0 : w5.cell? ⟨gb116, 0, none⟩ = some (.string a1_0) := (blk_cell BK116.out 0).trans rfl
   have hcz10_1 : w5.cell? ⟨gb116, 1, none⟩ = some (.slice A1_1 l1_1.length c1_1) := (blk_cell BK116.out 1).trans rfl
   have hcz10_2 : w5.cell? ⟨gb116, 2, none⟩ = some (.slice A1_2 l1_2.length c1_2) := (blk_cell BK116.out 2).trans rfl
   have hcz10_3 : w5.cell? ⟨gb116, 3, none⟩ = some (.bool a1_3) := (blk_cell BK116.out 3).trans rfl
   have hcz10_4 : w5.cell? ⟨gb116, 4, none⟩ = some (.slice A1_4 l1_4.length c1_4) := (blk_cell BK116.out 4).trans rfl
   have hfz10_0 := blk_frozen BK116.out 0
   have hfz10_1 := blk_frozen BK116.out 1
   have hfz10_2 := blk_frozen BK116.out 2
   have hfz10_3 := blk_frozen BK116.out 3
   have hfz10_4 := blk_frozen BK116.out 4
   go_wp2
   repeat (go_quiet (fail); try go_wp2)
   go_meet
   case rel => exact ⟨_, (true), rf_, H', ⟨by first | omega | exact Nat.le_refl _⟩, ⟨bd_ BK115.out⟩, ⟨bd_ BK116.out⟩, ⟨hb_ HB.out⟩⟩
  rw [if_neg c7] at H
  have c7b0 : (a0_3 != a1_3) = false := by simpa using c7
  (try (have c7b1 : decide (a0_3 = a1_3) = true := by simpa using c7))
  (try (have c7b2 : (a0_3 == a1_3) = true := by simpa using c7))
  clear c7
  by_cases c11 : (l0_1.length : Int) = (l1_1.length : Int)
  rotate_left
  ·rw [if_neg c11] at H
   have c11b0 : ((l0_1.length : Int) == (l1_1.length : Int)) = false := beq_eq_false_iff_ne.mpr c11
   have c11b1 : ((l0_1.length : Int) != (l1_1.length : Int)) = true := bne_iff_ne.mpr c11
   have c11b2 : (l0_1.length == l1_1.length) = false := by first | simpa using c11 | (simp at c11 ⊢; omega)
   have H' := Aside0.mk H
   clear H
   have hnb19 := NB115_116.out
   have hnc19 := NB116_115.out
   have hcz20_0 : w5.cell? ⟨gb115, 0, none⟩ = some (.string a0_0) := (blk_cell BK115.out 0).trans rfl
   have hcz20_1 : w5.cell? ⟨gb115, 1, none⟩ = some (.slice A0_1 l0_1.length c0_1) := (blk_cell BK115.out 1).trans rfl
   have hcz20_2 : w5.cell? ⟨gb115, 2, none⟩ = some (.slice A0_2 l0_2.length c0_2) := (blk_cell BK115.out 2).trans rfl
   have hcz20_3 : w5.cell? ⟨gb115, 3, none⟩ = some (.bool a0_3) := (blk_cell BK115.out 3).trans rfl
   have hcz20_4 : w5.cell? ⟨gb115, 4, none⟩ = some (.slice A0_4 l0_4.length c0_4) := (blk_cell BK115.out 4).trans rfl
   have hfz20_0 := blk_frozen BK115.out 0
   have hfz20_1 := blk_frozen BK115.out 1
   have hfz20_2 := blk_frozen BK115.out 2
   have hfz20_3 := blk_frozen BK115.out 3
   have hfz20_4 := blk_frozen BK115.out 4
   have hcz21_0 : w5.cell? ⟨gb116, 0, none⟩ = some (.string a1_0) := (blk_cell BK116.out 0).trans rfl
   have hcz21_1 : w5.cell? ⟨gb116, 1, none⟩ = some (.slice A1_1 l1_1.length c1_1) := (blk_cell BK116.out 1).trans rfl
   have hcz21_2 : w5.cell? ⟨gb116, 2, none⟩ = some (.slice A1_2 l1_2.length c1_2) := (blk_cell BK116.out 2).trans rfl
   have hcz21_3 : w5.cell? ⟨gb116, 3, none⟩ = some (.bool a1_3) := (blk_cell BK116.out 3).trans rfl
   have hcz21_4 : w5.cell? ⟨gb116, 4, none⟩ = some (.slice A1_4 l1_4.length c1_4) := (blk_cell BK116.out 4).trans rfl
   have hfz21_0 := blk_frozen BK116.out 0
   have hfz21_1 := blk_frozen BK116.out 1
   have hfz21_2 := blk_frozen BK116.out 2
   have hfz21_3 := blk_frozen BK116.out 3
   have hfz21_4 := blk_frozen BK116.out 4
   go_wp2
   repeat (go_quiet (fail); try go_wp2)
   go_meet
   case rel => exact ⟨_, (true), rf_, H', ⟨by first | omega | exact Nat.le_refl _⟩, ⟨bd_ BK115.out⟩, ⟨bd_ BK116.out⟩, ⟨hb_ HB.out⟩⟩
  rw [if_pos c11] at H
  have c11b0 : ((l0_1.length : Int) == (l1_1.length : Int)) = true := beq_iff_eq.mpr c11
  have c11b1 : ((l0_1.length : Int) != (l1_1.length : Int)) = false := bne_eq_false_iff_eq.mpr c11
  have c11b2 : (l0_1.length == l1_1.length) = true := by first | simpa using c11 | (simp at c11 ⊢; omega)
  clear c11
  by_cases c12 : (l0_2.length : Int) = (l1_2.length : Int)
  rotate_left
  ·rw [if_neg c12] at H
   have c12b0 : ((l0_2.length : Int) == (l1_2.length : Int)) = false := beq_eq_false_iff_ne.mpr c12
   have c12b1 : ((l0_2.length : Int) != (l1_2.length : Int)) = true := bne_iff_ne.mpr c12
   have c12b2 : (l0_2.length == l1_2.length) = false := by first | simpa using c12 | (simp at c12 ⊢; omega)
   have H' := Aside0.mk H
   clear H
   have hnb16 := NB115_116.out
   have hnc16 := NB116_115.out
   have hcz17_0 : w5.cell? ⟨gb115, 0, none⟩ = some (.string a0_0) := (blk_cell BK115.out 0).trans rfl
   have hcz17_1 : w5.cell? ⟨gb115, 1, none⟩ = some (.slice A0_1 l0_1.length c0_1) := (blk_cell BK115.out 1).trans rfl
   have hcz17_2 : w5.cell? ⟨gb115, 2, none⟩ = some (.slice A0_2 l0_2.length c0_2) := (blk_cell BK115.out 2).trans rfl
   have hcz17_3 : w5.cell? ⟨gb115, 3, none⟩ = some (.bool a0_3) := (blk_cell BK115.out 3).trans rfl
   have hcz17_4 : w5.cell? ⟨gb115, 4, none⟩ = some (.slice A0_4 l0_4.length c0_4) := (blk_cell BK115.out 4).trans rfl
   have hfz17_0 := blk_frozen BK115.out 0
   have hfz17_1 := blk_frozen BK115.out 1
   have hfz17_2 := blk_frozen BK115.out 2
   have hfz17_3 := blk_frozen BK115.out 3
   have hfz17_4 := blk_frozen BK115.out 4
   have hcz18_0 : w5.cell? ⟨gb116, 0, none⟩ = some (.string a1_0) := (blk_cell BK116.out 0).trans rfl
   have hcz18_1 : w5.cell? ⟨gb116, 1, none⟩ = some (.slice A1_1 l1_1.length c1_1) := (blk_cell BK116.out 1).trans rfl
   have hcz18_2 : w5.cell? ⟨gb116, 2, none⟩ = some (.slice A1_2 l1_2.length c1_2) := (blk_cell BK116.out 2).trans rfl
   have hcz18_3 : w5.cell? ⟨gb116, 3, none⟩ = some (.bool a1_3) := (blk_cell BK116.out 3).trans rfl
   have hcz18_4 : w5.cell? ⟨gb116, 4, none⟩ = some (.slice A1_4 l1_4.length c1_4) := (blk_cell BK116.out 4).trans rfl
   have hfz18_0 := blk_frozen BK116.out 0
   have hfz18_1 := blk_frozen BK116.out 1
   have hfz18_2 := blk_frozen BK116.out 2
   have hfz18_3 := blk_frozen BK116.out 3
   have hfz18_4 := blk_frozen BK116.out 4
   go_wp2
   repeat (go_quiet (fail); try go_wp2)
   go_meet
   case rel => exact ⟨_, (true), rf_, H', ⟨by first | omega | exact Nat.le_refl _⟩, ⟨bd_ BK115.out⟩, ⟨bd_ BK116.out⟩, ⟨hb_ HB.out⟩⟩
  rw [if_pos c12] at H
  have c12b0 : ((l0_2.length : Int) == (l1_2.length : Int)) = true := beq_iff_eq.mpr c12
  have c12b1 : ((l0_2.length : Int) != (l1_2.length : Int)) = false := bne_eq_false_iff_eq.mpr c12
  have c12b2 : (l0_2.length == l1_2.length) = true := by first | simpa using c12 | (simp at c12 ⊢; omega)
  clear c12
  have H' := Aside0.mk H
  clear H
  have hnb13 := NB115_116.out
  have hnc13 := NB116_115.out
  have hcz14_0 : w5.cell? ⟨gb115, 0, none⟩ = some (.string a0_0) := (blk_cell BK115.out 0).trans rfl
  have hcz14_1 : w5.cell? ⟨gb115, 1, none⟩ = some (.slice A0_1 l0_1.length c0_1) := (blk_cell BK115.out 1).trans rfl
  have hcz14_2 : w5.cell? ⟨gb115, 2, none⟩ = some (.slice A0_2 l0_2.length c0_2) := (blk_cell BK115.out 2).trans rfl
  have hcz14_3 : w5.cell? ⟨gb115, 3, none⟩ = some (.bool a0_3) := (blk_cell BK115.out 3).trans rfl
  have hcz14_4 : w5.cell? ⟨gb115, 4, none⟩ = some (.slice A0_4 l0_4.length c0_4) := (blk_cell BK115.out 4).trans rfl
  have hfz14_0 := blk_frozen BK115.out 0
  have hfz14_1 := blk_frozen BK115.out 1
  have hfz14_2 := blk_frozen BK115.out 2
  have hfz14_3 := blk_frozen BK115.out 3
  have hfz14_4 := blk_frozen BK115.out 4
  have hcz15_0 : w5.cell? ⟨gb116, 0, none⟩ = some (.string a1_0) := (blk_cell BK116.out 0).trans rfl
  have hcz15_1 : w5.cell? ⟨gb116, 1, none⟩ = some (.slice A1_1 l1_1.length c1_1) := (blk_cell BK116.out 1).trans rfl
  have hcz15_2 : w5.cell? ⟨gb116, 2, none⟩ = some (.slice A1_2 l1_2.length c1_2) := (blk_cell BK116.out 2).trans rfl
  have hcz15_3 : w5.cell? ⟨gb116, 3, none⟩ = some (.bool a1_3) := (blk_cell BK116.out 3).trans rfl
  have hcz15_4 : w5.cell? ⟨gb116, 4, none⟩ = some (.slice A1_4 l1_4.length c1_4) := (blk_cell BK116.out 4).trans rfl
  have hfz15_0 := blk_frozen BK116.out 0
  have hfz15_1 := blk_frozen BK116.out 1
  have hfz15_2 := blk_frozen BK116.out 2
  have hfz15_3 := blk_frozen BK116.out 3
  have hfz15_4 := blk_frozen BK116.out 4
  go_wp2
  repeat (go_quiet (fail); try go_wp2)
  go_meet
  case rel => exact ⟨_, (((l0_4.length : Int) != (l1_4.length : Int))), rf_, H', ⟨by first | omega | exact Nat.le_refl _⟩, ⟨bd_ BK115.out⟩, ⟨bd_ BK116.out⟩, ⟨hb_ HB.out⟩⟩
 clear HC3
 obtain ⟨kq, x47_2, rfl, HA, HJ2, BK115, BK116, HB⟩ := hcut
 cases kq with
 | zero => exact absurd HA.out (by simp [fencepostref04_Same.j0])
 | succ kj2 => ?_
 have H := HA.out
 clear HA
 simp only [fencepostref04_Same.j0] at H
 by_cases c25 : x47_2 = true
 ·subst c25
  have H1 : (some false) = some r := by rw [if_pos rfl] at H; exact H
  clear H
  have H := H1
  clear H1
  obtain rfl := Option.some.inj H
  go_wp2
  repeat (go_quiet (fail); try go_wp2)
  go_ret
  exact ⟨by first | rfl | (simp [errW_none, errW_some] <;> rfl) | (simp [*, errW_none, errW_some] <;> rfl), hb_ HB.out⟩
 replace c25 := Bool.eq_false_iff.mpr c25
 subst c25
 have H1 : (fencepostref04_Same.l0 kj2 0 a0_0 l0_1 l0_2 a0_3 l0_4 a1_0 l1_1 l1_2 a1_3 l1_4) = some r := by rw [if_neg (show ¬ (false = true) by decide)] at H; exact H
 clear H
 have H := H1
 clear H1
 have H' := Aside0.mk H
 clear H
 go_wp2
 repeat (go_quiet (fail); try go_wp2)
 go_loopg [5] kj2 (fun kq v5 w' => ∃ (x5_2 : Int), v5 = .int .i64 x5_2 ∧ Aside0 (fencepostref04_Same.l0 kq x5_2 a0_0 l0_1 l0_2 a0_3 l0_4 a1_0 l1_1 l1_2 a1_3 l1_4 = some r) ∧ Aside0 (kq ≤ kj2) ∧ Aside0 (w'.heap[gb115]? = some (.cells #[.string a0_0, (.slice A0_1 l0_1.length c0_1), (.slice A0_2 l0_2.length c0_2), .bool a0_3, (.slice A0_4 l0_4.length c0_4)] 30 (0, 0))) ∧ Aside0 (w'.heap[gb116]? = some (.cells #[.string a1_0, (.slice A1_1 l1_1.length c1_1), (.slice A1_2 l1_2.length c1_2), .bool a1_3, (.slice A1_4 l1_4.length c1_4)] 30 (0, 0))) ∧ Aside0 (Below w.heap.size w w'))
 case atStart => exact ⟨(0), rf_, H', ⟨Nat.le_refl _⟩, ⟨bd_ BK115.out⟩, ⟨bd_ BK116.out⟩, ⟨hb_ HB.out⟩⟩
 clear H'
 try clear c25
 obtain ⟨x5_2, rfl, HA, HK2, BK115, BK116, HB⟩ := hrel
 cases gk with
 | zero => exact absurd HA.out (by simp [fencepostref04_Same.l0])
 | succ k2 => ?_
 have H := HA.out
 clear HA
 simp only [fencepostref04_Same.l0] at H
 by_cases c26 : x5_2 < (l0_1.length : Int)
 ·rw [if_pos c26] at H
  have c26b0 : decide (x5_2 < (l0_1.length : Int)) = true := decide_eq_true c26
  clear c26
  by_cases c27 : 0 ≤ x5_2
  rotate_left
  ·rw [if_neg c27] at H
   exact absurd H (by simp)
  rw [if_pos c27] at H
  have c27b0 : decide (0 ≤ x5_2) = true := decide_eq_true c27
  clear c27
  by_cases c28 : x5_2 < (l1_1.length : Int)
  rotate_left
  ·rw [if_neg c28] at H
   exact absurd H (by simp)
  rw [if_pos c28] at H
  have c28b0 : decide (x5_2 < (l1_1.length : Int)) = true := decide_eq_true c28
  clear c28
  by_cases c29 : (!((((rd_T62 l0_1 x5_2).f0).toList) == (((rd_T62 l1_1 x5_2).f0).toList)) || (!(((rd_T62 l0_1 x5_2).f1) == ((rd_T62 l1_1 x5_2).f1)))) = true
  ·rw [if_pos c29] at H
   have c29b0 : (!((((rd_T62 l0_1 x5_2).f0).toList) == (((rd_T62 l1_1 x5_2).f0).toList)) || (!(((rd_T62 l0_1 x5_2).f1) == ((rd_T62 l1_1 x5_2).f1)))) = true := c29
   clear c29
   obtain rfl := Option.some.inj H
   have hnb30 := NB115_116.out
   have hnc30 := NB116_115.out
   have hcz31_0 : wr.cell? ⟨gb115, 0, none⟩ = some (.string a0_0) := (blk_cell BK115.out 0).trans rfl
   have hcz31_1 : wr.cell? ⟨gb115, 1, none⟩ = some (.slice A0_1 l0_1.length c0_1) := (blk_cell BK115.out 1).trans rfl
   have hcz31_2 : wr.cell? ⟨gb115, 2, none⟩ = some (.slice A0_2 l0_2.length c0_2) := (blk_cell BK115.out 2).trans rfl
   have hcz31_3 : wr.cell? ⟨gb115, 3, none⟩ = some (.bool a0_3) := (blk_cell BK115.out 3).trans rfl
   have hcz31_4 : wr.cell? ⟨gb115, 4, none⟩ = some (.slice A0_4 l0_4.length c0_4) := (blk_cell BK115.out 4).trans rfl
   have hfz31_0 := blk_frozen BK115.out 0
   have hfz31_1 := blk_frozen BK115.out 1
   have hfz31_2 := blk_frozen BK115.out 2
   have hfz31_3 := blk_frozen BK115.out 3
   have hfz31_4 := blk_frozen BK115.out 4
   have p117 : 0 ≤ (x5_2 : Int) := of_decide_eq_true as_
   have q117 : x5_2 < (l0_1.length : Int) := of_decide_eq_true as_
   obtain ⟨ad117, e117, hx117_0, hx117_1⟩ := at_T62 HR0_1.out x5_2 p117 q117
   cases e117
   replace hx117_0 := cl_ HB.out hx117_0
   replace hx117_1 := cl_ HB.out hx117_1
   replace p117 := eq_true p117
   replace q117 := eq_true q117
   have hcz32_0 : wr.cell? ⟨gb116, 0, none⟩ = some (.string a1_0) := (blk_cell BK116.out 0).trans rfl
   have hcz32_1 : wr.cell? ⟨gb116, 1, none⟩ = some (.slice A1_1 l1_1.length c1_1) := (blk_cell BK116.out 1).trans rfl
   have hcz32_2 : wr.cell? ⟨gb116, 2, none⟩ = some (.slice A1_2 l1_2.length c1_2) := (blk_cell BK116.out 2).trans rfl
   have hcz32_3 : wr.cell? ⟨gb116, 3, none⟩ = some (.bool a1_3) := (blk_cell BK116.out 3).trans rfl
   have hcz32_4 : wr.cell? ⟨gb116, 4, none⟩ = some (.slice A1_4 l1_4.length c1_4) := (blk_cell BK116.out 4).trans rfl
   have hfz32_0 := blk_frozen BK116.out 0
   have hfz32_1 := blk_frozen BK116.out 1
   have hfz32_2 := blk_frozen BK116.out 2
   have hfz32_3 := blk_frozen BK116.out 3
   have hfz32_4 := blk_frozen BK116.out 4
   have p118 : 0 ≤ (x5_2 : Int) := of_decide_eq_true as_
   have q118 : x5_2 < (l1_1.length : Int) := of_decide_eq_true as_
   obtain ⟨ad118, e118, hx118_0, hx118_1⟩ := at_T62 HR1_1.out x5_2 p118 q118
   cases e118
   replace hx118_0 := cl_ HB.out hx118_0
   replace hx118_1 := cl_ HB.out hx118_1
   replace p118 := eq_true p118
   replace q118 := eq_true q118
   go_wp2
   repeat (go_quiet (fail); try go_wp2)
   go_ret
   exact ⟨by first | rfl | (simp [errW_none, errW_some] <;> rfl) | (simp [*, errW_none, errW_some] <;> rfl), hb_ HB.out⟩
  rw [if_neg c29] at H
  have c29b0 : (!((((rd_T62 l0_1 x5_2).f0).toList) == (((rd_T62 l1_1 x5_2).f0).toList)) || (!(((rd_T62 l0_1 x5_2).f1) == ((rd_T62 l1_1 x5_2).f1)))) = false := by simpa using c29
  clear c29
  have H' := Aside0.mk H
  clear H
  have hnb33 := NB115_116.out
  have hnc33 := NB116_115.out
  have hcz34_0 : wr.cell? ⟨gb115, 0, none⟩ = some (.string a0_0) := (blk_cell BK115.out 0).trans rfl
  have hcz34_1 : wr.cell? ⟨gb115, 1, none⟩ = some (.slice A0_1 l0_1.length c0_1) := (blk_cell BK115.out 1).trans rfl
  have hcz34_2 : wr.cell? ⟨gb115, 2, none⟩ = some (.slice A0_2 l0_2.length c0_2) := (blk_cell BK115.out 2).trans rfl
  have hcz34_3 : wr.cell? ⟨gb115, 3, none⟩ = some (.bool a0_3) := (blk_cell BK115.out 3).trans rfl
  have hcz34_4 : wr.cell? ⟨gb115, 4, none⟩ = some (.slice A0_4 l0_4.length c0_4) := (blk_cell BK115.out 4).trans rfl
  have hfz34_0 := blk_frozen BK115.out 0
  have hfz34_1 := blk_frozen BK115.out 1
  have hfz34_2 := blk_frozen BK115.out 2
  have hfz34_3 := blk_frozen BK115.out 3
  have hfz34_4 := blk_frozen BK115.out 4
  have p117 : 0 ≤ (x5_2 : Int) := of_decide_eq_true as_
  have q117 : x5_2 < (l0_1.length : Int) := of_decide_eq_true as_
  obtain ⟨ad117, e117, hx117_0, hx117_1⟩ := at_T62 HR0_1.out x5_2 p117 q117
  cases e117
  replace hx117_0 := cl_ HB.out hx117_0
  replace hx117_1 := cl_ HB.out hx117_1
  replace p117 := eq_true p117
  replace q117 := eq_true q117
  have hcz35_0 : wr.cell? ⟨gb116, 0, none⟩ = some (.string a1_0) := (blk_cell BK116.out 0).trans rfl
  have hcz35_1 : wr.cell? ⟨gb116, 1, none⟩ = some (.slice A1_1 l1_1.length c1_1) := (blk_cell BK116.out 1).trans rfl
  have hcz35_2 : wr.cell? ⟨gb116, 2, none⟩ = some (.slice A1_2 l1_2.length c1_2) := (blk_cell BK116.out 2).trans rfl
  have hcz35_3 : wr.cell? ⟨gb116, 3, none⟩ = some (.bool a1_3) := (blk_cell BK116.out 3).trans rfl
  have hcz35_4 : wr.cell? ⟨gb116, 4, none⟩ = some (.slice A1_4 l1_4.length c1_4) := (blk_cell BK116.out 4).trans rfl
  have hfz35_0 := blk_frozen BK116.out 0
  have hfz35_1 := blk_frozen BK116.out 1
  have hfz35_2 := blk_frozen BK116.out 2
  have hfz35_3 := blk_frozen BK116.out 3
  have hfz35_4 := blk_frozen BK116.out 4
  have p118 : 0 ≤ (x5_2 : Int) := of_decide_eq_true as_
  have q118 : x5_2 < (l1_1.length : Int) := of_decide_eq_true as_
  obtain ⟨ad118, e118, hx118_0, hx118_1⟩ := at_T62 HR1_1.out x5_2 p118 q118
  cases e118
  replace hx118_0 := cl_ HB.out hx118_0
  replace hx118_1 := cl_ HB.out hx118_1
  replace p118 := eq_true p118
  replace q118 := eq_true q118
  go_wp2
  repeat (go_quiet (fail); try go_wp2)
  go_roundg k2
  case measure => have := HJ2.out; have := HK2.out; omega
  case rel => exact ⟨(wrap64 (x5_2 + 1)), rf_, H', ⟨by have := HJ2.out; have := HK2.out; omega⟩, ⟨bd_ BK115.out⟩, ⟨bd_ BK116.out⟩, ⟨hb_ HB.out⟩⟩
 rw [if_neg c26] at H
 have c26b0 : decide (x5_2 < (l0_1.length : Int)) = false := decide_eq_false c26
 clear c26
 have H' := Aside0.mk H
 clear H
 have hnb36 := NB115_116.out
 have hnc36 := NB116_115.out
 have hcz37_0 : wr.cell? ⟨gb115, 0, none⟩ = some (.string a0_0) := (blk_cell BK115.out 0).trans rfl
 have hcz37_1 : wr.cell? ⟨gb115, 1, none⟩ = some (.slice A0_1 l0_1.length c0_1) := (blk_cell BK115.out 1).trans rfl
 have hcz37_2 : wr.cell? ⟨gb115, 2, none⟩ = some (.slice A0_2 l0_2.length c0_2) := (blk_cell BK115.out 2).trans rfl
 have hcz37_3 : wr.cell? ⟨gb115, 3, none⟩ = some (.bool a0_3) := (blk_cell BK115.out 3).trans rfl
 have hcz37_4 : wr.cell? ⟨gb115, 4, none⟩ = some (.slice A0_4 l0_4.length c0_4) := (blk_cell BK115.out 4).trans rfl
 have hfz37_0 := blk_frozen BK115.out 0
 have hfz37_1 := blk_frozen BK115.out 1
 have hfz37_2 := blk_frozen BK115.out 2
 have hfz37_3 := blk_frozen BK115.out 3
 have hfz37_4 := blk_frozen BK115.out 4
 go_wp2
 repeat (go_quiet (fail); try go_wp2)
 go_loopg [6] k2 (fun kq v6 w' => ∃ (x6_3 : Int), v6 = .int .i64 x6_3 ∧ Aside0 (fencepostref04_Same.l1 kq x6_3 a0_0 l0_1 l0_2 a0_3 l0_4 a1_0 l1_1 l1_2 a1_3 l1_4 = some r) ∧ Aside0 (kq ≤ k2) ∧ Aside0 (w'.heap[gb115]? = some (.cells #[.string a0_0, (.slice A0_1 l0_1.length c0_1), (.slice A0_2 l0_2.length c0_2), .bool a0_3, (.slice A0_4 l0_4.length c0_4)] 30 (0, 0))) ∧ Aside0 (w'.heap[gb116]? = some (.cells #[.string a1_0, (.slice A1_1 l1_1.length c1_1), (.slice A1_2 l1_2.length c1_2), .bool a1_3, (.slice A1_4 l1_4.length c1_4)] 30 (0, 0))) ∧ Aside0 (Below w.heap.size w w'))
 case atStart => exact ⟨(0), rf_, H', ⟨Nat.le_refl _⟩, ⟨bd_ BK115.out⟩, ⟨bd_ BK116.out⟩, ⟨hb_ HB.out⟩⟩
 clear H'
 try clear c25
 try clear c26
 try clear c26b0
 try clear hcz37_0
 try clear hcz37_1
 try clear hcz37_2
 try clear hcz37_3
 try clear hcz37_4
 try clear hfz37_0
 try clear hfz37_1
 try clear hfz37_2
 try clear hfz37_3
 try clear hfz37_4
 obtain ⟨x6_3, rfl, HA, HK3, BK115, BK116, HB⟩ := hrel
 cases gk with
 | zero => exact absurd HA.out (by simp [fencepostref04_Same.l1])
 | succ k3 => ?_
 have H := HA.out
 clear HA
 simp only [fencepostref04_Same.l1] at H
 by_cases c38 : x6_3 < (l0_2.length : Int)
 rotate_left
 ·rw [if_neg c38] at H
  have c38b0 : decide (x6_3 < (l0_2.length : Int)) = false := decide_eq_false c38
  clear c38
  have H' := Aside0.mk H
  clear H
  have hnb63 := NB115_116.out
  have hnc63 := NB116_115.out
  have hcz64_0 : wr.cell? ⟨gb115, 0, none⟩ = some (.string a0_0) := (blk_cell BK115.out 0).trans rfl
  have hcz64_1 : wr.cell? ⟨gb115, 1, none⟩ = some (.slice A0_1 l0_1.length c0_1) := (blk_cell BK115.out 1).trans rfl
  have hcz64_2 : wr.cell? ⟨gb115, 2, none⟩ = some (.slice A0_2 l0_2.length c0_2) := (blk_cell BK115.out 2).trans rfl
  have hcz64_3 : wr.cell? ⟨gb115, 3, none⟩ = some (.bool a0_3) := (blk_cell BK115.out 3).trans rfl
  have hcz64_4 : wr.cell? ⟨gb115, 4, none⟩ = some (.slice A0_4 l0_4.length c0_4) := (blk_cell BK115.out 4).trans rfl
  have hfz64_0 := blk_frozen BK115.out 0
  have hfz64_1 := blk_frozen BK115.out 1
  have hfz64_2 := blk_frozen BK115.out 2
  have hfz64_3 := blk_frozen BK115.out 3
  have hfz64_4 := blk_frozen BK115.out 4
  go_wp2
  repeat (go_quiet (fail); try go_wp2)
  go_loopg [8] k3 (fun kq v8 w' => ∃ (x8_4 : Int), v8 = .int .i64 x8_4 ∧ Aside0 (fencepostref04_Same.l3 kq x8_4 a0_0 l0_1 l0_2 a0_3 l0_4 a1_0 l1_1 l1_2 a1_3 l1_4 = some r) ∧ Aside0 (kq ≤ k3) ∧ Aside0 (w'.heap[gb115]? = some (.cells #[.string a0_0, (.slice A0_1 l0_1.length c0_1), (.slice A0_2 l0_2.length c0_2), .bool a0_3, (.slice A0_4 l0_4.length c0_4)] 30 (0, 0))) ∧ Aside0 (w'.heap[gb116]? = some (.cells #[.string a1_0, (.slice A1_1 l1_1.length c1_1), (.slice A1_2 l1_2.length c1_2), .bool a1_3, (.slice A1_4 l1_4.length c1_4)] 30 (0, 0))) ∧ Aside0 (Below w.heap.size w w'))
  case atStart => exact ⟨(0), rf_, H', ⟨Nat.le_refl _⟩, ⟨bd_ BK115.out⟩, ⟨bd_ BK116.out⟩, ⟨hb_ HB.out⟩⟩
  clear H'
  try clear c25
  try clear c26
  try clear c26b0
  try clear c38
  try clear c38b0
  try clear hcz37_0
  try clear hcz37_1
  try clear hcz37_2
  try clear hcz37_3
  try clear hcz37_4
  try clear hcz64_0
  try clear hcz64_1
  try clear hcz64_2
  try clear hcz64_3
  try clear hcz64_4
  try clear hfz37_0
  try clear hfz37_1
  try clear hfz37_2
  try clear hfz37_3
  try clear hfz37_4
  try clear hfz64_0
  try clear hfz64_1
  try clear hfz64_2
  try clear hfz64_3
  try clear hfz64_4
  obtain ⟨x8_4, rfl, HA, HK4, BK115, BK116, HB⟩ := hrel
  cases gk with
  | zero => exact absurd HA.out (by simp [fencepostref04_Same.l3])
  | succ k4 => ?_
  have H := HA.out
  clear HA
  simp only [fencepostref04_Same.l3] at H
  by_cases c65 : x8_4 < (l0_4.length : Int)
  rotate_left
  ·rw [if_neg c65] at H
   have c65b0 : decide (x8_4 < (l0_4.length : Int)) = false := decide_eq_false c65
   clear c65
   obtain rfl := Option.some.inj H
   have hnb75 := NB115_116.out
   have hnc75 := NB116_115.out
   have hcz76_0 : wr.cell? ⟨gb115, 0, none⟩ = some (.string a0_0) := (blk_cell BK115.out 0).trans rfl
   have hcz76_1 : wr.cell? ⟨gb115, 1, none⟩ = some (.slice A0_1 l0_1.length c0_1) := (blk_cell BK115.out 1).trans rfl
   have hcz76_2 : wr.cell? ⟨gb115, 2, none⟩ = some (.slice A0_2 l0_2.length c0_2) := (blk_cell BK115.out 2).trans rfl
   have hcz76_3 : wr.cell? ⟨gb115, 3, none⟩ = some (.bool a0_3) := (blk_cell BK115.out 3).trans rfl
   have hcz76_4 : wr.cell? ⟨gb115, 4, none⟩ = some (.slice A0_4 l0_4.length c0_4) := (blk_cell BK115.out 4).trans rfl
   have hfz76_0 := blk_frozen BK115.out 0
   have hfz76_1 := blk_frozen BK115.out 1
   have hfz76_2 := blk_frozen BK115.out 2
   have hfz76_3 := blk_frozen BK115.out 3
   have hfz76_4 := blk_frozen BK115.out 4
   go_wp2
   repeat (go_quiet (fail); try go_wp2)
   go_ret
   exact ⟨by first | rfl | (simp [errW_none, errW_some] <;> rfl) | (simp [*, errW_none, errW_some] <;> rfl), hb_ HB.out⟩
  rw [if_pos c65] at H
  have c65b0 : decide (x8_4 < (l0_4.length : Int)) = true := decide_eq_true c65
  clear c65
  by_cases c66 : 0 ≤ x8_4
  rotate_left
  ·rw [if_neg c66] at H
   exact absurd H (by simp)
  rw [if_pos c66] at H
  have c66b0 : decide (0 ≤ x8_4) = true := decide_eq_true c66
  clear c66
  by_cases c67 : x8_4 < (l1_4.length : Int)
  rotate_left
  ·rw [if_neg c67] at H
   exact absurd H (by simp)
  rw [if_pos c67] at H
  have c67b0 : decide (x8_4 < (l1_4.length : Int)) = true := decide_eq_true c67
  clear c67
  by_cases c68 : (!(((rd_T64 l0_4 x8_4).f0) == ((rd_T64 l1_4 x8_4).f0)) || (!((((rd_T64 l0_4 x8_4).f1).toList) == (((rd_T64 l1_4 x8_4).f1).toList)) || (!(((rd_T64 l0_4 x8_4).f2) == ((rd_T64 l1_4 x8_4).f2))))) = true
  ·rw [if_pos c68] at H
   have c68b0 : (!(((rd_T64 l0_4 x8_4).f0) == ((rd_T64 l1_4 x8_4).f0)) || (!((((rd_T64 l0_4 x8_4).f1).toList) == (((rd_T64 l1_4 x8_4).f1).toList)) || (!(((rd_T64 l0_4 x8_4).f2) == ((rd_T64 l1_4 x8_4).f2))))) = true := c68
   clear c68
   obtain rfl := Option.some.inj H
   have hnb69 := NB115_116.out
   have hnc69 := NB116_115.out
   have hcz70_0 : wr.cell? ⟨gb115, 0, none⟩ = some (.string a0_0) := (blk_cell BK115.out 0).trans rfl
   have hcz70_1 : wr.cell? ⟨gb115, 1, none⟩ = some (.slice A0_1 l0_1.length c0_1) := (blk_cell BK115.out 1).trans rfl
   have hcz70_2 : wr.cell? ⟨gb115, 2, none⟩ = some (.slice A0_2 l0_2.length c0_2) := (blk_cell BK115.out 2).trans rfl
   have hcz70_3 : wr.cell? ⟨gb115, 3, none⟩ = some (.bool a0_3) := (blk_cell BK115.out 3).trans rfl
   have hcz70_4 : wr.cell? ⟨gb115, 4, none⟩ = some (.slice A0_4 l0_4.length c0_4) := (blk_cell BK115.out 4).trans rfl
   have hfz70_0 := blk_frozen BK115.out 0
   have hfz70_1 := blk_frozen BK115.out 1
   have hfz70_2 := blk_frozen BK115.out 2
   have hfz70_3 := blk_frozen BK115.out 3
   have hfz70_4 := blk_frozen BK115.out 4
   have p126 : 0 ≤ (x8_4 : Int) := of_decide_eq_true as_
   have q126 : x8_4 < (l0_4.length : Int) := of_decide_eq_true as_
   obtain ⟨ad126, e126, hx126_0, hx126_1, hx126_2⟩ := at_T64 HR0_4.out x8_4 p126 q126
   cases e126
   replace hx126_0 := cl_ HB.out hx126_0
   replace hx126_1 := cl_ HB.out hx126_1
   replace hx126_2 := cl_ HB.out hx126_2
   replace p126 := eq_true p126
   replace q126 := eq_true q126
   have hcz71_0 : wr.cell? ⟨gb116, 0, none⟩ = some (.string a1_0) := (blk_cell BK116.out 0).trans rfl
   have hcz71_1 : wr.cell? ⟨gb116, 1, none⟩ = some (.slice A1_1 l1_1.length c1_1) := (blk_cell BK116.out 1).trans rfl
   have hcz71_2 : wr.cell? ⟨gb116, 2, none⟩ = some (.slice A1_2 l1_2.length c1_2) := (blk_cell BK116.out 2).trans rfl
   have hcz71_3 : wr.cell? ⟨gb116, 3, none⟩ = some (.bool a1_3) := (blk_cell BK116.out 3).trans rfl
   have hcz71_4 : wr.cell? ⟨gb116, 4, none⟩ = some (.slice A1_4 l1_4.length c1_4) := (blk_cell BK116.out 4).trans rfl
   have hfz71_0 := blk_frozen BK116.out 0
   have hfz71_1 := blk_frozen BK116.out 1
   have hfz71_2 := blk_frozen BK116.out 2
   have hfz71_3 := blk_frozen BK116.out 3
   have hfz71_4 := blk_frozen BK116.out 4
   have p127 : 0 ≤ (x8_4 : Int) := of_decide_eq_true as_
   have q127 : x8_4 < (l1_4.length : Int) := of_decide_eq_true as_
   obtain ⟨ad127, e127, hx127_0, hx127_1, hx127_2⟩ := at_T64 HR1_4.out x8_4 p127 q127
   cases e127
   replace hx127_0 := cl_ HB.out hx127_0
   replace hx127_1 := cl_ HB.out hx127_1
   replace hx127_2 := cl_ HB.out hx127_2
   replace p127 := eq_true p127
   replace q127 := eq_true q127
   go_wp2
   repeat (go_quiet (fail); try go_wp2)
   go_ret
   exact ⟨by first | rfl | (simp [errW_none, errW_some] <;> rfl) | (simp [*, errW_none, errW_some] <;> rfl), hb_ HB.out⟩
  rw [if_neg c68] at H
  have c68b0 : (!(((rd_T64 l0_4 x8_4).f0) == ((rd_T64 l1_4 x8_4).f0)) || (!((((rd_T64 l0_4 x8_4).f1).toList) == (((rd_T64 l1_4 x8_4).f1).toList)) || (!(((rd_T64 l0_4 x8_4).f2) == ((rd_T64 l1_4 x8_4).f2))))) = false := by simpa using c68
  clear c68
  have H' := Aside0.mk H
  clear H
  have hnb72 := NB115_116.out
  have hnc72 := NB116_115.out
  have hcz73_0 : wr.cell? ⟨gb115, 0, none⟩ = some (.string a0_0) := (blk_cell BK115.out 0).trans rfl
  have hcz73_1 : wr.cell? ⟨gb115, 1, none⟩ = some (.slice A0_1 l0_1.length c0_1) := (blk_cell BK115.out 1).trans rfl
  have hcz73_2 : wr.cell? ⟨gb115, 2, none⟩ = some (.slice A0_2 l0_2.length c0_2) := (blk_cell BK115.out 2).trans rfl
  have hcz73_3 : wr.cell? ⟨gb115, 3, none⟩ = some (.bool a0_3) := (blk_cell BK115.out 3).trans rfl
  have hcz73_4 : wr.cell? ⟨gb115, 4, none⟩ = some (.slice A0_4 l0_4.length c0_4) := (blk_cell BK115.out 4).trans rfl
  have hfz73_0 := blk_frozen BK115.out 0
  have hfz73_1 := blk_frozen BK115.out 1
  have hfz73_2 := blk_frozen BK115.out 2
  have hfz73_3 := blk_frozen BK115.out 3
  have hfz73_4 := blk_frozen BK115.out 4
  have p126 : 0 ≤ (x8_4 : Int) := of_decide_eq_true as_
  have q126 : x8_4 < (l0_4.length : Int) := of_decide_eq_true as_
  obtain ⟨ad126, e126, hx126_0, hx126_1, hx126_2⟩ := at_T64 HR0_4.out x8_4 p126 q126
  cases e126
  replace hx126_0 := cl_ HB.out hx126_0
  replace hx126_1 := cl_ HB.out hx126_1
  replace hx126_2 := cl_ HB.out hx126_2
  replace p126 := eq_true p126
  replace q126 := eq_true q126
  have hcz74_0 : wr.cell? ⟨gb116, 0, none⟩ = some (.string a1_0) := (blk_cell BK116.out 0).trans rfl
  have hcz74_1 : wr.cell? ⟨gb116, 1, none⟩ = some (.slice A1_1 l1_1.length c1_1) := (blk_cell BK116.out 1).trans rfl
  have hcz74_2 : wr.cell? ⟨gb116, 2, none⟩ = some (.slice A1_2 l1_2.length c1_2) := (blk_cell BK116.out 2).trans rfl
  have hcz74_3 : wr.cell? ⟨gb116, 3, none⟩ = some (.bool a1_3) := (blk_cell BK116.out 3).trans rfl
  have hcz74_4 : wr.cell? ⟨gb116, 4, none⟩ = some (.slice A1_4 l1_4.length c1_4) := (blk_cell BK116.out 4).trans rfl
  have hfz74_0 := blk_frozen BK116.out 0
  have hfz74_1 := blk_frozen BK116.out 1
  have hfz74_2 := blk_frozen BK116.out 2
  have hfz74_3 := blk_frozen BK116.out 3
  have hfz74_4 := blk_frozen BK116.out 4
  have p127 : 0 ≤ (x8_4 : Int) := of_decide_eq_true as_
  have q127 : x8_4 < (l1_4.length : Int) := of_decide_eq_true as_
  obtain ⟨ad127, e127, hx127_0, hx127_1, hx127_2⟩ := at_T64 HR1_4.out x8_4 p127 q127
  cases e127
  replace hx127_0 := cl_ HB.out hx127_0
  replace hx127_1 := cl_ HB.out hx127_1
  replace hx127_2 := cl_ HB.out hx127_2
  replace p127 := eq_true p127
  replace q127 := eq_true q127
  go_wp2
  repeat (go_quiet (fail); try go_wp2)
  go_roundg k4
  case measure => have := HJ2.out; have := HK2.out; have := HK3.out; have := HK4.out; omega
  case rel => exact ⟨(wrap64 (x8_4 + 1)), rf_, H', ⟨by have := HJ2.out; have := HK2.out; have := HK3.out; have := HK4.out; omega⟩, ⟨bd_ BK115.out⟩, ⟨bd_ BK116.out⟩, ⟨hb_ HB.out⟩⟩
 rw [if_pos c38] at H
 have c38b0 : decide (x6_3 < (l0_2.length : Int)) = true := decide_eq_true c38
 clear c38
 by_cases c39 : 0 ≤ x6_3
 rotate_left
 ·rw [if_neg c39] at H
  exact absurd H (by simp)
 rw [if_pos c39] at H
 have c39b0 : decide (0 ≤ x6_3) = true := decide_eq_true c39
 clear c39
 by_cases c40 : x6_3 < (l1_2.length : Int)
 rotate_left
 ·rw [if_neg c40] at H
  exact absurd H (by simp)
 rw [if_pos c40] at H
 have c40b0 : decide (x6_3 < (l1_2.length : Int)) = true := decide_eq_true c40
 clear c40
 by_cases c41 : (((rd_T58 l0_2 x6_3).f0).length : Int) = (((rd_T58 l1_2 x6_3).f0).length : Int)
 rotate_left
 ·rw [if_neg c41] at H
  have c41b0 : ((((rd_T58 l0_2 x6_3).f0).length : Int) == (((rd_T58 l1_2 x6_3).f0).length : Int)) = false := beq_eq_false_iff_ne.mpr c41
  have c41b1 : ((((rd_T58 l0_2 x6_3).f0).length : Int) != (((rd_T58 l1_2 x6_3).f0).length : Int)) = true := bne_iff_ne.mpr c41
  have c41b2 : (((rd_T58 l0_2 x6_3).f0).length == ((rd_T58 l1_2 x6_3).f0).length) = false := by first | simpa using c41 | (simp at c41 ⊢; omega)
  obtain rfl := Option.some.inj H
  have hnb60 := NB115_116.out
  have hnc60 := NB116_115.out
  have hcz61_0 : wr.cell? ⟨gb115, 0, none⟩ = some (.string a0_0) := (blk_cell BK115.out 0).trans rfl
  have hcz61_1 : wr.cell? ⟨gb115, 1, none⟩ = some (.slice A0_1 l0_1.length c0_1) := (blk_cell BK115.out 1).trans rfl
  have hcz61_2 : wr.cell? ⟨gb115, 2, none⟩ = some (.slice A0_2 l0_2.length c0_2) := (blk_cell BK115.out 2).trans rfl
  have hcz61_3 : wr.cell? ⟨gb115, 3, none⟩ = some (.bool a0_3) := (blk_cell BK115.out 3).trans rfl
  have hcz61_4 : wr.cell? ⟨gb115, 4, none⟩ = some (.slice A0_4 l0_4.length c0_4) := (blk_cell BK115.out 4).trans rfl
  have hfz61_0 := blk_frozen BK115.out 0
  have hfz61_1 := blk_frozen BK115.out 1
  have hfz61_2 := blk_frozen BK115.out 2
  have hfz61_3 := blk_frozen BK115.out 3
  have hfz61_4 := blk_frozen BK115.out 4
  have p119 : 0 ≤ (x6_3 : Int) := of_decide_eq_true as_
  have q119 : x6_3 < (l0_2.length : Int) := of_decide_eq_true as_
  obtain ⟨ad119, A119_0, c119_0, e119, hx119_0, hl119_0, hi119_0⟩ := at_T58 HR0_2.out x6_3 p119 q119
  cases e119
  replace hx119_0 := cl_ HB.out hx119_0
  have HR119_0 := Aside0.mk hi119_0
  have HC119_0 := Aside0.mk hl119_0
  clear hi119_0 hl119_0
  replace p119 := eq_true p119
  replace q119 := eq_true q119
  have hcz62_0 : wr.cell? ⟨gb116, 0, none⟩ = some (.string a1_0) := (blk_cell BK116.out 0).trans rfl
  have hcz62_1 : wr.cell? ⟨gb116, 1, none⟩ = some (.slice A1_1 l1_1.length c1_1) := (blk_cell BK116.out 1).trans rfl
  have hcz62_2 : wr.cell? ⟨gb116, 2, none⟩ = some (.slice A1_2 l1_2.length c1_2) := (blk_cell BK116.out 2).trans rfl
  have hcz62_3 : wr.cell? ⟨gb116, 3, none⟩ = some (.bool a1_3) := (blk_cell BK116.out 3).trans rfl
  have hcz62_4 : wr.cell? ⟨gb116, 4, none⟩ = some (.slice A1_4 l1_4.length c1_4) := (blk_cell BK116.out 4).trans rfl
  have hfz62_0 := blk_frozen BK116.out 0
  have hfz62_1 := blk_frozen BK116.out 1
  have hfz62_2 := blk_frozen BK116.out 2
  have hfz62_3 := blk_frozen BK116.out 3
  have hfz62_4 := blk_frozen BK116.out 4
  have p120 : 0 ≤ (x6_3 : Int) := of_decide_eq_true as_
  have q120 : x6_3 < (l1_2.length : Int) := of_decide_eq_true as_
  obtain ⟨ad120, A120_0, c120_0, e120, hx120_0, hl120_0, hi120_0⟩ := at_T58 HR1_2.out x6_3 p120 q120
  cases e120
  replace hx120_0 := cl_ HB.out hx120_0
  have HR120_0 := Aside0.mk hi120_0
  have HC120_0 := Aside0.mk hl120_0
  clear hi120_0 hl120_0
  replace p120 := eq_true p120
  replace q120 := eq_true q120
  go_wp2
  repeat (go_quiet (fail); try go_wp2)
  go_ret
  exact ⟨by first | rfl | (simp [errW_none, errW_some] <;> rfl) | (simp [*, errW_none, errW_some] <;> rfl), hb_ HB.out⟩
 rw [if_pos c41] at H
 have c41b0 : ((((rd_T58 l0_2 x6_3).f0).length : Int) == (((rd_T58 l1_2 x6_3).f0).length : Int)) = true := beq_iff_eq.mpr c41
 have c41b1 : ((((rd_T58 l0_2 x6_3).f0).length : Int) != (((rd_T58 l1_2 x6_3).f0).length : Int)) = false := bne_eq_false_iff_eq.mpr c41
 have c41b2 : (((rd_T58 l0_2 x6_3).f0).length == ((rd_T58 l1_2 x6_3).f0).length) = true := by first | simpa using c41 | (simp at c41 ⊢; omega)
 clear c41
 have H' := Aside0.mk H
 clear H
 have hnb42 := NB115_116.out
 have hnc42 := NB116_115.out
 have hcz43_0 : wr.cell? ⟨gb115, 0, none⟩ = some (.string a0_0) := (blk_cell BK115.out 0).trans rfl
 have hcz43_1 : wr.cell? ⟨gb115, 1, none⟩ = some (.slice A0_1 l0_1.length c0_1) := (blk_cell BK115.out 1).trans rfl
 have hcz43_2 : wr.cell? ⟨gb115, 2, none⟩ = some (.slice A0_2 l0_2.length c0_2) := (blk_cell BK115.out 2).trans rfl
 have hcz43_3 : wr.cell? ⟨gb115, 3, none⟩ = some (.bool a0_3) := (blk_cell BK115.out 3).trans rfl
 have hcz43_4 : wr.cell? ⟨gb115, 4, none⟩ = some (.slice A0_4 l0_4.length c0_4) := (blk_cell BK115.out 4).trans rfl
 have hfz43_0 := blk_frozen BK115.out 0
 have hfz43_1 := blk_frozen BK115.out 1
 have hfz43_2 := blk_frozen BK115.out 2
 have hfz43_3 := blk_frozen BK115.out 3
 have hfz43_4 := blk_frozen BK115.out 4
 have p119 : 0 ≤ (x6_3 : Int) := of_decide_eq_true as_
 have q119 : x6_3 < (l0_2.length : Int) := of_decide_eq_true as_
 obtain ⟨ad119, A119_0, c119_0, e119, hx119_0, hl119_0, hi119_0⟩ := at_T58 HR0_2.out x6_3 p119 q119
 cases e119
 replace hx119_0 := cl_ HB.out hx119_0
 have HR119_0 := Aside0.mk hi119_0
 have HC119_0 := Aside0.mk hl119_0
 clear hi119_0 hl119_0
 replace p119 := eq_true p119
 replace q119 := eq_true q119
 have hcz44_0 : wr.cell? ⟨gb116, 0, none⟩ = some (.string a1_0) := (blk_cell BK116.out 0).trans rfl
 have hcz44_1 : wr.cell? ⟨gb116, 1, none⟩ = some (.slice A1_1 l1_1.length c1_1) := (blk_cell BK116.out 1).trans rfl
 have hcz44_2 : wr.cell? ⟨gb116, 2, none⟩ = some (.slice A1_2 l1_2.length c1_2) := (blk_cell BK116.out 2).trans rfl
 have hcz44_3 : wr.cell? ⟨gb116, 3, none⟩ = some (.bool a1_3) := (blk_cell BK116.out 3).trans rfl
 have hcz44_4 : wr.cell? ⟨gb116, 4, none⟩ = some (.slice A1_4 l1_4.length c1_4) := (blk_cell BK116.out 4).trans rfl
 have hfz44_0 := blk_frozen BK116.out 0
 have hfz44_1 := blk_frozen BK116.out 1
 have hfz44_2 := blk_frozen BK116.out 2
 have hfz44_3 := blk_frozen BK116.out 3
 have hfz44_4 := blk_frozen BK116.out 4
 have p120 : 0 ≤ (x6_3 : Int) := of_decide_eq_true as_
 have q120 : x6_3 < (l1_2.length : Int) := of_decide_eq_true as_
 obtain ⟨ad120, A120_0, c120_0, e120, hx120_0, hl120_0, hi120_0⟩ := at_T58 HR1_2.out x6_3 p120 q120
 cases e120
 replace hx120_0 := cl_ HB.out hx120_0
 have HR120_0 := Aside0.mk hi120_0
 have HC120_0 := Aside0.mk hl120_0
 clear hi120_0 hl120_0
 replace p120 := eq_true p120
 replace q120 := eq_true q120
 go_wp2
 repeat (go_quiet (fail); try go_wp2)
 go_loopg [7] k3 (fun kq v7 w' => ∃ (x7_4 : Int), v7 = .int .i64 x7_4 ∧ Aside0 (fencepostref04_Same.l2 kq x6_3 x7_4 a0_0 l0_1 l0_2 a0_3 l0_4 a1_0 l1_1 l1_2 a1_3 l1_4 = some r) ∧ Aside0 (kq ≤ k3) ∧ Aside0 (w'.heap[gb115]? = some (.cells #[.string a0_0, (.slice A0_1 l0_1.length c0_1), (.slice (some ad119) l0_2.length c0_2), .bool a0_3, (.slice A0_4 l0_4.length c0_4)] 30 (0, 0))) ∧ Aside0 (w'.heap[gb116]? = some (.cells #[.string a1_0, (.slice A1_1 l1_1.length c1_1), (.slice (some ad120) l1_2.length c1_2), .bool a1_3, (.slice A1_4 l1_4.length c1_4)] 30 (0, 0))) ∧ Aside0 (Below w.heap.size w w'))
 case atStart => exact ⟨(0), rf_, H', ⟨Nat.le_refl _⟩, ⟨bd_ BK115.out⟩, ⟨bd_ BK116.out⟩, ⟨hb_ HB.out⟩⟩
 clear H'
 try clear c25
 try clear c26
 try clear c26b0
 try clear c38
 try clear c38b0
 try clear c39
 try clear c39b0
 try clear c40
 try clear c40b0
 try clear c41
 try clear c41b0
 try clear c41b1
 try clear c41b2
 try clear hcz37_0
 try clear hcz37_1
 try clear hcz37_2
 try clear hcz37_3
 try clear hcz37_4
 try clear hcz43_0
 try clear hcz43_1
 try clear hcz43_2
 try clear hcz43_3
 try clear hcz43_4
 try clear hcz44_0
 try clear hcz44_1
 try clear hcz44_2
 try clear hcz44_3
 try clear hcz44_4
 try clear hfz37_0
 try clear hfz37_1
 try clear hfz37_2
 try clear hfz37_3
 try clear hfz37_4
 try clear hfz43_0
 try clear hfz43_1
 try clear hfz43_2
 try clear hfz43_3
 try clear hfz43_4
 try clear hfz44_0
 try clear hfz44_1
 try clear hfz44_2
 try clear hfz44_3
 try clear hfz44_4
 try clear hx119_0
 try clear hx120_0
 try clear p119
 try clear p120
 try clear q119
 try clear q120
 obtain ⟨x7_4, rfl, HA, HK4, BK115, BK116, HB⟩ := hrel
 cases gk with
 | zero => exact absurd HA.out (by simp [fencepostref04_Same.l2])
 | succ k4 => ?_
 have H := HA.out
 clear HA
 simp only [fencepostref04_Same.l2] at H
 by_cases c45 : 0 ≤ x6_3
 rotate_left
 ·rw [if_neg c45] at H
  exact absurd H (by simp)
 rw [if_pos c45] at H
 have c45b0 : decide (0 ≤ x6_3) = true := decide_eq_true c45
 clear c45
 by_cases c46 : x6_3 < (l0_2.length : Int)
 rotate_left
 ·rw [if_neg c46] at H
  exact absurd H (by simp)
 rw [if_pos c46] at H
 have c46b0 : decide (x6_3 < (l0_2.length : Int)) = true := decide_eq_true c46
 clear c46
 by_cases c47 : x7_4 < (((rd_T58 l0_2 x6_3).f0).length : Int)
 rotate_left
 ·rw [if_neg c47] at H
  have c47b0 : decide (x7_4 < (((rd_T58 l0_2 x6_3).f0).length : Int)) = false := decide_eq_false c47
  clear c47
  have H' := Aside0.mk H
  clear H
  have hnb58 := NB115_116.out
  have hnc58 := NB116_115.out
  have hcz59_0 : wr.cell? ⟨gb115, 0, none⟩ = some (.string a0_0) := (blk_cell BK115.out 0).trans rfl
  have hcz59_1 : wr.cell? ⟨gb115, 1, none⟩ = some (.slice A0_1 l0_1.length c0_1) := (blk_cell BK115.out 1).trans rfl
  have hcz59_2 : wr.cell? ⟨gb115, 2, none⟩ = some (.slice (some ad119) l0_2.length c0_2) := (blk_cell BK115.out 2).trans rfl
  have hcz59_3 : wr.cell? ⟨gb115, 3, none⟩ = some (.bool a0_3) := (blk_cell BK115.out 3).trans rfl
  have hcz59_4 : wr.cell? ⟨gb115, 4, none⟩ = some (.slice A0_4 l0_4.length c0_4) := (blk_cell BK115.out 4).trans rfl
  have hfz59_0 := blk_frozen BK115.out 0
  have hfz59_1 := blk_frozen BK115.out 1
  have hfz59_2 := blk_frozen BK115.out 2
  have hfz59_3 := blk_frozen BK115.out 3
  have hfz59_4 := blk_frozen BK115.out 4
  have p121 : 0 ≤ (x6_3 : Int) := of_decide_eq_true as_
  have q121 : x6_3 < (l0_2.length : Int) := of_decide_eq_true as_
  obtain ⟨ad121, A121_0, c121_0, e121, hx121_0, hl121_0, hi121_0⟩ := at_T58 HR0_2.out x6_3 p121 q121
  obtain rfl : ad119 = ad121 := (by injection e121)
  replace hx121_0 := cl_ HB.out hx121_0
  have HR121_0 := Aside0.mk hi121_0
  have HC121_0 := Aside0.mk hl121_0
  clear hi121_0 hl121_0
  replace p121 := eq_true p121
  replace q121 := eq_true q121
  go_wp2
  repeat (go_quiet (fail); try go_wp2)
  go_roundg k4
  case measure => have := HJ2.out; have := HK2.out; have := HK3.out; have := HK4.out; omega
  case rel => exact ⟨(wrap64 (x6_3 + 1)), rf_, H', ⟨by have := HJ2.out; have := HK2.out; have := HK3.out; have := HK4.out; omega⟩, ⟨bd_ BK115.out⟩, ⟨bd_ BK116.out⟩, ⟨hb_ HB.out⟩⟩
 rw [if_pos c47] at H
 have c47b0 : decide (x7_4 < (((rd_T58 l0_2 x6_3).f0).length : Int)) = true := decide_eq_true c47
 clear c47
 by_cases c48 : 0 ≤ x7_4
 rotate_left
 ·rw [if_neg c48] at H
  exact absurd H (by simp)
 rw [if_pos c48] at H
 have c48b0 : decide (0 ≤ x7_4) = true := decide_eq_true c48
 clear c48
 by_cases c49 : x6_3 < (l1_2.length : Int)
 rotate_left
 ·rw [if_neg c49] at H
  exact absurd H (by simp)
 rw [if_pos c49] at H
 have c49b0 : decide (x6_3 < (l1_2.length : Int)) = true := decide_eq_true c49
 clear c49
 by_cases c50 : x7_4 < (((rd_T58 l1_2 x6_3).f0).length : Int)
 rotate_left
 ·rw [if_neg c50] at H
  exact absurd H (by simp)
 rw [if_pos c50] at H
 have c50b0 : decide (x7_4 < (((rd_T58 l1_2 x6_3).f0).length : Int)) = true := decide_eq_true c50
 clear c50
 by_cases c51 : (!(((rd_T60 ((rd_T58 l0_2 x6_3).f0) x7_4).f0) == ((rd_T60 ((rd_T58 l1_2 x6_3).f0) x7_4).f0)) || (!((((rd_T60 ((rd_T58 l0_2 x6_3).f0) x7_4).f1).toList) == (((rd_T60 ((rd_T58 l1_2 x6_3).f0) x7_4).f1).toList)) || (!((((rd_T60 ((rd_T58 l0_2 x6_3).f0) x7_4).f2).toList) == (((rd_T60 ((rd_T58 l1_2 x6_3).f0) x7_4).f2).toList)) || (!((((rd_T60 ((rd_T58 l0_2 x6_3).f0) x7_4).f3).toList) == (((rd_T60 ((rd_T58 l1_2 x6_3).f0) x7_4).f3).toList)) || (!(((rd_T60 ((rd_T58 l0_2 x6_3).f0) x7_4).f4) == ((rd_T60 ((rd_T58 l1_2 x6_3).f0) x7_4).f4))))))) = true
 ·rw [if_pos c51] at H
  have c51b0 : (!(((rd_T60 ((rd_T58 l0_2 x6_3).f0) x7_4).f0) == ((rd_T60 ((rd_T58 l1_2 x6_3).f0) x7_4).f0)) || (!((((rd_T60 ((rd_T58 l0_2 x6_3).f0) x7_4).f1).toList) == (((rd_T60 ((rd_T58 l1_2 x6_3).f0) x7_4).f1).toList)) || (!((((rd_T60 ((rd_T58 l0_2 x6_3).f0) x7_4).f2).toList) == (((rd_T60 ((rd_T58 l1_2 x6_3).f0) x7_4).f2).toList)) || (!((((rd_T60 ((rd_T58 l0_2 x6_3).f0) x7_4).f3).toList) == (((rd_T60 ((rd_T58 l1_2 x6_3).f0) x7_4).f3).toList)) || (!(((rd_T60 ((rd_T58 l0_2 x6_3).f0) x7_4).f4) == ((rd_T60 ((rd_T58 l1_2 x6_3).f0) x7_4).f4))))))) = true := c51
  clear c51
  obtain rfl := Option.some.inj H
  have hnb52 := NB115_116.out
  have hnc52 := NB116_115.out
  have hcz53_0 : wr.cell? ⟨gb115, 0, none⟩ = some (.string a0_0) := (blk_cell BK115.out 0).trans rfl
  have hcz53_1 : wr.cell? ⟨gb115, 1, none⟩ = some (.slice A0_1 l0_1.length c0_1) := (blk_cell BK115.out 1).trans rfl
  have hcz53_2 : wr.cell? ⟨gb115, 2, none⟩ = some (.slice (some ad119) l0_2.length c0_2) := (blk_cell BK115.out 2).trans rfl
  have hcz53_3 : wr.cell? ⟨gb115, 3, none⟩ = some (.bool a0_3) := (blk_cell BK115.out 3).trans rfl
  have hcz53_4 : wr.cell? ⟨gb115, 4, none⟩ = some (.slice A0_4 l0_4.length c0_4) := (blk_cell BK115.out 4).trans rfl
  have hfz53_0 := blk_frozen BK115.out 0
  have hfz53_1 := blk_frozen BK115.out 1
  have hfz53_2 := blk_frozen BK115.out 2
  have hfz53_3 := blk_frozen BK115.out 3
  have hfz53_4 := blk_frozen BK115.out 4
  have p121 : 0 ≤ (x6_3 : Int) := of_decide_eq_true as_
  have q121 : x6_3 < (l0_2.length : Int) := of_decide_eq_true as_
  obtain ⟨ad121, A121_0, c121_0, e121, hx121_0, hl121_0, hi121_0⟩ := at_T58 HR0_2.out x6_3 p121 q121
  obtain rfl : ad119 = ad121 := (by injection e121)
  replace hx121_0 := cl_ HB.out hx121_0
  have HR121_0 := Aside0.mk hi121_0
  have HC121_0 := Aside0.mk hl121_0
  clear hi121_0 hl121_0
  replace p121 := eq_true p121
  replace q121 := eq_true q121
  have p122 : 0 ≤ (x6_3 : Int) := of_decide_eq_true as_
  have q122 : x6_3 < (l0_2.length : Int) := of_decide_eq_true as_
  obtain ⟨ad122, A122_0, c122_0, e122, hx122_0, hl122_0, hi122_0⟩ := at_T58 HR0_2.out x6_3 p122 q122
  obtain rfl : ad119 = ad122 := (by injection e122)
  replace hx122_0 := cl_ HB.out hx122_0
  have HR122_0 := Aside0.mk hi122_0
  have HC122_0 := Aside0.mk hl122_0
  clear hi122_0 hl122_0
  replace p122 := eq_true p122
  replace q122 := eq_true q122
  have ea_ := Option.some.inj (hx121_0.symm.trans hx122_0)
  injection ea_ with ea_ en_ ec_
  subst ea_
  subst ec_
  clear en_
  have p123 : 0 ≤ (x7_4 : Int) := of_decide_eq_true as_
  have q123 : x7_4 < (((rd_T58 l0_2 x6_3).f0).length : Int) := of_decide_eq_true as_
  obtain ⟨ad123, e123, hx123_0, hx123_1, hx123_2, hx123_3, hx123_4⟩ := at_T60 HR122_0.out x7_4 p123 q123
  cases e123
  replace hx123_0 := cl_ HB.out hx123_0
  replace hx123_1 := cl_ HB.out hx123_1
  replace hx123_2 := cl_ HB.out hx123_2
  replace hx123_3 := cl_ HB.out hx123_3
  replace hx123_4 := cl_ HB.out hx123_4
  replace p123 := eq_true p123
  replace q123 := eq_true q123
  have hcz54_0 : wr.cell? ⟨gb116, 0, none⟩ = some (.string a1_0) := (blk_cell BK116.out 0).trans rfl
  have hcz54_1 : wr.cell? ⟨gb116, 1, none⟩ = some (.slice A1_1 l1_1.length c1_1) := (blk_cell BK116.out 1).trans rfl
  have hcz54_2 : wr.cell? ⟨gb116, 2, none⟩ = some (.slice (some ad120) l1_2.length c1_2) := (blk_cell BK116.out 2).trans rfl
  have hcz54_3 : wr.cell? ⟨gb116, 3, none⟩ = some (.bool a1_3) := (blk_cell BK116.out 3).trans rfl
  have hcz54_4 : wr.cell? ⟨gb116, 4, none⟩ = some (.slice A1_4 l1_4.length c1_4) := (blk_cell BK116.out 4).trans rfl
  have hfz54_0 := blk_frozen BK116.out 0
  have hfz54_1 := blk_frozen BK116.out 1
  have hfz54_2 := blk_frozen BK116.out 2
  have hfz54_3 := blk_frozen BK116.out 3
  have hfz54_4 := blk_frozen BK116.out 4
  have p124 : 0 ≤ (x6_3 : Int) := of_decide_eq_true as_
  have q124 : x6_3 < (l1_2.length : Int) := of_decide_eq_true as_
  obtain ⟨ad124, A124_0, c124_0, e124, hx124_0, hl124_0, hi124_0⟩ := at_T58 HR1_2.out x6_3 p124 q124
  obtain rfl : ad120 = ad124 := (by injection e124)
  replace hx124_0 := cl_ HB.out hx124_0
  have HR124_0 := Aside0.mk hi124_0
  have HC124_0 := Aside0.mk hl124_0
  clear hi124_0 hl124_0
  replace p124 := eq_true p124
  replace q124 := eq_true q124
  have p125 : 0 ≤ (x7_4 : Int) := of_decide_eq_true as_
  have q125 : x7_4 < (((rd_T58 l1_2 x6_3).f0).length : Int) := of_decide_eq_true as_
  obtain ⟨ad125, e125, hx125_0, hx125_1, hx125_2, hx125_3, hx125_4⟩ := at_T60 HR124_0.out x7_4 p125 q125
  cases e125
  replace hx125_0 := cl_ HB.out hx125_0
  replace hx125_1 := cl_ HB.out hx125_1
  replace hx125_2 := cl_ HB.out hx125_2
  replace hx125_3 := cl_ HB.out hx125_3
  replace hx125_4 := cl_ HB.out hx125_4
  replace p125 := eq_true p125
  replace q125 := eq_true q125
  go_wp2
  repeat (go_quiet (fail); try go_wp2)
  go_ret
  exact ⟨by first | rfl | (simp [errW_none, errW_some] <;> rfl) | (simp [*, errW_none, errW_some] <;> rfl), hb_ HB.out⟩
 rw [if_neg c51] at H
 have c51b0 : (!(((rd_T60 ((rd_T58 l0_2 x6_3).f0) x7_4).f0) == ((rd_T60 ((rd_T58 l1_2 x6_3).f0) x7_4).f0)) || (!((((rd_T60 ((rd_T58 l0_2 x6_3).f0) x7_4).f1).toList) == (((rd_T60 ((rd_T58 l1_2 x6_3).f0) x7_4).f1).toList)) || (!((((rd_T60 ((rd_T58 l0_2 x6_3).f0) x7_4).f2).toList) == (((rd_T60 ((rd_T58 l1_2 x6_3).f0) x7_4).f2).toList)) || (!((((rd_T60 ((rd_T58 l0_2 x6_3).f0) x7_4).f3).toList) == (((rd_T60 ((rd_T58 l1_2 x6_3).f0) x7_4).f3).toList)) || (!(((rd_T60 ((rd_T58 l0_2 x6_3).f0) x7_4).f4) == ((rd_T60 ((rd_T58 l1_2 x6_3).f0) x7_4).f4))))))) = false := by simpa using c51
 clear c51
 have H' := Aside0.mk H
 clear H
 have hnb55 := NB115_116.out
 have hnc55 := NB116_115.out
 have hcz56_0 : wr.cell? ⟨gb115, 0, none⟩ = some (.string a0_0) := (blk_cell BK115.out 0).trans rfl
 have hcz56_1 : wr.cell? ⟨gb115, 1, none⟩ = some (.slice A0_1 l0_1.length c0_1) := (blk_cell BK115.out 1).trans rfl
 have hcz56_2 : wr.cell? ⟨gb115, 2, none⟩ = some (.slice (some ad119) l0_2.length c0_2) := (blk_cell BK115.out 2).trans rfl
 have hcz56_3 : wr.cell? ⟨gb115, 3, none⟩ = some (.bool a0_3) := (blk_cell BK115.out 3).trans rfl
 have hcz56_4 : wr.cell? ⟨gb115, 4, none⟩ = some (.slice A0_4 l0_4.length c0_4) := (blk_cell BK115.out 4).trans rfl
 have hfz56_0 := blk_frozen BK115.out 0
 have hfz56_1 := blk_frozen BK115.out 1
 have hfz56_2 := blk_frozen BK115.out 2
 have hfz56_3 := blk_frozen BK115.out 3
 have hfz56_4 := blk_frozen BK115.out 4
 have p121 : 0 ≤ (x6_3 : Int) := of_decide_eq_true as_
 have q121 : x6_3 < (l0_2.length : Int) := of_decide_eq_true as_
 obtain ⟨ad121, A121_0, c121_0, e121, hx121_0, hl121_0, hi121_0⟩ := at_T58 HR0_2.out x6_3 p121 q121
 obtain rfl : ad119 = ad121 := (by injection e121)
 replace hx121_0 := cl_ HB.out hx121_0
 have HR121_0 := Aside0.mk hi121_0
 have HC121_0 := Aside0.mk hl121_0
 clear hi121_0 hl121_0
 replace p121 := eq_true p121
 replace q121 := eq_true q121
 have p122 : 0 ≤ (x6_3 : Int) := of_decide_eq_true as_
 have q122 : x6_3 < (l0_2.length : Int) := of_decide_eq_true as_
 obtain ⟨ad122, A122_0, c122_0, e122, hx122_0, hl122_0, hi122_0⟩ := at_T58 HR0_2.out x6_3 p122 q122
 obtain rfl : ad119 = ad122 := (by injection e122)
 replace hx122_0 := cl_ HB.out hx122_0
 have HR122_0 := Aside0.mk hi122_0
 have HC122_0 := Aside0.mk hl122_0
 clear hi122_0 hl122_0
 replace p122 := eq_true p122
 replace q122 := eq_true q122
 have ea_ := Option.some.inj (hx121_0.symm.trans hx122_0)
 injection ea_ with ea_ en_ ec_
 subst ea_
 subst ec_
 clear en_
 have p123 : 0 ≤ (x7_4 : Int) := of_decide_eq_true as_
 have q123 : x7_4 < (((rd_T58 l0_2 x6_3).f0).length : Int) := of_decide_eq_true as_
 obtain ⟨ad123, e123, hx123_0, hx123_1, hx123_2, hx123_3, hx123_4⟩ := at_T60 HR122_0.out x7_4 p123 q123
 cases e123
 replace hx123_0 := cl_ HB.out hx123_0
 replace hx123_1 := cl_ HB.out hx123_1
 replace hx123_2 := cl_ HB.out hx123_2
 replace hx123_3 := cl_ HB.out hx123_3
 replace hx123_4 := cl_ HB.out hx123_4
 replace p123 := eq_true p123
 replace q123 := eq_true q123
 have hcz57_0 : wr.cell? ⟨gb116, 0, none⟩ = some (.string a1_0) := (blk_cell BK116.out 0).trans rfl
 have hcz57_1 : wr.cell? ⟨gb116, 1, none⟩ = some (.slice A1_1 l1_1.length c1_1) := (blk_cell BK116.out 1).trans rfl
 have hcz57_2 : wr.cell? ⟨gb116, 2, none⟩ = some (.slice (some ad120) l1_2.length c1_2) := (blk_cell BK116.out 2).trans rfl
 have hcz57_3 : wr.cell? ⟨gb116, 3, none⟩ = some (.bool a1_3) := (blk_cell BK116.out 3).trans rfl
 have hcz57_4 : wr.cell? ⟨gb116, 4, none⟩ = some (.slice A1_4 l1_4.length c1_4) := (blk_cell BK116.out 4).trans rfl
 have hfz57_0 := blk_frozen BK116.out 0
 have hfz57_1 := blk_frozen BK116.out 1
 have hfz57_2 := blk_frozen BK116.out 2
 have hfz57_3 := blk_frozen BK116.out 3
 have hfz57_4 := blk_frozen BK116.out 4
 have p124 : 0 ≤ (x6_3 : Int) := of_decide_eq_true as_
 have q124 : x6_3 < (l1_2.length : Int) := of_decide_eq_true as_
 obtain ⟨ad124, A124_0, c124_0, e124, hx124_0, hl124_0, hi124_0⟩ := at_T58 HR1_2.out x6_3 p124 q124
 obtain rfl : ad120 = ad124 := (by injection e124)
 replace hx124_0 := cl_ HB.out hx124_0
 have HR124_0 := Aside0.mk hi124_0
 have HC124_0 := Aside0.mk hl124_0
 clear hi124_0 hl124_0
 replace p124 := eq_true p124
 replace q124 := eq_true q124
 have p125 : 0 ≤ (x7_4 : Int) := of_decide_eq_true as_
 have q125 : x7_4 < (((rd_T58 l1_2 x6_3).f0).length : Int) := of_decide_eq_true as_
 obtain ⟨ad125, e125, hx125_0, hx125_1, hx125_2, hx125_3, hx125_4⟩ := at_T60 HR124_0.out x7_4 p125 q125
 cases e125
 replace hx125_0 := cl_ HB.out hx125_0
 replace hx125_1 := cl_ HB.out hx125_1
 replace hx125_2 := cl_ HB.out hx125_2
 replace hx125_3 := cl_ HB.out hx125_3
 replace hx125_4 := cl_ HB.out hx125_4
 replace p125 := eq_true p125
 replace q125 := eq_true q125
 go_wp2
 repeat (go_quiet (fail); try go_wp2)
 go_roundg k4
 case measure => have := HJ2.out; have := HK2.out; have := HK3.out; have := HK4.out; omega
 case rel => exact ⟨(wrap64 (x7_4 + 1)), rf_, H', ⟨by have := HJ2.out; have := HK2.out; have := HK3.out; have := HK4.out; omega⟩, ⟨bd_ BK115.out⟩, ⟨bd_ BK116.out⟩, ⟨hb_ HB.out⟩⟩
end Go.Proofs.Ytijpfonbeepmfaa.Print
