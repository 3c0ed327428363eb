/- adm.pending's closure: its contract, by walking its text. -/
import Derived.Test.YtphklaajolpieaaHSlotsNum
import Derived.Test.YtphklaajolpieaaHCfg
import Derived.Test.YtphklaajolpieaaHRegionIn
namespace Go.Proofs.Ytphklaajolpieaa.Print
open Go.RowKit Go.Shelf Go.Proofs.YtphklaajolpieaaW.PrintWords Go.Proofs.YtphklaajolpieaaW.PrintLast Go.Proofs.YtphklaajolpieaaW.PrintMore
set_option linter.unusedVariables false
set_option linter.unusedSimpArgs false
attribute [local go_sem] Oper.semAt_some
/-- May what step i wrote be on its way at step k? -/
def aheadAt (l : List S36) (m : List Bool) (k i : Nat) : Bool := rdOf false m (i : Int) && ((rd_T36 l (i : Int)).f0 == 3 || (rd_T36 l (i : Int)).f0 == 4) && decide (0 < ledF l noDrain (i : Int) (k : Int))
def aheadF (l : List S36) (m : List Bool) (k : Nat) : Bool := (List.range k).any (aheadAt l m k)
def pendK (l : List S36) (m : List Bool) (zs : List (List S36)) (t : Int) (k : Nat) : List (Int × S36) := ((List.range k).filter (aheadF l m)).map fun (j : Nat) => (numF zs t (j : Int), rd_T36 l (j : Int))
theorem pendK_succ (l : List S36) (m : List Bool) (zs : List (List S36)) (t : Int) (k : Nat) : pendK l m zs t (k + 1) = pendK l m zs t k ++ (if aheadF l m k = true then [(numF zs t (k : Int), rd_T36 l (k : Int))] else []) := by
 unfold pendK
 rw [List.range_succ, List.filter_append, List.map_append]
 congr 1
 by_cases c : aheadF l m k = true
 ·simp [c]
 ·simp [c]
/-- Certain blocks lie as they lay. -/
structure Kpt (ok : Nat → Prop) (W W' : World) : Prop where
 size : W.heap.size ≤ W'.heap.size
 same : ∀ k, ok k → k < W.heap.size → W'.heap[k]? = W.heap[k]?
theorem Kpt.refl (ok : Nat → Prop) (W : World) : Kpt ok W W := ⟨Nat.le_refl _, fun _ _ _ => rfl⟩
theorem Kpt.trans {ok : Nat → Prop} {A B C : World} (h : Kpt ok A B) (k : Kpt ok B C) : Kpt ok A C := ⟨Nat.le_trans h.size k.size, fun i hi hl => (k.same i hi (Nat.lt_of_lt_of_le hl h.size)).trans (h.same i hi hl)⟩
theorem Kpt.of_below {ok : Nat → Prop} {W W' : World} (h : Below W.heap.size W W') : Kpt ok W W' := ⟨h.size, fun k _ hl => h.block k hl⟩
theorem Kpt.alloc (ok : Nat → Prop) (W : World) (o : Obj) : Kpt ok W (W.alloc o) := Kpt.of_below (below_alloc (Below.refl _ _) _)
theorem Kpt.cell_ {ok : Nat → Prop} {W W' : World} (h : Kpt ok W W') {B o : Nat} {v : Value} (hB : ok B) (hc : W.cell? ⟨B, o, none⟩ = some v) : W'.cell? ⟨B, o, none⟩ = some v := by
 have hl : B < W.heap.size := by
  unfold World.cell? at hc
  cases hh : W.heap[B]? with
  | none => simp [hh] at hc
  | some x => exact (Array.getElem?_eq_some_iff.1 hh).1
 rw [← hc]
 exact World.cell?_of_block (h.same B hB hl)
set_option maxRecDepth 100000 in
set_option maxHeartbeats 4000000 in
theorem pending_stops (n : Nat) (w w0 : World) (A0 A1 Al Am : Option Addr) (len0 cap0 cap1 cl cm Bl Bm Bp Bt : Nat) (ok : Nat → Prop) (zs : List (List S36)) (l : List S36) (m : List Bool) (t : Int)
 (hlen : tot zs ≤ 1000000) (hlen2 : zs.length ≤ 1000000) (hl : l.length ≤ 1000000) (hB : fwdB l = true) (hm : m.length = l.length + 1)
 (fC : ∀ W, Kpt ok w0 W → Kd.C (Kd.slice 36 k36) W A1 zs.length zs) (fCl : ∀ W, Kpt ok w0 W → Kd.C k36 W Al l.length l) (fCm : ∀ W, Kpt ok w0 W → Kd.C Kd.bool W Am m.length m) (hcl : l.length ≤ cl) (hcm : m.length ≤ cm)
 (hBl : ok Bl) (hBm : ok Bm) (hBp : ok Bp) (hBt : ok Bt)
 (cBl : w0.cell? ⟨Bl, 0, none⟩ = some (.slice Al l.length cl)) (cBm : w0.cell? ⟨Bm, 0, none⟩ = some (.slice Am m.length cm)) (cBp0 : w0.cell? ⟨Bp, 0, none⟩ = some (.slice A0 len0 cap0)) (cBp1 : w0.cell? ⟨Bp, 1, none⟩ = some (.slice A1 zs.length cap1)) (cBt : w0.cell? ⟨Bt, 0, none⟩ = some (.int .i64 t)) :
 SeqStopsK Fence.wide (n + 9) Try.prog 33 #[.pointer (some ⟨Bl, 0, none⟩), .pointer (some ⟨Bm, 0, none⟩), .pointer (some ⟨Bp, 0, none⟩), .pointer (some ⟨Bt, 0, none⟩)] (fun x : Int × S36 => #[Value.int .i64 x.1, .agg #[.int .i64 x.2.f0, .int .i64 x.2.f1, .int .i64 x.2.f2, .int .i64 x.2.f3, .int .i64 x.2.f4]]) (Kpt ok)
  (fun ys => ys = pendK l m zs t l.length) (fun pre => pre <+: pendK l m zs t l.length) (l.length + 1) w0 := fun lo J Jx W hW_ hJ hJx hY h0 => by
 have hW : Kpt ok w0 W := Kpt.of_below hW_
 have HM := Aside0.mk hm
 clear hm
 have hu := Try.underlying25
 have hu2 := Try.underlying36
 have c1 := hW.cell_ hBl cBl
 have c2 := hW.cell_ hBm cBm
 refine callsIn_of_wp Try.func33 rfl trivial ?_ rfl
 simp only [Try.ntmps33, List.size_toArray, List.length_cons, List.length_nil, Nat.reduceAdd, Nat.reduceSub, Array.replicate_succ, Array.replicate_zero, List.push_toArray, List.append_toArray, List.nil_append, List.cons_append]
 gi_wp2
 gi_loopw [13] (fun v13 wr => ∃ k : Nat, k ≤ l.length ∧ v13 = .int .i64 (k : Int) ∧ J (pendK l m zs t k) wr ∧ Kpt ok W wr)
  (fun v13 _ => l.length - (intOf v13).toNat)
 case atStart => exact ⟨0, Nat.zero_le _, rfl, h0, Kpt.refl _ _⟩
 case round =>
  obtain ⟨k, hk, rfl, hJs, hnx⟩ := hrel
  obtain ⟨w1, rfl⟩ : ∃ w1, w1 = wr := ⟨_, rfl⟩
  by_cases hlt : k < l.length
  ·obtain ⟨q, hq⟩ : ∃ q : Int, q = (k : Int) := ⟨_, rfl⟩
   rw [← hq]
   have hww : Kpt ok w0 w1 := hW.trans hnx
   have d1 := hww.cell_ hBl cBl
   have d2 := hww.cell_ hBm cBm
   have hClr : Kd.C k36 w1 Al l.length l := fCl _ hww
   obtain ⟨ad, rfl, x0, x1, x2, x3, x4⟩ := at_T36 hClr q (by omega) (by omega)
   obtain ⟨x, hx⟩ : ∃ x, x = rd_T36 l q := ⟨_, rfl⟩
   rw [← hx] at x0 x1 x2 x3 x4
   have p1 : (0 ≤ q) = True := eq_true (by omega)
   have q1 : (q < (l.length : Int)) = True := eq_true (by omega)
   have q2 : (q ≤ (l.length : Int)) = True := eq_true (by omega)
   have q3 : (q ≤ (cl : Int)) = True := eq_true (by omega)
   have HX := Aside0.mk hx
   have HQ := Aside0.mk hq
   have HLT := Aside0.mk hlt
   have d1' := fun o => Lib.cell?_alloc_some o d1
   have d2' := fun o => Lib.cell?_alloc_some o d2
   have hmx : max q 0 = q := by omega
   have HNX := Aside0.mk hnx
   have HWW := Aside0.mk hww
   clear hx hq hlt hk hnx h0 hww
   gi_wp2
   gi_loopw [8, 22] (fun v8 v22 wr2 => ∃ i : Nat, i ≤ k ∧ v8 = .bool ((List.range i).any (aheadAt l m k)) ∧ v22 = .int .i64 (i : Int) ∧ J (pendK l m zs t k) wr2 ∧ wr2.heap[w1.heap.size]? = some (.cells #[.int .i64 x.f0, .int .i64 x.f1, .int .i64 x.f2, .int .i64 x.f3, .int .i64 x.f4] 36 (0, 0)) ∧ Kpt ok w1 wr2)
    (fun _ v22 _ => k - (intOf v22).toNat)
   case atStart => exact ⟨0, Nat.zero_le _, rfl, rfl, hJ _ _ _ none hJs (World.grownBy_alloc w1 _ none) (fun r e => by cases e), World.alloc_heap_new w1 _, Kpt.alloc _ _ _⟩
   case round =>
    obtain ⟨i, hi, rfl, rfl, hJ2, hx2, hb2⟩ := hrel
    by_cases hik : i < k
    ·obtain ⟨j, hj⟩ : ∃ j : Int, j = (i : Int) := ⟨_, rfl⟩
     rw [← hj]
     have hlt := HLT.out
     have hqk := HQ.out
     have hw2 : Kpt ok w0 wr := HWW.out.trans hb2
     have e1 := hw2.cell_ hBl cBl
     have e2 := hw2.cell_ hBm cBm
     obtain ⟨ad', hae, y0, y1, y2, y3, y4⟩ := at_T36 (fCl _ hw2) j (by omega) (by omega)
     obtain rfl := Option.some.inj hae
     obtain ⟨am, rfl, z0⟩ := Kd.at_bool (fCm _ hw2) j (by omega) (by have := HM.out; omega)
     have hCl2 : Kd.C k36 wr (some ad) l.length l := fCl _ hw2
     obtain ⟨y, hy⟩ : ∃ y, y = rd_T36 l j := ⟨_, rfl⟩
     obtain ⟨mb, hmb⟩ : ∃ b, b = rdOf false m j := ⟨_, rfl⟩
     rw [← hy] at y0 y1 y2 y3 y4
     rw [← hmb] at z0
     obtain ⟨ah, hah⟩ : ∃ b, b = (List.range i).any (aheadAt l m k) := ⟨_, rfl⟩
     rw [← hah]
     have hm := HM.out
     have r1 : (0 ≤ j) = True := eq_true (by omega)
     have r2 : (j < q) = True := eq_true (by omega)
     have r3 : (j < (m.length : Int)) = True := eq_true (by omega)
     have r4 : j + 1 ≤ 9223372036854775807 := by omega
     have r5 : -9223372036854775808 ≤ j + 1 := by omega
     have r6 : (j.toNat < q.toNat) = True := eq_true (by omega)
     have e1' := fun o => Lib.cell?_alloc_some o e1
     have e2' := fun o => Lib.cell?_alloc_some o e2
     have z0' := fun o => Lib.cell?_alloc_some o z0
     have y0' := fun o => Lib.cell?_alloc_some o y0
     have y1' := fun o => Lib.cell?_alloc_some o y1
     have y2' := fun o => Lib.cell?_alloc_some o y2
     have y3' := fun o => Lib.cell?_alloc_some o y3
     have y4' := fun o => Lib.cell?_alloc_some o y4
     have HY := Aside0.mk hy
     have HMB := Aside0.mk hmb
     have HAH := Aside0.mk hah
     have HJ := Aside0.mk hj
     have HIK := Aside0.mk hik
     have HC2 := Aside0.mk hCl2
     have HW2 := Aside0.mk hw2
     clear hm hy hmb hah hj hik hi hlt hqk hCl2 hw2 d1 d2 d1' d2'
     have hlt1 : w1.heap.size < wr.heap.size := (Array.getElem?_eq_some_iff.1 hx2).1
     have hstep : (List.range (i + 1)).any (aheadAt l m k) = (ah || (mb && (y.f0 == 3 || y.f0 == 4) && decide (0 < ledF l noDrain j q))) := by
      rw [List.range_succ, List.any_append, List.any_cons, List.any_nil, Bool.or_false, ← HAH.out, HY.out, HMB.out, HJ.out, HQ.out]; rfl
     cases ah with
     | true =>
      gi_wp2_with (refine ⟨trivial, ?_⟩)
      go_roundw
      case rel => exact ⟨i + 1, by have := HIK.out; omega, by rw [hstep]; rfl, by have := HJ.out; simp; omega, hJ _ _ _ none hJ2 (World.grownBy_alloc wr _ none) (fun r e => by cases e), (Below.heap_alloc wr _ _ hlt1).trans hx2, hb2.trans (Kpt.alloc _ _ _)⟩
      case measure => have := HIK.out; have := HJ.out; simp [intOf]; omega
     | false =>
      cases mb with
      | false =>
       gi_wp2_with (refine ⟨trivial, ?_⟩)
       go_roundw
       case rel => exact ⟨i + 1, by have := HIK.out; omega, by rw [hstep]; rfl, by have := HJ.out; simp; omega, hJ _ _ _ none hJ2 (World.grownBy_alloc wr _ none) (fun r e => by cases e), (Below.heap_alloc wr _ _ hlt1).trans hx2, hb2.trans (Kpt.alloc _ _ _)⟩
       case measure => have := HIK.out; have := HJ.out; simp [intOf]; omega
      | true =>
       by_cases c3 : y.f0 = 3
       ·have b3 : (y.f0 == 3) = true := by simpa using c3
        have C3 := Aside0.mk c3
        clear c3
        have hf : cfg_Free.f l j q = some (decide (0 < ledF l noDrain j q)) := by unfold cfg_Free.f; rw [if_pos ⟨hl, hB⟩, if_pos (wf_i64_of (x := q) (by have := HLT.out; have := HQ.out; omega) (by have := HLT.out; have := HQ.out; omega))]
        gi_wp2_with (refine ⟨trivial, ?_⟩; gi_at_call 34; refine (callsIn_wide.2 (cfg_Free.calls _ _ l j q _ _ (Kd.C_alloc HC2.out _) hcl hf)).mono ?_; rintro e w4 ⟨rfl, hb4⟩)
        go_roundw
        case rel => exact ⟨i + 1, by have := HIK.out; omega, by rw [hstep]; simp [b3], by have := HJ.out; simp; omega, hJ _ _ _ none hJ2 ((World.grownBy_alloc wr _ none).trans (grown_of_below hb4 none)) (fun r e => by cases e), (hb4.block _ (by simp; omega)).trans ((Below.heap_alloc wr _ _ hlt1).trans hx2), (hb2.trans (Kpt.alloc _ _ _)).trans (Kpt.of_below hb4)⟩
        case measure => have := HIK.out; have := HJ.out; simp [intOf]; omega
       ·have b3 : (y.f0 == 3) = false := by simpa using c3
        have C3 := Aside0.mk c3
        clear c3
        by_cases c4 : y.f0 = 4
        ·have b4 : (y.f0 == 4) = true := by simpa using c4
         have C4 := Aside0.mk c4
         clear c4
         have hf : cfg_Free.f l j q = some (decide (0 < ledF l noDrain j q)) := by unfold cfg_Free.f; rw [if_pos ⟨hl, hB⟩, if_pos (wf_i64_of (x := q) (by have := HLT.out; have := HQ.out; omega) (by have := HLT.out; have := HQ.out; omega))]
         gi_wp2_with (refine ⟨trivial, ?_⟩; gi_at_call 34; refine (callsIn_wide.2 (cfg_Free.calls _ _ l j q _ _ (Kd.C_alloc HC2.out _) hcl hf)).mono ?_; rintro e w4 ⟨rfl, hb4⟩)
         go_roundw
         case rel => exact ⟨i + 1, by have := HIK.out; omega, by rw [hstep]; simp [b3, b4], by have := HJ.out; simp; omega, hJ _ _ _ none hJ2 ((World.grownBy_alloc wr _ none).trans (grown_of_below hb4 none)) (fun r e => by cases e), (hb4.block _ (by simp; omega)).trans ((Below.heap_alloc wr _ _ hlt1).trans hx2), (hb2.trans (Kpt.alloc _ _ _)).trans (Kpt.of_below hb4)⟩
         case measure => have := HIK.out; have := HJ.out; simp [intOf]; omega
        ·have b4 : (y.f0 == 4) = false := by simpa using c4
         have C4 := Aside0.mk c4
         clear c4
         gi_wp2_with (refine ⟨trivial, ?_⟩)
         go_roundw
         case rel => exact ⟨i + 1, by have := HIK.out; omega, by rw [hstep]; simp [b3, b4], by have := HJ.out; simp; omega, hJ _ _ _ none hJ2 (World.grownBy_alloc wr _ none) (fun r e => by cases e), (Below.heap_alloc wr _ _ hlt1).trans hx2, hb2.trans (Kpt.alloc _ _ _)⟩
         case measure => have := HIK.out; have := HJ.out; simp [intOf]; omega
    ·obtain rfl : i = k := by omega
     have hqk := HQ.out
     have r2 : ((i : Int) < q) = False := eq_false (by omega)
     gi_wp2
     have hlt1 : w1.heap.size < wr.heap.size := (Array.getElem?_eq_some_iff.1 hx2).1
     have hah : (List.range i).any (aheadAt l m i) = aheadF l m i := rfl
     rw [hah]
     obtain ⟨x_, hx_⟩ : ∃ b, b = aheadF l m i := ⟨_, rfl⟩
     have hsucc := pendK_succ l m zs t i
     have hw3 : Kpt ok w0 wr := HWW.out.trans hb2
     have hpl : (pendK l m zs t i).length < l.length + 1 := by
      unfold pendK
      rw [List.length_map]
      have := List.length_filter_le (aheadF l m) (List.range i)
      rw [List.length_range] at this
      have := HLT.out
      omega
     have sq1 : q + 1 ≤ 9223372036854775807 := by have := HLT.out; have := HQ.out; omega
     have sq2 : -9223372036854775808 ≤ q + 1 := by have := HQ.out; omega
     clear hqk
     cases hA : aheadF l m i with
     | false =>
      rw [hA] at hsucc
      simp only [Bool.false_eq_true, if_false, List.append_nil] at hsucc
      refine wpIn_region_any (by kernel_rfl) ?_
      obtain ⟨wd, hwd⟩ : ∃ wd, wd = { wr with drawn := wr.drawn + 1 } := ⟨_, rfl⟩
      rw [← hwd]
      have hbd : Kpt ok wr wd := Kpt.of_below (by rw [hwd]; exact below_drew1 (Below.refl _ wr))
      have hJd : J (pendK l m zs t i) wd := hJ _ _ _ none hJ2 (grown_of_below (by rw [hwd]; exact below_drew1 (Below.refl _ wr) : Below wr.heap.size wr wd) none) (fun r e => by cases e)
      clear hwd
      refine takeI (i := 0) (v := .bool false) (some 51) #[true, false, false, false, false, false, false, false, false, false, false] (by rfl) (by rfl) (by kernel_rfl) (by kernel_rfl) (by kernel_rfl) (by kernel_rfl) (fun _ _ _ h => h) ⟨.inl ⟨by kernel_rfl, fun w => by simp only [List.getElem_toArray, List.getElem_cons_succ, List.getElem_cons_zero]; go_simp⟩, fun w => rfl⟩ (a' := ?_) (by (simp only [Act.put, List.setIfInBounds_toArray, List.set_cons_zero, List.set_cons_succ]; rfl)) ?_
      refine takeI (i := 1) (v := .bool false) (some 52) #[true, true, false, false, false, false, false, false, false, false, false] (by rfl) (by rfl) (by kernel_rfl) (by kernel_rfl) (by kernel_rfl) (by kernel_rfl) (fun _ _ _ h => h) ⟨.inl ⟨by kernel_rfl, fun w => by simp only [List.getElem_toArray, List.getElem_cons_succ, List.getElem_cons_zero]; go_simp⟩, fun w => rfl⟩ (a' := ?_) (by (simp only [Act.put, List.setIfInBounds_toArray, List.set_cons_zero, List.set_cons_succ]; rfl)) ?_
      refine takeI (i := 2) (v := undef) (some 53) #[true, true, true, false, false, false, false, false, false, false, false] (by rfl) (by rfl) (by kernel_rfl) (by kernel_rfl) (by kernel_rfl) (by kernel_rfl) (fun _ _ _ h => h) ⟨.inr ⟨by kernel_rfl, rfl⟩, fun w => rfl⟩ (a' := ?_) (by (simp only [Act.put, List.setIfInBounds_toArray, List.set_cons_zero, List.set_cons_succ]; rfl)) ?_
      refine takeI (i := 3) (v := undef) (some 54) #[true, true, true, true, false, false, false, false, false, false, false] (by rfl) (by rfl) (by kernel_rfl) (by kernel_rfl) (by kernel_rfl) (by kernel_rfl) (fun _ _ _ h => h) ⟨.inr ⟨by kernel_rfl, rfl⟩, fun w => rfl⟩ (a' := ?_) (by (simp only [Act.put, List.setIfInBounds_toArray, List.set_cons_zero, List.set_cons_succ]; rfl)) ?_
      refine takeI (i := 4) (v := undef) (some 55) #[true, true, true, true, true, false, false, false, false, false, false] (by rfl) (by rfl) (by kernel_rfl) (by kernel_rfl) (by kernel_rfl) (by kernel_rfl) (fun _ _ _ h => h) ⟨.inr ⟨by kernel_rfl, rfl⟩, fun w => rfl⟩ (a' := ?_) (by (simp only [Act.put, List.setIfInBounds_toArray, List.set_cons_zero, List.set_cons_succ]; rfl)) ?_
      refine takeI (i := 5) (v := undef) (some 56) #[true, true, true, true, true, true, false, false, false, false, false] (by rfl) (by rfl) (by kernel_rfl) (by kernel_rfl) (by kernel_rfl) (by kernel_rfl) (fun _ _ _ h => h) ⟨.inr ⟨by kernel_rfl, rfl⟩, fun w => rfl⟩ (a' := ?_) (by (simp only [Act.put, List.setIfInBounds_toArray, List.set_cons_zero, List.set_cons_succ]; rfl)) ?_
      refine takeI (i := 7) (v := undef) (some 58) #[true, true, true, true, true, true, false, true, false, false, false] (by rfl) (by rfl) (by kernel_rfl) (by kernel_rfl) (by kernel_rfl) (by kernel_rfl) (fun _ _ _ h => h) ⟨.inr ⟨by kernel_rfl, rfl⟩, fun w => rfl⟩ (a' := ?_) (by (simp only [Act.put, List.setIfInBounds_toArray, List.set_cons_zero, List.set_cons_succ]; rfl)) ?_
      refine nextI [6] (by kernel_rfl) (by simp) ?_
      intro i_ hi_
      simp only [List.mem_cons, List.not_mem_nil, or_false] at hi_
      subst hi_
      refine skipI (some 57) #[true, true, true, true, true, true, true, true, false, false, false] (by rfl) (by rfl) (by kernel_rfl) (by kernel_rfl) (a' := ?_) (by (simp only [Act.put, List.setIfInBounds_toArray, List.set_cons_zero, List.set_cons_succ]; rfl)) ?_
      refine nextI [8] (by kernel_rfl) (by simp) ?_
      intro i_ hi_
      simp only [List.mem_cons, List.not_mem_nil, or_false] at hi_
      subst hi_
      refine skipI (some 59) #[true, true, true, true, true, true, true, true, true, false, false] (by rfl) (by rfl) (by kernel_rfl) (by kernel_rfl) (a' := ?_) (by (simp only [Act.put, List.setIfInBounds_toArray, List.set_cons_zero, List.set_cons_succ]; rfl)) ?_
      refine nextI [9] (by kernel_rfl) (by simp) ?_
      intro i_ hi_
      simp only [List.mem_cons, List.not_mem_nil, or_false] at hi_
      subst hi_
      refine skipI (some 60) #[true, true, true, true, true, true, true, true, true, true, false] (by rfl) (by rfl) (by kernel_rfl) (by kernel_rfl) (a' := ?_) (by (simp only [Act.put, List.setIfInBounds_toArray, List.set_cons_zero, List.set_cons_succ]; rfl)) ?_
      refine nextI [10] (by kernel_rfl) (by simp) ?_
      intro i_ hi_
      simp only [List.mem_cons, List.not_mem_nil, or_false] at hi_
      subst hi_
      refine valI (v := .bool false) (some 61) #[true, true, true, true, true, true, true, true, true, true, true] (by rfl) (by rfl) (by kernel_rfl) (by kernel_rfl) (by simp only [List.getElem_toArray, List.getElem_cons_succ, List.getElem_cons_zero]; go_simp) (a' := ?_) (by (simp only [Act.put, List.setIfInBounds_toArray, List.set_cons_zero, List.set_cons_succ]; rfl)) ?_
      refine wpAnyIn_done (by kernel_rfl) ?_ _
      gi_wp2
      go_roundw
      case rel => exact ⟨i + 1, by have := HLT.out; omega, by have h_ := HQ.out; first | (simp; done) | (simp; omega) | (rw [h_]; simp), by rw [hsucc]; exact hJd, HNX.out.trans (hb2.trans hbd)⟩
      case measure => have := HLT.out; have := HQ.out; simp [intOf]; omega
     | true =>
      rw [hA] at hsucc
      simp only [if_true] at hsucc
      rw [← HQ.out, ← HX.out] at hsucc
      refine wpIn_region_any (by kernel_rfl) ?_
      have gx : wr.heap[w1.heap.size]? = some (.cells #[.int .i64 x.f0, .int .i64 x.f1, .int .i64 x.f2, .int .i64 x.f3, .int .i64 x.f4] 36 (0, 0)) := hx2
      obtain ⟨wd, hwd⟩ : ∃ wd, wd = { wr with drawn := wr.drawn + 1 } := ⟨_, rfl⟩
      rw [← hwd]
      have hbd0 : Below wr.heap.size wr wd := by rw [hwd]; exact below_drew1 (Below.refl _ wr)
      have hbd : Kpt ok wr wd := Kpt.of_below hbd0
      have hJd : J (pendK l m zs t i) wd := hJ _ _ _ none hJ2 (grown_of_below hbd0 none) (fun r e => by cases e)
      have hx3 : wd.heap[w1.heap.size]? = some (.cells #[.int .i64 x.f0, .int .i64 x.f1, .int .i64 x.f2, .int .i64 x.f3, .int .i64 x.f4] 36 (0, 0)) := (hbd0.block _ hlt1).trans gx
      have hwd0 : Kpt ok w0 wd := hw3.trans hbd
      have hCd : Kd.C (Kd.slice 36 k36) wd A1 zs.length zs := fC _ hwd0
      have gp0 := hwd0.cell_ hBp cBp0
      have gp1 := hwd0.cell_ hBp cBp1
      have gt := hwd0.cell_ hBt cBt
      have hxs : ∀ w', Below wd.heap.size wd w' → w'.cell? ⟨w1.heap.size, 0, none⟩ = some (.int .i64 x.f0) ∧ w'.cell? ⟨w1.heap.size, 1, none⟩ = some (.int .i64 x.f1) ∧ w'.cell? ⟨w1.heap.size, 2, none⟩ = some (.int .i64 x.f2) ∧ w'.cell? ⟨w1.heap.size, 3, none⟩ = some (.int .i64 x.f3) ∧ w'.cell? ⟨w1.heap.size, 4, none⟩ = some (.int .i64 x.f4) := fun w' hb => by
       have h := (hb.block _ (Array.getElem?_eq_some_iff.1 hx3).1).trans hx3
       exact ⟨(blk_cell h 0).trans rfl, (blk_cell h 1).trans rfl, (blk_cell h 2).trans rfl, (blk_cell h 3).trans rfl, (blk_cell h 4).trans rfl⟩
      obtain ⟨gx0, gx1, gx2, gx3, gx4⟩ := hxs wd (Below.refl _ _)
      have h5 : ∀ w4 w5, Below wd.heap.size wd w4 → Kpt ok w4 w5 → Kpt ok W w5 := fun w4 w5 h1 h2 => HNX.out.trans (hb2.trans (hbd.trans ((Kpt.of_below h1).trans h2)))
      have hpre : pendK l m zs t i ++ [(numF zs t q, x)] <+: pendK l m zs t l.length := by
       rw [← hsucc]
       unfold pendK
       refine List.IsPrefix.map _ (List.IsPrefix.filter _ ?_)
       have := HLT.out
       exact ⟨(List.range l.length).drop (i + 1), by rw [show List.range (i + 1) = (List.range l.length).take (i + 1) by rw [List.take_range, Nat.min_eq_left (by omega)], List.take_append_drop]⟩
      clear hwd gx hx3 hbd hbd0 hw3 hwd0
      refine takeI (i := 0) (v := .bool true) (some 51) #[true, false, false, false, false, false, false, false, false, false, false] (by rfl) (by rfl) (by kernel_rfl) (by kernel_rfl) (by kernel_rfl) (by kernel_rfl) (fun _ _ _ h => h) ⟨.inl ⟨by kernel_rfl, fun w => by simp only [List.getElem_toArray, List.getElem_cons_succ, List.getElem_cons_zero]; go_simp⟩, fun w => rfl⟩ (a' := ?_) (by (simp only [Act.put, List.setIfInBounds_toArray, List.set_cons_zero, List.set_cons_succ]; rfl)) ?_
      refine takeI (i := 1) (v := .bool true) (some 52) #[true, true, false, false, false, false, false, false, false, false, false] (by rfl) (by rfl) (by kernel_rfl) (by kernel_rfl) (by kernel_rfl) (by kernel_rfl) (fun _ _ _ h => h) ⟨.inl ⟨by kernel_rfl, fun w => by simp only [List.getElem_toArray, List.getElem_cons_succ, List.getElem_cons_zero]; go_simp⟩, fun w => rfl⟩ (a' := ?_) (by (simp only [Act.put, List.setIfInBounds_toArray, List.set_cons_zero, List.set_cons_succ]; rfl)) ?_
      refine takeI (i := 2) (v := .func (.yield lo) #[] #[]) (some 53) #[true, true, true, false, false, false, false, false, false, false, false] (by rfl) (by rfl) (by kernel_rfl) (by kernel_rfl) (by kernel_rfl) (by kernel_rfl) (fun _ _ _ h => h) ⟨.inl ⟨by kernel_rfl, fun w => by simp only [List.getElem_toArray, List.getElem_cons_succ, List.getElem_cons_zero]; go_simp⟩, fun w => rfl⟩ (a' := ?_) (by (simp only [Act.put, List.setIfInBounds_toArray, List.set_cons_zero, List.set_cons_succ]; rfl)) ?_
      refine takeI (i := 5) (v := .int .i64 q) (some 56) #[true, true, true, false, false, true, false, false, false, false, false] (by rfl) (by rfl) (by kernel_rfl) (by kernel_rfl) (by kernel_rfl) (by kernel_rfl) (fun _ _ _ h => h) ⟨.inl ⟨by kernel_rfl, fun w => by simp only [List.getElem_toArray, List.getElem_cons_succ, List.getElem_cons_zero]; go_simp⟩, fun w => rfl⟩ (a' := ?_) (by (simp only [Act.put, List.setIfInBounds_toArray, List.set_cons_zero, List.set_cons_succ]; rfl)) ?_
      refine nextI [3, 4, 7] (by kernel_rfl) (by simp) ?_
      intro i_ hi_
      simp only [List.mem_cons, List.not_mem_nil, or_false] at hi_
      rcases hi_ with rfl | rfl | rfl
      ·
       refine valI (v := .agg #[.slice A0 len0 cap0, .slice A1 zs.length cap1]) (some 54) #[true, true, true, true, false, true, false, false, false, false, false] (by rfl) (by rfl) (by kernel_rfl) (by kernel_rfl) (by simp only [List.getElem_toArray, List.getElem_cons_succ, List.getElem_cons_zero]; go_simp) (a' := ?_) (by (simp only [Act.put, List.setIfInBounds_toArray, List.set_cons_zero, List.set_cons_succ]; rfl)) ?_
       refine nextI [4, 7] (by kernel_rfl) (by simp) ?_
       intro i_ hi_
       simp only [List.mem_cons, List.not_mem_nil, or_false] at hi_
       rcases hi_ with rfl | rfl
       ·
        refine valI (v := .int .i64 t) (some 55) #[true, true, true, true, true, true, false, false, false, false, false] (by rfl) (by rfl) (by kernel_rfl) (by kernel_rfl) (by simp only [List.getElem_toArray, List.getElem_cons_succ, List.getElem_cons_zero]; go_simp) (a' := ?_) (by (simp only [Act.put, List.setIfInBounds_toArray, List.set_cons_zero, List.set_cons_succ]; rfl)) ?_
        refine nextI [6, 7] (by kernel_rfl) (by simp) ?_
        intro i_ hi_
        simp only [List.mem_cons, List.not_mem_nil, or_false] at hi_
        rcases hi_ with rfl | rfl
        ·
         refine callI (R := fun v w' => v = .int .i64 (numF zs t q) ∧ Below wd.heap.size wd w') (some 57) #[true, true, true, true, true, true, true, false, false, false, false] (by rfl) (by rfl) (by kernel_rfl) (by kernel_rfl) (by simp only [List.getElem_toArray, List.getElem_cons_succ, List.getElem_cons_zero]; go_simp) ((num_calls A0 cap0 len0 A1 cap1 zs t q wd hCd hlen hlen2).mono (fun e w' he => ⟨_, he.1, rfl, he.2⟩)) ?_
         rintro v w4 ⟨rfl, hb4⟩
         simp only [Act.put, List.setIfInBounds_toArray, List.set_cons_zero, List.set_cons_succ]
         obtain ⟨fx0, fx1, fx2, fx3, fx4⟩ := hxs w4 hb4
         refine nextI [7] (by kernel_rfl) (by simp) ?_
         intro i_ hi_
         simp only [List.mem_cons, List.not_mem_nil, or_false] at hi_
         subst hi_
         refine valI (v := .agg #[.int .i64 x.f0, .int .i64 x.f1, .int .i64 x.f2, .int .i64 x.f3, .int .i64 x.f4]) (some 58) #[true, true, true, true, true, true, true, true, false, false, false] (by rfl) (by rfl) (by kernel_rfl) (by kernel_rfl) (by simp only [List.getElem_toArray, List.getElem_cons_succ, List.getElem_cons_zero]; go_simp) (a' := ?_) (by (simp only [Act.put, List.setIfInBounds_toArray, List.set_cons_zero, List.set_cons_succ]; rfl)) ?_
         refine nextI [8] (by kernel_rfl) (by simp) ?_
         intro i_ hi_
         simp only [List.mem_cons, List.not_mem_nil, or_false] at hi_
         subst hi_
         obtain ⟨fn, tmps, assign, body, hy, hR⟩ := hY _ (numF zs t q, x) w4 (hJ _ _ _ none hJd (grown_of_below hb4 none) (fun r e => by cases e)) hpl
         dsimp only at hy
         refine yieldI (R := fun v w' => (v = .bool true ∧ J (pendK l m zs t i ++ [(numF zs t q, x)]) w' ∧ Kpt ok w4 w') ∨ (v = .bool false ∧ Jx (pendK l m zs t i ++ [(numF zs t q, x)]) w')) (some 59) #[true, true, true, true, true, true, true, true, true, false, false] (by rfl) (by rfl) (by kernel_rfl) (by kernel_rfl) (by simp only [List.getElem_toArray, List.getElem_cons_succ, List.getElem_cons_zero]; go_simp) (hR.mono (fun e w' he => by rcases he with ⟨rfl, h⟩ | ⟨rfl, h⟩; exact ⟨_, rfl, .inl ⟨rfl, h⟩⟩; exact ⟨_, rfl, .inr ⟨rfl, h⟩⟩)) ?_
         rintro v w5 (⟨rfl, hJ5, hb5⟩ | ⟨rfl, hJ5⟩)
         ·
          simp only [Act.put, List.setIfInBounds_toArray, List.set_cons_zero, List.set_cons_succ]
          refine nextI [9] (by kernel_rfl) (by simp) ?_
          intro i_ hi_
          simp only [List.mem_cons, List.not_mem_nil, or_false] at hi_
          subst hi_
          refine valI (v := .bool false) (some 60) #[true, true, true, true, true, true, true, true, true, true, false] (by rfl) (by rfl) (by kernel_rfl) (by kernel_rfl) (by simp only [List.getElem_toArray, List.getElem_cons_succ, List.getElem_cons_zero]; go_simp) (a' := ?_) (by (simp only [Act.put, List.setIfInBounds_toArray, List.set_cons_zero, List.set_cons_succ]; rfl)) ?_
          refine nextI [10] (by kernel_rfl) (by simp) ?_
          intro i_ hi_
          simp only [List.mem_cons, List.not_mem_nil, or_false] at hi_
          subst hi_
          refine valI (v := .bool false) (some 61) #[true, true, true, true, true, true, true, true, true, true, true] (by rfl) (by rfl) (by kernel_rfl) (by kernel_rfl) (by simp only [List.getElem_toArray, List.getElem_cons_succ, List.getElem_cons_zero]; go_simp) (a' := ?_) (by (simp only [Act.put, List.setIfInBounds_toArray, List.set_cons_zero, List.set_cons_succ]; rfl)) ?_
          refine wpAnyIn_done (by kernel_rfl) ?_ _
          gi_wp2
          go_roundw
          case rel => exact ⟨i + 1, by have := HLT.out; omega, by have h_ := HQ.out; first | (simp; done) | (simp; omega) | (rw [h_]; simp), by rw [hsucc]; exact hJ5, h5 _ _ hb4 hb5⟩
          case measure => have := HLT.out; have := HQ.out; simp [intOf]; omega
         ·
          simp only [Act.put, List.setIfInBounds_toArray, List.set_cons_zero, List.set_cons_succ]
          refine nextI [9] (by kernel_rfl) (by simp) ?_
          intro i_ hi_
          simp only [List.mem_cons, List.not_mem_nil, or_false] at hi_
          subst hi_
          refine valI (v := .bool true) (some 60) #[true, true, true, true, true, true, true, true, true, true, false] (by rfl) (by rfl) (by kernel_rfl) (by kernel_rfl) (by simp only [List.getElem_toArray, List.getElem_cons_succ, List.getElem_cons_zero]; go_simp) (a' := ?_) (by (simp only [Act.put, List.setIfInBounds_toArray, List.set_cons_zero, List.set_cons_succ]; rfl)) ?_
          refine nextI [10] (by kernel_rfl) (by simp) ?_
          intro i_ hi_
          simp only [List.mem_cons, List.not_mem_nil, or_false] at hi_
          subst hi_
          refine valI (v := .bool true) (some 61) #[true, true, true, true, true, true, true, true, true, true, true] (by rfl) (by rfl) (by kernel_rfl) (by kernel_rfl) (by simp only [List.getElem_toArray, List.getElem_cons_succ, List.getElem_cons_zero]; go_simp) (a' := ?_) (by (simp only [Act.put, List.setIfInBounds_toArray, List.set_cons_zero, List.set_cons_succ]; rfl)) ?_
          refine wpAnyIn_done (by kernel_rfl) ?_ _
          gi_wp2
          refine bodyPost_ret (results_none rfl _ _ _) rfl ?_
          exact ⟨⟨_, rfl⟩, .inr ⟨_, hpre, hJ5⟩⟩
        ·
         refine valI (v := .agg #[.int .i64 x.f0, .int .i64 x.f1, .int .i64 x.f2, .int .i64 x.f3, .int .i64 x.f4]) (some 58) #[true, true, true, true, true, true, false, true, false, false, false] (by rfl) (by rfl) (by kernel_rfl) (by kernel_rfl) (by simp only [List.getElem_toArray, List.getElem_cons_succ, List.getElem_cons_zero]; go_simp) (a' := ?_) (by (simp only [Act.put, List.setIfInBounds_toArray, List.set_cons_zero, List.set_cons_succ]; rfl)) ?_
         refine nextI [6] (by kernel_rfl) (by simp) ?_
         intro i_ hi_
         simp only [List.mem_cons, List.not_mem_nil, or_false] at hi_
         subst hi_
         refine callI (R := fun v w' => v = .int .i64 (numF zs t q) ∧ Below wd.heap.size wd w') (some 57) #[true, true, true, true, true, true, true, true, false, false, false] (by rfl) (by rfl) (by kernel_rfl) (by kernel_rfl) (by simp only [List.getElem_toArray, List.getElem_cons_succ, List.getElem_cons_zero]; go_simp) ((num_calls A0 cap0 len0 A1 cap1 zs t q wd hCd hlen hlen2).mono (fun e w' he => ⟨_, he.1, rfl, he.2⟩)) ?_
         rintro v w4 ⟨rfl, hb4⟩
         simp only [Act.put, List.setIfInBounds_toArray, List.set_cons_zero, List.set_cons_succ]
         obtain ⟨fx0, fx1, fx2, fx3, fx4⟩ := hxs w4 hb4
         refine nextI [8] (by kernel_rfl) (by simp) ?_
         intro i_ hi_
         simp only [List.mem_cons, List.not_mem_nil, or_false] at hi_
         subst hi_
         obtain ⟨fn, tmps, assign, body, hy, hR⟩ := hY _ (numF zs t q, x) w4 (hJ _ _ _ none hJd (grown_of_below hb4 none) (fun r e => by cases e)) hpl
         dsimp only at hy
         refine yieldI (R := fun v w' => (v = .bool true ∧ J (pendK l m zs t i ++ [(numF zs t q, x)]) w' ∧ Kpt ok w4 w') ∨ (v = .bool false ∧ Jx (pendK l m zs t i ++ [(numF zs t q, x)]) w')) (some 59) #[true, true, true, true, true, true, true, true, true, false, false] (by rfl) (by rfl) (by kernel_rfl) (by kernel_rfl) (by simp only [List.getElem_toArray, List.getElem_cons_succ, List.getElem_cons_zero]; go_simp) (hR.mono (fun e w' he => by rcases he with ⟨rfl, h⟩ | ⟨rfl, h⟩; exact ⟨_, rfl, .inl ⟨rfl, h⟩⟩; exact ⟨_, rfl, .inr ⟨rfl, h⟩⟩)) ?_
         rintro v w5 (⟨rfl, hJ5, hb5⟩ | ⟨rfl, hJ5⟩)
         ·
          simp only [Act.put, List.setIfInBounds_toArray, List.set_cons_zero, List.set_cons_succ]
          refine nextI [9] (by kernel_rfl) (by simp) ?_
          intro i_ hi_
          simp only [List.mem_cons, List.not_mem_nil, or_false] at hi_
          subst hi_
          refine valI (v := .bool false) (some 60) #[true, true, true, true, true, true, true, true, true, true, false] (by rfl) (by rfl) (by kernel_rfl) (by kernel_rfl) (by simp only [List.getElem_toArray, List.getElem_cons_succ, List.getElem_cons_zero]; go_simp) (a' := ?_) (by (simp only [Act.put, List.setIfInBounds_toArray, List.set_cons_zero, List.set_cons_succ]; rfl)) ?_
          refine nextI [10] (by kernel_rfl) (by simp) ?_
          intro i_ hi_
          simp only [List.mem_cons, List.not_mem_nil, or_false] at hi_
          subst hi_
          refine valI (v := .bool false) (some 61) #[true, true, true, true, true, true, true, true, true, true, true] (by rfl) (by rfl) (by kernel_rfl) (by kernel_rfl) (by simp only [List.getElem_toArray, List.getElem_cons_succ, List.getElem_cons_zero]; go_simp) (a' := ?_) (by (simp only [Act.put, List.setIfInBounds_toArray, List.set_cons_zero, List.set_cons_succ]; rfl)) ?_
          refine wpAnyIn_done (by kernel_rfl) ?_ _
          gi_wp2
          go_roundw
          case rel => exact ⟨i + 1, by have := HLT.out; omega, by have h_ := HQ.out; first | (simp; done) | (simp; omega) | (rw [h_]; simp), by rw [hsucc]; exact hJ5, h5 _ _ hb4 hb5⟩
          case measure => have := HLT.out; have := HQ.out; simp [intOf]; omega
         ·
          simp only [Act.put, List.setIfInBounds_toArray, List.set_cons_zero, List.set_cons_succ]
          refine nextI [9] (by kernel_rfl) (by simp) ?_
          intro i_ hi_
          simp only [List.mem_cons, List.not_mem_nil, or_false] at hi_
          subst hi_
          refine valI (v := .bool true) (some 60) #[true, true, true, true, true, true, true, true, true, true, false] (by rfl) (by rfl) (by kernel_rfl) (by kernel_rfl) (by simp only [List.getElem_toArray, List.getElem_cons_succ, List.getElem_cons_zero]; go_simp) (a' := ?_) (by (simp only [Act.put, List.setIfInBounds_toArray, List.set_cons_zero, List.set_cons_succ]; rfl)) ?_
          refine nextI [10] (by kernel_rfl) (by simp) ?_
          intro i_ hi_
          simp only [List.mem_cons, List.not_mem_nil, or_false] at hi_
          subst hi_
          refine valI (v := .bool true) (some 61) #[true, true, true, true, true, true, true, true, true, true, true] (by rfl) (by rfl) (by kernel_rfl) (by kernel_rfl) (by simp only [List.getElem_toArray, List.getElem_cons_succ, List.getElem_cons_zero]; go_simp) (a' := ?_) (by (simp only [Act.put, List.setIfInBounds_toArray, List.set_cons_zero, List.set_cons_succ]; rfl)) ?_
          refine wpAnyIn_done (by kernel_rfl) ?_ _
          gi_wp2
          refine bodyPost_ret (results_none rfl _ _ _) rfl ?_
          exact ⟨⟨_, rfl⟩, .inr ⟨_, hpre, hJ5⟩⟩
       ·
        refine valI (v := .agg #[.int .i64 x.f0, .int .i64 x.f1, .int .i64 x.f2, .int .i64 x.f3, .int .i64 x.f4]) (some 58) #[true, true, true, true, false, true, false, true, false, false, false] (by rfl) (by rfl) (by kernel_rfl) (by kernel_rfl) (by simp only [List.getElem_toArray, List.getElem_cons_succ, List.getElem_cons_zero]; go_simp) (a' := ?_) (by (simp only [Act.put, List.setIfInBounds_toArray, List.set_cons_zero, List.set_cons_succ]; rfl)) ?_
        refine nextI [4] (by kernel_rfl) (by simp) ?_
        intro i_ hi_
        simp only [List.mem_cons, List.not_mem_nil, or_false] at hi_
        subst hi_
        refine valI (v := .int .i64 t) (some 55) #[true, true, true, true, true, true, false, true, false, false, false] (by rfl) (by rfl) (by kernel_rfl) (by kernel_rfl) (by simp only [List.getElem_toArray, List.getElem_cons_succ, List.getElem_cons_zero]; go_simp) (a' := ?_) (by (simp only [Act.put, List.setIfInBounds_toArray, List.set_cons_zero, List.set_cons_succ]; rfl)) ?_
        refine nextI [6] (by kernel_rfl) (by simp) ?_
        intro i_ hi_
        simp only [List.mem_cons, List.not_mem_nil, or_false] at hi_
        subst hi_
        refine callI (R := fun v w' => v = .int .i64 (numF zs t q) ∧ Below wd.heap.size wd w') (some 57) #[true, true, true, true, true, true, true, true, false, false, false] (by rfl) (by rfl) (by kernel_rfl) (by kernel_rfl) (by simp only [List.getElem_toArray, List.getElem_cons_succ, List.getElem_cons_zero]; go_simp) ((num_calls A0 cap0 len0 A1 cap1 zs t q wd hCd hlen hlen2).mono (fun e w' he => ⟨_, he.1, rfl, he.2⟩)) ?_
        rintro v w4 ⟨rfl, hb4⟩
        simp only [Act.put, List.setIfInBounds_toArray, List.set_cons_zero, List.set_cons_succ]
        obtain ⟨fx0, fx1, fx2, fx3, fx4⟩ := hxs w4 hb4
        refine nextI [8] (by kernel_rfl) (by simp) ?_
        intro i_ hi_
        simp only [List.mem_cons, List.not_mem_nil, or_false] at hi_
        subst hi_
        obtain ⟨fn, tmps, assign, body, hy, hR⟩ := hY _ (numF zs t q, x) w4 (hJ _ _ _ none hJd (grown_of_below hb4 none) (fun r e => by cases e)) hpl
        dsimp only at hy
        refine yieldI (R := fun v w' => (v = .bool true ∧ J (pendK l m zs t i ++ [(numF zs t q, x)]) w' ∧ Kpt ok w4 w') ∨ (v = .bool false ∧ Jx (pendK l m zs t i ++ [(numF zs t q, x)]) w')) (some 59) #[true, true, true, true, true, true, true, true, true, false, false] (by rfl) (by rfl) (by kernel_rfl) (by kernel_rfl) (by simp only [List.getElem_toArray, List.getElem_cons_succ, List.getElem_cons_zero]; go_simp) (hR.mono (fun e w' he => by rcases he with ⟨rfl, h⟩ | ⟨rfl, h⟩; exact ⟨_, rfl, .inl ⟨rfl, h⟩⟩; exact ⟨_, rfl, .inr ⟨rfl, h⟩⟩)) ?_
        rintro v w5 (⟨rfl, hJ5, hb5⟩ | ⟨rfl, hJ5⟩)
        ·
         simp only [Act.put, List.setIfInBounds_toArray, List.set_cons_zero, List.set_cons_succ]
         refine nextI [9] (by kernel_rfl) (by simp) ?_
         intro i_ hi_
         simp only [List.mem_cons, List.not_mem_nil, or_false] at hi_
         subst hi_
         refine valI (v := .bool false) (some 60) #[true, true, true, true, true, true, true, true, true, true, false] (by rfl) (by rfl) (by kernel_rfl) (by kernel_rfl) (by simp only [List.getElem_toArray, List.getElem_cons_succ, List.getElem_cons_zero]; go_simp) (a' := ?_) (by (simp only [Act.put, List.setIfInBounds_toArray, List.set_cons_zero, List.set_cons_succ]; rfl)) ?_
         refine nextI [10] (by kernel_rfl) (by simp) ?_
         intro i_ hi_
         simp only [List.mem_cons, List.not_mem_nil, or_false] at hi_
         subst hi_
         refine valI (v := .bool false) (some 61) #[true, true, true, true, true, true, true, true, true, true, true] (by rfl) (by rfl) (by kernel_rfl) (by kernel_rfl) (by simp only [List.getElem_toArray, List.getElem_cons_succ, List.getElem_cons_zero]; go_simp) (a' := ?_) (by (simp only [Act.put, List.setIfInBounds_toArray, List.set_cons_zero, List.set_cons_succ]; rfl)) ?_
         refine wpAnyIn_done (by kernel_rfl) ?_ _
         gi_wp2
         go_roundw
         case rel => exact ⟨i + 1, by have := HLT.out; omega, by have h_ := HQ.out; first | (simp; done) | (simp; omega) | (rw [h_]; simp), by rw [hsucc]; exact hJ5, h5 _ _ hb4 hb5⟩
         case measure => have := HLT.out; have := HQ.out; simp [intOf]; omega
        ·
         simp only [Act.put, List.setIfInBounds_toArray, List.set_cons_zero, List.set_cons_succ]
         refine nextI [9] (by kernel_rfl) (by simp) ?_
         intro i_ hi_
         simp only [List.mem_cons, List.not_mem_nil, or_false] at hi_
         subst hi_
         refine valI (v := .bool true) (some 60) #[true, true, true, true, true, true, true, true, true, true, false] (by rfl) (by rfl) (by kernel_rfl) (by kernel_rfl) (by simp only [List.getElem_toArray, List.getElem_cons_succ, List.getElem_cons_zero]; go_simp) (a' := ?_) (by (simp only [Act.put, List.setIfInBounds_toArray, List.set_cons_zero, List.set_cons_succ]; rfl)) ?_
         refine nextI [10] (by kernel_rfl) (by simp) ?_
         intro i_ hi_
         simp only [List.mem_cons, List.not_mem_nil, or_false] at hi_
         subst hi_
         refine valI (v := .bool true) (some 61) #[true, true, true, true, true, true, true, true, true, true, true] (by rfl) (by rfl) (by kernel_rfl) (by kernel_rfl) (by simp only [List.getElem_toArray, List.getElem_cons_succ, List.getElem_cons_zero]; go_simp) (a' := ?_) (by (simp only [Act.put, List.setIfInBounds_toArray, List.set_cons_zero, List.set_cons_succ]; rfl)) ?_
         refine wpAnyIn_done (by kernel_rfl) ?_ _
         gi_wp2
         refine bodyPost_ret (results_none rfl _ _ _) rfl ?_
         exact ⟨⟨_, rfl⟩, .inr ⟨_, hpre, hJ5⟩⟩
      ·
       refine valI (v := .int .i64 t) (some 55) #[true, true, true, false, true, true, false, false, false, false, false] (by rfl) (by rfl) (by kernel_rfl) (by kernel_rfl) (by simp only [List.getElem_toArray, List.getElem_cons_succ, List.getElem_cons_zero]; go_simp) (a' := ?_) (by (simp only [Act.put, List.setIfInBounds_toArray, List.set_cons_zero, List.set_cons_succ]; rfl)) ?_
       refine nextI [3, 7] (by kernel_rfl) (by simp) ?_
       intro i_ hi_
       simp only [List.mem_cons, List.not_mem_nil, or_false] at hi_
       rcases hi_ with rfl | rfl
       ·
        refine valI (v := .agg #[.slice A0 len0 cap0, .slice A1 zs.length cap1]) (some 54) #[true, true, true, true, true, true, false, false, false, false, false] (by rfl) (by rfl) (by kernel_rfl) (by kernel_rfl) (by simp only [List.getElem_toArray, List.getElem_cons_succ, List.getElem_cons_zero]; go_simp) (a' := ?_) (by (simp only [Act.put, List.setIfInBounds_toArray, List.set_cons_zero, List.set_cons_succ]; rfl)) ?_
        refine nextI [6, 7] (by kernel_rfl) (by simp) ?_
        intro i_ hi_
        simp only [List.mem_cons, List.not_mem_nil, or_false] at hi_
        rcases hi_ with rfl | rfl
        ·
         refine callI (R := fun v w' => v = .int .i64 (numF zs t q) ∧ Below wd.heap.size wd w') (some 57) #[true, true, true, true, true, true, true, false, false, false, false] (by rfl) (by rfl) (by kernel_rfl) (by kernel_rfl) (by simp only [List.getElem_toArray, List.getElem_cons_succ, List.getElem_cons_zero]; go_simp) ((num_calls A0 cap0 len0 A1 cap1 zs t q wd hCd hlen hlen2).mono (fun e w' he => ⟨_, he.1, rfl, he.2⟩)) ?_
         rintro v w4 ⟨rfl, hb4⟩
         simp only [Act.put, List.setIfInBounds_toArray, List.set_cons_zero, List.set_cons_succ]
         obtain ⟨fx0, fx1, fx2, fx3, fx4⟩ := hxs w4 hb4
         refine nextI [7] (by kernel_rfl) (by simp) ?_
         intro i_ hi_
         simp only [List.mem_cons, List.not_mem_nil, or_false] at hi_
         subst hi_
         refine valI (v := .agg #[.int .i64 x.f0, .int .i64 x.f1, .int .i64 x.f2, .int .i64 x.f3, .int .i64 x.f4]) (some 58) #[true, true, true, true, true, true, true, true, false, false, false] (by rfl) (by rfl) (by kernel_rfl) (by kernel_rfl) (by simp only [List.getElem_toArray, List.getElem_cons_succ, List.getElem_cons_zero]; go_simp) (a' := ?_) (by (simp only [Act.put, List.setIfInBounds_toArray, List.set_cons_zero, List.set_cons_succ]; rfl)) ?_
         refine nextI [8] (by kernel_rfl) (by simp) ?_
         intro i_ hi_
         simp only [List.mem_cons, List.not_mem_nil, or_false] at hi_
         subst hi_
         obtain ⟨fn, tmps, assign, body, hy, hR⟩ := hY _ (numF zs t q, x) w4 (hJ _ _ _ none hJd (grown_of_below hb4 none) (fun r e => by cases e)) hpl
         dsimp only at hy
         refine yieldI (R := fun v w' => (v = .bool true ∧ J (pendK l m zs t i ++ [(numF zs t q, x)]) w' ∧ Kpt ok w4 w') ∨ (v = .bool false ∧ Jx (pendK l m zs t i ++ [(numF zs t q, x)]) w')) (some 59) #[true, true, true, true, true, true, true, true, true, false, false] (by rfl) (by rfl) (by kernel_rfl) (by kernel_rfl) (by simp only [List.getElem_toArray, List.getElem_cons_succ, List.getElem_cons_zero]; go_simp) (hR.mono (fun e w' he => by rcases he with ⟨rfl, h⟩ | ⟨rfl, h⟩; exact ⟨_, rfl, .inl ⟨rfl, h⟩⟩; exact ⟨_, rfl, .inr ⟨rfl, h⟩⟩)) ?_
         rintro v w5 (⟨rfl, hJ5, hb5⟩ | ⟨rfl, hJ5⟩)
         ·
          simp only [Act.put, List.setIfInBounds_toArray, List.set_cons_zero, List.set_cons_succ]
          refine nextI [9] (by kernel_rfl) (by simp) ?_
          intro i_ hi_
          simp only [List.mem_cons, List.not_mem_nil, or_false] at hi_
          subst hi_
          refine valI (v := .bool false) (some 60) #[true, true, true, true, true, true, true, true, true, true, false] (by rfl) (by rfl) (by kernel_rfl) (by kernel_rfl) (by simp only [List.getElem_toArray, List.getElem_cons_succ, List.getElem_cons_zero]; go_simp) (a' := ?_) (by (simp only [Act.put, List.setIfInBounds_toArray, List.set_cons_zero, List.set_cons_succ]; rfl)) ?_
          refine nextI [10] (by kernel_rfl) (by simp) ?_
          intro i_ hi_
          simp only [List.mem_cons, List.not_mem_nil, or_false] at hi_
          subst hi_
          refine valI (v := .bool false) (some 61) #[true, true, true, true, true, true, true, true, true, true, true] (by rfl) (by rfl) (by kernel_rfl) (by kernel_rfl) (by simp only [List.getElem_toArray, List.getElem_cons_succ, List.getElem_cons_zero]; go_simp) (a' := ?_) (by (simp only [Act.put, List.setIfInBounds_toArray, List.set_cons_zero, List.set_cons_succ]; rfl)) ?_
          refine wpAnyIn_done (by kernel_rfl) ?_ _
          gi_wp2
          go_roundw
          case rel => exact ⟨i + 1, by have := HLT.out; omega, by have h_ := HQ.out; first | (simp; done) | (simp; omega) | (rw [h_]; simp), by rw [hsucc]; exact hJ5, h5 _ _ hb4 hb5⟩
          case measure => have := HLT.out; have := HQ.out; simp [intOf]; omega
         ·
          simp only [Act.put, List.setIfInBounds_toArray, List.set_cons_zero, List.set_cons_succ]
          refine nextI [9] (by kernel_rfl) (by simp) ?_
          intro i_ hi_
          simp only [List.mem_cons, List.not_mem_nil, or_false] at hi_
          subst hi_
          refine valI (v := .bool true) (some 60) #[true, true, true, true, true, true, true, true, true, true, false] (by rfl) (by rfl) (by kernel_rfl) (by kernel_rfl) (by simp only [List.getElem_toArray, List.getElem_cons_succ, List.getElem_cons_zero]; go_simp) (a' := ?_) (by (simp only [Act.put, List.setIfInBounds_toArray, List.set_cons_zero, List.set_cons_succ]; rfl)) ?_
          refine nextI [10] (by kernel_rfl) (by simp) ?_
          intro i_ hi_
          simp only [List.mem_cons, List.not_mem_nil, or_false] at hi_
          subst hi_
          refine valI (v := .bool true) (some 61) #[true, true, true, true, true, true, true, true, true, true, true] (by rfl) (by rfl) (by kernel_rfl) (by kernel_rfl) (by simp only [List.getElem_toArray, List.getElem_cons_succ, List.getElem_cons_zero]; go_simp) (a' := ?_) (by (simp only [Act.put, List.setIfInBounds_toArray, List.set_cons_zero, List.set_cons_succ]; rfl)) ?_
          refine wpAnyIn_done (by kernel_rfl) ?_ _
          gi_wp2
          refine bodyPost_ret (results_none rfl _ _ _) rfl ?_
          exact ⟨⟨_, rfl⟩, .inr ⟨_, hpre, hJ5⟩⟩
        ·
         refine valI (v := .agg #[.int .i64 x.f0, .int .i64 x.f1, .int .i64 x.f2, .int .i64 x.f3, .int .i64 x.f4]) (some 58) #[true, true, true, true, true, true, false, true, false, false, false] (by rfl) (by rfl) (by kernel_rfl) (by kernel_rfl) (by simp only [List.getElem_toArray, List.getElem_cons_succ, List.getElem_cons_zero]; go_simp) (a' := ?_) (by (simp only [Act.put, List.setIfInBounds_toArray, List.set_cons_zero, List.set_cons_succ]; rfl)) ?_
         refine nextI [6] (by kernel_rfl) (by simp) ?_
         intro i_ hi_
         simp only [List.mem_cons, List.not_mem_nil, or_false] at hi_
         subst hi_
         refine callI (R := fun v w' => v = .int .i64 (numF zs t q) ∧ Below wd.heap.size wd w') (some 57) #[true, true, true, true, true, true, true, true, false, false, false] (by rfl) (by rfl) (by kernel_rfl) (by kernel_rfl) (by simp only [List.getElem_toArray, List.getElem_cons_succ, List.getElem_cons_zero]; go_simp) ((num_calls A0 cap0 len0 A1 cap1 zs t q wd hCd hlen hlen2).mono (fun e w' he => ⟨_, he.1, rfl, he.2⟩)) ?_
         rintro v w4 ⟨rfl, hb4⟩
         simp only [Act.put, List.setIfInBounds_toArray, List.set_cons_zero, List.set_cons_succ]
         obtain ⟨fx0, fx1, fx2, fx3, fx4⟩ := hxs w4 hb4
         refine nextI [8] (by kernel_rfl) (by simp) ?_
         intro i_ hi_
         simp only [List.mem_cons, List.not_mem_nil, or_false] at hi_
         subst hi_
         obtain ⟨fn, tmps, assign, body, hy, hR⟩ := hY _ (numF zs t q, x) w4 (hJ _ _ _ none hJd (grown_of_below hb4 none) (fun r e => by cases e)) hpl
         dsimp only at hy
         refine yieldI (R := fun v w' => (v = .bool true ∧ J (pendK l m zs t i ++ [(numF zs t q, x)]) w' ∧ Kpt ok w4 w') ∨ (v = .bool false ∧ Jx (pendK l m zs t i ++ [(numF zs t q, x)]) w')) (some 59) #[true, true, true, true, true, true, true, true, true, false, false] (by rfl) (by rfl) (by kernel_rfl) (by kernel_rfl) (by simp only [List.getElem_toArray, List.getElem_cons_succ, List.getElem_cons_zero]; go_simp) (hR.mono (fun e w' he => by rcases he with ⟨rfl, h⟩ | ⟨rfl, h⟩; exact ⟨_, rfl, .inl ⟨rfl, h⟩⟩; exact ⟨_, rfl, .inr ⟨rfl, h⟩⟩)) ?_
         rintro v w5 (⟨rfl, hJ5, hb5⟩ | ⟨rfl, hJ5⟩)
         ·
          simp only [Act.put, List.setIfInBounds_toArray, List.set_cons_zero, List.set_cons_succ]
          refine nextI [9] (by kernel_rfl) (by simp) ?_
          intro i_ hi_
          simp only [List.mem_cons, List.not_mem_nil, or_false] at hi_
          subst hi_
          refine valI (v := .bool false) (some 60) #[true, true, true, true, true, true, true, true, true, true, false] (by rfl) (by rfl) (by kernel_rfl) (by kernel_rfl) (by simp only [List.getElem_toArray, List.getElem_cons_succ, List.getElem_cons_zero]; go_simp) (a' := ?_) (by (simp only [Act.put, List.setIfInBounds_toArray, List.set_cons_zero, List.set_cons_succ]; rfl)) ?_
          refine nextI [10] (by kernel_rfl) (by simp) ?_
          intro i_ hi_
          simp only [List.mem_cons, List.not_mem_nil, or_false] at hi_
          subst hi_
          refine valI (v := .bool false) (some 61) #[true, true, true, true, true, true, true, true, true, true, true] (by rfl) (by rfl) (by kernel_rfl) (by kernel_rfl) (by simp only [List.getElem_toArray, List.getElem_cons_succ, List.getElem_cons_zero]; go_simp) (a' := ?_) (by (simp only [Act.put, List.setIfInBounds_toArray, List.set_cons_zero, List.set_cons_succ]; rfl)) ?_
          refine wpAnyIn_done (by kernel_rfl) ?_ _
          gi_wp2
          go_roundw
          case rel => exact ⟨i + 1, by have := HLT.out; omega, by have h_ := HQ.out; first | (simp; done) | (simp; omega) | (rw [h_]; simp), by rw [hsucc]; exact hJ5, h5 _ _ hb4 hb5⟩
          case measure => have := HLT.out; have := HQ.out; simp [intOf]; omega
         ·
          simp only [Act.put, List.setIfInBounds_toArray, List.set_cons_zero, List.set_cons_succ]
          refine nextI [9] (by kernel_rfl) (by simp) ?_
          intro i_ hi_
          simp only [List.mem_cons, List.not_mem_nil, or_false] at hi_
          subst hi_
          refine valI (v := .bool true) (some 60) #[true, true, true, true, true, true, true, true, true, true, false] (by rfl) (by rfl) (by kernel_rfl) (by kernel_rfl) (by simp only [List.getElem_toArray, List.getElem_cons_succ, List.getElem_cons_zero]; go_simp) (a' := ?_) (by (simp only [Act.put, List.setIfInBounds_toArray, List.set_cons_zero, List.set_cons_succ]; rfl)) ?_
          refine nextI [10] (by kernel_rfl) (by simp) ?_
          intro i_ hi_
          simp only [List.mem_cons, List.not_mem_nil, or_false] at hi_
          subst hi_
          refine valI (v := .bool true) (some 61) #[true, true, true, true, true, true, true, true, true, true, true] (by rfl) (by rfl) (by kernel_rfl) (by kernel_rfl) (by simp only [List.getElem_toArray, List.getElem_cons_succ, List.getElem_cons_zero]; go_simp) (a' := ?_) (by (simp only [Act.put, List.setIfInBounds_toArray, List.set_cons_zero, List.set_cons_succ]; rfl)) ?_
          refine wpAnyIn_done (by kernel_rfl) ?_ _
          gi_wp2
          refine bodyPost_ret (results_none rfl _ _ _) rfl ?_
          exact ⟨⟨_, rfl⟩, .inr ⟨_, hpre, hJ5⟩⟩
       ·
        refine valI (v := .agg #[.int .i64 x.f0, .int .i64 x.f1, .int .i64 x.f2, .int .i64 x.f3, .int .i64 x.f4]) (some 58) #[true, true, true, false, true, true, false, true, false, false, false] (by rfl) (by rfl) (by kernel_rfl) (by kernel_rfl) (by simp only [List.getElem_toArray, List.getElem_cons_succ, List.getElem_cons_zero]; go_simp) (a' := ?_) (by (simp only [Act.put, List.setIfInBounds_toArray, List.set_cons_zero, List.set_cons_succ]; rfl)) ?_
        refine nextI [3] (by kernel_rfl) (by simp) ?_
        intro i_ hi_
        simp only [List.mem_cons, List.not_mem_nil, or_false] at hi_
        subst hi_
        refine valI (v := .agg #[.slice A0 len0 cap0, .slice A1 zs.length cap1]) (some 54) #[true, true, true, true, true, true, false, true, false, false, false] (by rfl) (by rfl) (by kernel_rfl) (by kernel_rfl) (by simp only [List.getElem_toArray, List.getElem_cons_succ, List.getElem_cons_zero]; go_simp) (a' := ?_) (by (simp only [Act.put, List.setIfInBounds_toArray, List.set_cons_zero, List.set_cons_succ]; rfl)) ?_
        refine nextI [6] (by kernel_rfl) (by simp) ?_
        intro i_ hi_
        simp only [List.mem_cons, List.not_mem_nil, or_false] at hi_
        subst hi_
        refine callI (R := fun v w' => v = .int .i64 (numF zs t q) ∧ Below wd.heap.size wd w') (some 57) #[true, true, true, true, true, true, true, true, false, false, false] (by rfl) (by rfl) (by kernel_rfl) (by kernel_rfl) (by simp only [List.getElem_toArray, List.getElem_cons_succ, List.getElem_cons_zero]; go_simp) ((num_calls A0 cap0 len0 A1 cap1 zs t q wd hCd hlen hlen2).mono (fun e w' he => ⟨_, he.1, rfl, he.2⟩)) ?_
        rintro v w4 ⟨rfl, hb4⟩
        simp only [Act.put, List.setIfInBounds_toArray, List.set_cons_zero, List.set_cons_succ]
        obtain ⟨fx0, fx1, fx2, fx3, fx4⟩ := hxs w4 hb4
        refine nextI [8] (by kernel_rfl) (by simp) ?_
        intro i_ hi_
        simp only [List.mem_cons, List.not_mem_nil, or_false] at hi_
        subst hi_
        obtain ⟨fn, tmps, assign, body, hy, hR⟩ := hY _ (numF zs t q, x) w4 (hJ _ _ _ none hJd (grown_of_below hb4 none) (fun r e => by cases e)) hpl
        dsimp only at hy
        refine yieldI (R := fun v w' => (v = .bool true ∧ J (pendK l m zs t i ++ [(numF zs t q, x)]) w' ∧ Kpt ok w4 w') ∨ (v = .bool false ∧ Jx (pendK l m zs t i ++ [(numF zs t q, x)]) w')) (some 59) #[true, true, true, true, true, true, true, true, true, false, false] (by rfl) (by rfl) (by kernel_rfl) (by kernel_rfl) (by simp only [List.getElem_toArray, List.getElem_cons_succ, List.getElem_cons_zero]; go_simp) (hR.mono (fun e w' he => by rcases he with ⟨rfl, h⟩ | ⟨rfl, h⟩; exact ⟨_, rfl, .inl ⟨rfl, h⟩⟩; exact ⟨_, rfl, .inr ⟨rfl, h⟩⟩)) ?_
        rintro v w5 (⟨rfl, hJ5, hb5⟩ | ⟨rfl, hJ5⟩)
        ·
         simp only [Act.put, List.setIfInBounds_toArray, List.set_cons_zero, List.set_cons_succ]
         refine nextI [9] (by kernel_rfl) (by simp) ?_
         intro i_ hi_
         simp only [List.mem_cons, List.not_mem_nil, or_false] at hi_
         subst hi_
         refine valI (v := .bool false) (some 60) #[true, true, true, true, true, true, true, true, true, true, false] (by rfl) (by rfl) (by kernel_rfl) (by kernel_rfl) (by simp only [List.getElem_toArray, List.getElem_cons_succ, List.getElem_cons_zero]; go_simp) (a' := ?_) (by (simp only [Act.put, List.setIfInBounds_toArray, List.set_cons_zero, List.set_cons_succ]; rfl)) ?_
         refine nextI [10] (by kernel_rfl) (by simp) ?_
         intro i_ hi_
         simp only [List.mem_cons, List.not_mem_nil, or_false] at hi_
         subst hi_
         refine valI (v := .bool false) (some 61) #[true, true, true, true, true, true, true, true, true, true, true] (by rfl) (by rfl) (by kernel_rfl) (by kernel_rfl) (by simp only [List.getElem_toArray, List.getElem_cons_succ, List.getElem_cons_zero]; go_simp) (a' := ?_) (by (simp only [Act.put, List.setIfInBounds_toArray, List.set_cons_zero, List.set_cons_succ]; rfl)) ?_
         refine wpAnyIn_done (by kernel_rfl) ?_ _
         gi_wp2
         go_roundw
         case rel => exact ⟨i + 1, by have := HLT.out; omega, by have h_ := HQ.out; first | (simp; done) | (simp; omega) | (rw [h_]; simp), by rw [hsucc]; exact hJ5, h5 _ _ hb4 hb5⟩
         case measure => have := HLT.out; have := HQ.out; simp [intOf]; omega
        ·
         simp only [Act.put, List.setIfInBounds_toArray, List.set_cons_zero, List.set_cons_succ]
         refine nextI [9] (by kernel_rfl) (by simp) ?_
         intro i_ hi_
         simp only [List.mem_cons, List.not_mem_nil, or_false] at hi_
         subst hi_
         refine valI (v := .bool true) (some 60) #[true, true, true, true, true, true, true, true, true, true, false] (by rfl) (by rfl) (by kernel_rfl) (by kernel_rfl) (by simp only [List.getElem_toArray, List.getElem_cons_succ, List.getElem_cons_zero]; go_simp) (a' := ?_) (by (simp only [Act.put, List.setIfInBounds_toArray, List.set_cons_zero, List.set_cons_succ]; rfl)) ?_
         refine nextI [10] (by kernel_rfl) (by simp) ?_
         intro i_ hi_
         simp only [List.mem_cons, List.not_mem_nil, or_false] at hi_
         subst hi_
         refine valI (v := .bool true) (some 61) #[true, true, true, true, true, true, true, true, true, true, true] (by rfl) (by rfl) (by kernel_rfl) (by kernel_rfl) (by simp only [List.getElem_toArray, List.getElem_cons_succ, List.getElem_cons_zero]; go_simp) (a' := ?_) (by (simp only [Act.put, List.setIfInBounds_toArray, List.set_cons_zero, List.set_cons_succ]; rfl)) ?_
         refine wpAnyIn_done (by kernel_rfl) ?_ _
         gi_wp2
         refine bodyPost_ret (results_none rfl _ _ _) rfl ?_
         exact ⟨⟨_, rfl⟩, .inr ⟨_, hpre, hJ5⟩⟩
      ·
       refine valI (v := .agg #[.int .i64 x.f0, .int .i64 x.f1, .int .i64 x.f2, .int .i64 x.f3, .int .i64 x.f4]) (some 58) #[true, true, true, false, false, true, false, true, false, false, false] (by rfl) (by rfl) (by kernel_rfl) (by kernel_rfl) (by simp only [List.getElem_toArray, List.getElem_cons_succ, List.getElem_cons_zero]; go_simp) (a' := ?_) (by (simp only [Act.put, List.setIfInBounds_toArray, List.set_cons_zero, List.set_cons_succ]; rfl)) ?_
       refine nextI [3, 4] (by kernel_rfl) (by simp) ?_
       intro i_ hi_
       simp only [List.mem_cons, List.not_mem_nil, or_false] at hi_
       rcases hi_ with rfl | rfl
       ·
        refine valI (v := .agg #[.slice A0 len0 cap0, .slice A1 zs.length cap1]) (some 54) #[true, true, true, true, false, true, false, true, false, false, false] (by rfl) (by rfl) (by kernel_rfl) (by kernel_rfl) (by simp only [List.getElem_toArray, List.getElem_cons_succ, List.getElem_cons_zero]; go_simp) (a' := ?_) (by (simp only [Act.put, List.setIfInBounds_toArray, List.set_cons_zero, List.set_cons_succ]; rfl)) ?_
        refine nextI [4] (by kernel_rfl) (by simp) ?_
        intro i_ hi_
        simp only [List.mem_cons, List.not_mem_nil, or_false] at hi_
        subst hi_
        refine valI (v := .int .i64 t) (some 55) #[true, true, true, true, true, true, false, true, false, false, false] (by rfl) (by rfl) (by kernel_rfl) (by kernel_rfl) (by simp only [List.getElem_toArray, List.getElem_cons_succ, List.getElem_cons_zero]; go_simp) (a' := ?_) (by (simp only [Act.put, List.setIfInBounds_toArray, List.set_cons_zero, List.set_cons_succ]; rfl)) ?_
        refine nextI [6] (by kernel_rfl) (by simp) ?_
        intro i_ hi_
        simp only [List.mem_cons, List.not_mem_nil, or_false] at hi_
        subst hi_
        refine callI (R := fun v w' => v = .int .i64 (numF zs t q) ∧ Below wd.heap.size wd w') (some 57) #[true, true, true, true, true, true, true, true, false, false, false] (by rfl) (by rfl) (by kernel_rfl) (by kernel_rfl) (by simp only [List.getElem_toArray, List.getElem_cons_succ, List.getElem_cons_zero]; go_simp) ((num_calls A0 cap0 len0 A1 cap1 zs t q wd hCd hlen hlen2).mono (fun e w' he => ⟨_, he.1, rfl, he.2⟩)) ?_
        rintro v w4 ⟨rfl, hb4⟩
        simp only [Act.put, List.setIfInBounds_toArray, List.set_cons_zero, List.set_cons_succ]
        obtain ⟨fx0, fx1, fx2, fx3, fx4⟩ := hxs w4 hb4
        refine nextI [8] (by kernel_rfl) (by simp) ?_
        intro i_ hi_
        simp only [List.mem_cons, List.not_mem_nil, or_false] at hi_
        subst hi_
        obtain ⟨fn, tmps, assign, body, hy, hR⟩ := hY _ (numF zs t q, x) w4 (hJ _ _ _ none hJd (grown_of_below hb4 none) (fun r e => by cases e)) hpl
        dsimp only at hy
        refine yieldI (R := fun v w' => (v = .bool true ∧ J (pendK l m zs t i ++ [(numF zs t q, x)]) w' ∧ Kpt ok w4 w') ∨ (v = .bool false ∧ Jx (pendK l m zs t i ++ [(numF zs t q, x)]) w')) (some 59) #[true, true, true, true, true, true, true, true, true, false, false] (by rfl) (by rfl) (by kernel_rfl) (by kernel_rfl) (by simp only [List.getElem_toArray, List.getElem_cons_succ, List.getElem_cons_zero]; go_simp) (hR.mono (fun e w' he => by rcases he with ⟨rfl, h⟩ | ⟨rfl, h⟩; exact ⟨_, rfl, .inl ⟨rfl, h⟩⟩; exact ⟨_, rfl, .inr ⟨rfl, h⟩⟩)) ?_
        rintro v w5 (⟨rfl, hJ5, hb5⟩ | ⟨rfl, hJ5⟩)
        ·
         simp only [Act.put, List.setIfInBounds_toArray, List.set_cons_zero, List.set_cons_succ]
         refine nextI [9] (by kernel_rfl) (by simp) ?_
         intro i_ hi_
         simp only [List.mem_cons, List.not_mem_nil, or_false] at hi_
         subst hi_
         refine valI (v := .bool false) (some 60) #[true, true, true, true, true, true, true, true, true, true, false] (by rfl) (by rfl) (by kernel_rfl) (by kernel_rfl) (by simp only [List.getElem_toArray, List.getElem_cons_succ, List.getElem_cons_zero]; go_simp) (a' := ?_) (by (simp only [Act.put, List.setIfInBounds_toArray, List.set_cons_zero, List.set_cons_succ]; rfl)) ?_
         refine nextI [10] (by kernel_rfl) (by simp) ?_
         intro i_ hi_
         simp only [List.mem_cons, List.not_mem_nil, or_false] at hi_
         subst hi_
         refine valI (v := .bool false) (some 61) #[true, true, true, true, true, true, true, true, true, true, true] (by rfl) (by rfl) (by kernel_rfl) (by kernel_rfl) (by simp only [List.getElem_toArray, List.getElem_cons_succ, List.getElem_cons_zero]; go_simp) (a' := ?_) (by (simp only [Act.put, List.setIfInBounds_toArray, List.set_cons_zero, List.set_cons_succ]; rfl)) ?_
         refine wpAnyIn_done (by kernel_rfl) ?_ _
         gi_wp2
         go_roundw
         case rel => exact ⟨i + 1, by have := HLT.out; omega, by have h_ := HQ.out; first | (simp; done) | (simp; omega) | (rw [h_]; simp), by rw [hsucc]; exact hJ5, h5 _ _ hb4 hb5⟩
         case measure => have := HLT.out; have := HQ.out; simp [intOf]; omega
        ·
         simp only [Act.put, List.setIfInBounds_toArray, List.set_cons_zero, List.set_cons_succ]
         refine nextI [9] (by kernel_rfl) (by simp) ?_
         intro i_ hi_
         simp only [List.mem_cons, List.not_mem_nil, or_false] at hi_
         subst hi_
         refine valI (v := .bool true) (some 60) #[true, true, true, true, true, true, true, true, true, true, false] (by rfl) (by rfl) (by kernel_rfl) (by kernel_rfl) (by simp only [List.getElem_toArray, List.getElem_cons_succ, List.getElem_cons_zero]; go_simp) (a' := ?_) (by (simp only [Act.put, List.setIfInBounds_toArray, List.set_cons_zero, List.set_cons_succ]; rfl)) ?_
         refine nextI [10] (by kernel_rfl) (by simp) ?_
         intro i_ hi_
         simp only [List.mem_cons, List.not_mem_nil, or_false] at hi_
         subst hi_
         refine valI (v := .bool true) (some 61) #[true, true, true, true, true, true, true, true, true, true, true] (by rfl) (by rfl) (by kernel_rfl) (by kernel_rfl) (by simp only [List.getElem_toArray, List.getElem_cons_succ, List.getElem_cons_zero]; go_simp) (a' := ?_) (by (simp only [Act.put, List.setIfInBounds_toArray, List.set_cons_zero, List.set_cons_succ]; rfl)) ?_
         refine wpAnyIn_done (by kernel_rfl) ?_ _
         gi_wp2
         refine bodyPost_ret (results_none rfl _ _ _) rfl ?_
         exact ⟨⟨_, rfl⟩, .inr ⟨_, hpre, hJ5⟩⟩
       ·
        refine valI (v := .int .i64 t) (some 55) #[true, true, true, false, true, true, false, true, false, false, false] (by rfl) (by rfl) (by kernel_rfl) (by kernel_rfl) (by simp only [List.getElem_toArray, List.getElem_cons_succ, List.getElem_cons_zero]; go_simp) (a' := ?_) (by (simp only [Act.put, List.setIfInBounds_toArray, List.set_cons_zero, List.set_cons_succ]; rfl)) ?_
        refine nextI [3] (by kernel_rfl) (by simp) ?_
        intro i_ hi_
        simp only [List.mem_cons, List.not_mem_nil, or_false] at hi_
        subst hi_
        refine valI (v := .agg #[.slice A0 len0 cap0, .slice A1 zs.length cap1]) (some 54) #[true, true, true, true, true, true, false, true, false, false, false] (by rfl) (by rfl) (by kernel_rfl) (by kernel_rfl) (by simp only [List.getElem_toArray, List.getElem_cons_succ, List.getElem_cons_zero]; go_simp) (a' := ?_) (by (simp only [Act.put, List.setIfInBounds_toArray, List.set_cons_zero, List.set_cons_succ]; rfl)) ?_
        refine nextI [6] (by kernel_rfl) (by simp) ?_
        intro i_ hi_
        simp only [List.mem_cons, List.not_mem_nil, or_false] at hi_
        subst hi_
        refine callI (R := fun v w' => v = .int .i64 (numF zs t q) ∧ Below wd.heap.size wd w') (some 57) #[true, true, true, true, true, true, true, true, false, false, false] (by rfl) (by rfl) (by kernel_rfl) (by kernel_rfl) (by simp only [List.getElem_toArray, List.getElem_cons_succ, List.getElem_cons_zero]; go_simp) ((num_calls A0 cap0 len0 A1 cap1 zs t q wd hCd hlen hlen2).mono (fun e w' he => ⟨_, he.1, rfl, he.2⟩)) ?_
        rintro v w4 ⟨rfl, hb4⟩
        simp only [Act.put, List.setIfInBounds_toArray, List.set_cons_zero, List.set_cons_succ]
        obtain ⟨fx0, fx1, fx2, fx3, fx4⟩ := hxs w4 hb4
        refine nextI [8] (by kernel_rfl) (by simp) ?_
        intro i_ hi_
        simp only [List.mem_cons, List.not_mem_nil, or_false] at hi_
        subst hi_
        obtain ⟨fn, tmps, assign, body, hy, hR⟩ := hY _ (numF zs t q, x) w4 (hJ _ _ _ none hJd (grown_of_below hb4 none) (fun r e => by cases e)) hpl
        dsimp only at hy
        refine yieldI (R := fun v w' => (v = .bool true ∧ J (pendK l m zs t i ++ [(numF zs t q, x)]) w' ∧ Kpt ok w4 w') ∨ (v = .bool false ∧ Jx (pendK l m zs t i ++ [(numF zs t q, x)]) w')) (some 59) #[true, true, true, true, true, true, true, true, true, false, false] (by rfl) (by rfl) (by kernel_rfl) (by kernel_rfl) (by simp only [List.getElem_toArray, List.getElem_cons_succ, List.getElem_cons_zero]; go_simp) (hR.mono (fun e w' he => by rcases he with ⟨rfl, h⟩ | ⟨rfl, h⟩; exact ⟨_, rfl, .inl ⟨rfl, h⟩⟩; exact ⟨_, rfl, .inr ⟨rfl, h⟩⟩)) ?_
        rintro v w5 (⟨rfl, hJ5, hb5⟩ | ⟨rfl, hJ5⟩)
        ·
         simp only [Act.put, List.setIfInBounds_toArray, List.set_cons_zero, List.set_cons_succ]
         refine nextI [9] (by kernel_rfl) (by simp) ?_
         intro i_ hi_
         simp only [List.mem_cons, List.not_mem_nil, or_false] at hi_
         subst hi_
         refine valI (v := .bool false) (some 60) #[true, true, true, true, true, true, true, true, true, true, false] (by rfl) (by rfl) (by kernel_rfl) (by kernel_rfl) (by simp only [List.getElem_toArray, List.getElem_cons_succ, List.getElem_cons_zero]; go_simp) (a' := ?_) (by (simp only [Act.put, List.setIfInBounds_toArray, List.set_cons_zero, List.set_cons_succ]; rfl)) ?_
         refine nextI [10] (by kernel_rfl) (by simp) ?_
         intro i_ hi_
         simp only [List.mem_cons, List.not_mem_nil, or_false] at hi_
         subst hi_
         refine valI (v := .bool false) (some 61) #[true, true, true, true, true, true, true, true, true, true, true] (by rfl) (by rfl) (by kernel_rfl) (by kernel_rfl) (by simp only [List.getElem_toArray, List.getElem_cons_succ, List.getElem_cons_zero]; go_simp) (a' := ?_) (by (simp only [Act.put, List.setIfInBounds_toArray, List.set_cons_zero, List.set_cons_succ]; rfl)) ?_
         refine wpAnyIn_done (by kernel_rfl) ?_ _
         gi_wp2
         go_roundw
         case rel => exact ⟨i + 1, by have := HLT.out; omega, by have h_ := HQ.out; first | (simp; done) | (simp; omega) | (rw [h_]; simp), by rw [hsucc]; exact hJ5, h5 _ _ hb4 hb5⟩
         case measure => have := HLT.out; have := HQ.out; simp [intOf]; omega
        ·
         simp only [Act.put, List.setIfInBounds_toArray, List.set_cons_zero, List.set_cons_succ]
         refine nextI [9] (by kernel_rfl) (by simp) ?_
         intro i_ hi_
         simp only [List.mem_cons, List.not_mem_nil, or_false] at hi_
         subst hi_
         refine valI (v := .bool true) (some 60) #[true, true, true, true, true, true, true, true, true, true, false] (by rfl) (by rfl) (by kernel_rfl) (by kernel_rfl) (by simp only [List.getElem_toArray, List.getElem_cons_succ, List.getElem_cons_zero]; go_simp) (a' := ?_) (by (simp only [Act.put, List.setIfInBounds_toArray, List.set_cons_zero, List.set_cons_succ]; rfl)) ?_
         refine nextI [10] (by kernel_rfl) (by simp) ?_
         intro i_ hi_
         simp only [List.mem_cons, List.not_mem_nil, or_false] at hi_
         subst hi_
         refine valI (v := .bool true) (some 61) #[true, true, true, true, true, true, true, true, true, true, true] (by rfl) (by rfl) (by kernel_rfl) (by kernel_rfl) (by simp only [List.getElem_toArray, List.getElem_cons_succ, List.getElem_cons_zero]; go_simp) (a' := ?_) (by (simp only [Act.put, List.setIfInBounds_toArray, List.set_cons_zero, List.set_cons_succ]; rfl)) ?_
         refine wpAnyIn_done (by kernel_rfl) ?_ _
         gi_wp2
         refine bodyPost_ret (results_none rfl _ _ _) rfl ?_
         exact ⟨⟨_, rfl⟩, .inr ⟨_, hpre, hJ5⟩⟩
  ·obtain rfl : k = l.length := by omega
   gi_wp2
   go_end0
   exact ⟨⟨_, rfl⟩, .inl ⟨_, rfl, hJs⟩⟩
end Go.Proofs.Ytphklaajolpieaa.Print
