/- slots.all: the contract of its closure, for bodies that write blocks of their own. -/
import Derived.Test.YtijpfonbeepmfaaHSlotsAll
import Derived.Test.YtijpfonbeepmfaaHSlotsNum
namespace Go.Proofs.Ytijpfonbeepmfaa.Print
open Go.RowKit Go.Shelf Go.Proofs.YtijpfonbeepmfaaW.PrintWords Go.Proofs.YtijpfonbeepmfaaW.PrintLast Go.Proofs.YtijpfonbeepmfaaW.PrintMore
set_option linter.unusedVariables false
set_option linter.unusedSimpArgs false
attribute [local go_sem] Oper.semAt_some
structure Kpt (ok : Nat → Prop) (W W' : World) : Prop where
 size : W.heap.size ≤ W'.heap.size
 same : ∀ k, ok k → k < W.heap.size → W'.heap[k]? = W.heap[k]?
theorem Kpt.refl (ok : Nat → Prop) (W : World) : Kpt ok W W := ⟨Nat.le_refl _, fun _ _ _ => rfl⟩
theorem Kpt.trans {ok : Nat → Prop} {A B C : World} (h : Kpt ok A B) (k : Kpt ok B C) : Kpt ok A C := ⟨Nat.le_trans h.size k.size, fun i hi hl => (k.same i hi (Nat.lt_of_lt_of_le hl h.size)).trans (h.same i hi hl)⟩
theorem Kpt.of_below {ok : Nat → Prop} {W W' : World} (h : Below W.heap.size W W') : Kpt ok W W' := ⟨h.size, fun k _ hl => h.block k hl⟩
theorem Kpt.alloc (ok : Nat → Prop) (W : World) (o : Obj) : Kpt ok W (W.alloc o) := Kpt.of_below (below_alloc (Below.refl _ _) _)
theorem Kpt.cell_ {ok : Nat → Prop} {W W' : World} (h : Kpt ok W W') {B o : Nat} {v : Value} (hB : ok B) (hc : W.cell? ⟨B, o, none⟩ = some v) : W'.cell? ⟨B, o, none⟩ = some v := by
 have hl : B < W.heap.size := by
  unfold World.cell? at hc
  cases hh : W.heap[B]? with
  | none => simp [hh] at hc
  | some x => exact (Array.getElem?_eq_some_iff.1 hh).1
 rw [← hc]
 exact World.cell?_of_block (h.same B hB hl)
set_option maxRecDepth 100000 in
set_option maxHeartbeats 2000000 in
/-- The closure: for every loop body that keeps what lay below n₀. -/
theorem all_stopsK (m : Nat) (w0 : World) (A0 A : Option Addr) (len0 cap0 cap Bs : Nat) (ok : Nat → Prop) (zs : List (List S53)) (hlen : tot zs ≤ 1000000) (hlen2 : zs.length ≤ 1000000) (fC : ∀ W, Kpt ok w0 W → Kd.C (Kd.slice 53 k53) W A zs.length zs) (hBs : ok Bs)
 (hc0 : w0.cell? ⟨Bs, 0, none⟩ = some (.slice A0 len0 cap0)) (hc : w0.cell? ⟨Bs, 1, none⟩ = some (.slice A zs.length cap)) :
 SeqStopsK Fence.wide (m + 1) Try.prog 49 #[.pointer (some ⟨Bs, 0, none⟩)] (fun x : Int × Int × Int => #[Value.int .i64 x.1, .agg #[.int .i64 x.2.1, .int .i64 x.2.2]]) (Kpt ok) (fun ys => ys = slotsFrom 0 0 zs)
  (fun pre => pre <+: slotsFrom 0 0 zs) (tot zs + 1) w0 := fun l J Jx W hW _ _ hY h0 => by
 have hW0 : Kpt ok w0 W := Kpt.of_below hW
 have hcW := hW0.cell_ hBs hc
 have hu := Try.underlying25
 refine callsIn_of_wp Try.func49 rfl trivial ?_ rfl
 simp only [Try.ntmps49, List.size_toArray, List.length_cons, List.length_nil, Nat.reduceAdd, Nat.reduceSub, Array.replicate_succ, Array.replicate_zero, List.push_toArray, List.append_toArray, List.nil_append, List.cons_append]
 gi_wp2
 gi_loopw [3, 10] (fun v3 v10 wr => ∃ done rest : List (List S53), zs = done ++ rest ∧ v3 = .int .i64 (tot done : Int) ∧ v10 = .int .i64 (done.length : Int) ∧ J (slotsFrom 0 0 done) wr ∧ Kpt ok W wr)
  (fun _ v10 _ => zs.length - (intOf v10).toNat)
 case atStart => exact ⟨[], zs, rfl, rfl, rfl, h0, Kpt.refl _ _⟩
 case round =>
  obtain ⟨done, rest, hz, rfl, rfl, hJs, hnx⟩ := hrel
  cases rest with
  | nil =>
   rw [List.append_nil] at hz
   subst hz
   gi_wp2
   go_end0
   exact ⟨⟨_, rfl⟩, .inl ⟨_, rfl, hJs⟩⟩
  | cons row rest =>
   have h1 : done.length < zs.length := by rw [hz]; simp
   have hCr : Kd.C (Kd.slice 53 k53) wr A zs.length zs := fC _ (hW0.trans hnx)
   obtain ⟨t, et⟩ : ∃ t : Int, t = (done.length : Int) := ⟨_, rfl⟩
   obtain ⟨nn, en⟩ : ∃ t : Int, t = (tot done : Int) := ⟨_, rfl⟩
   rw [← et, ← en]
   obtain ⟨ad, Ar, cr, rfl, x0, _, _⟩ := at_L3 hCr t (by omega) (by omega)
   have erow : rd_L3 zs t = row := by rw [et, hz]; unfold rd_L3; simp
   rw [erow] at x0
   have p1 : (0 ≤ t) = True := eq_true (by omega)
   have q1 : (t < (zs.length : Int)) = True := eq_true (by omega)
   have HZ := Aside0.mk hz
   have htt : tot zs = tot done + (row.length + tot rest) := by rw [hz, tot_append]; rfl
   have HT := Aside0.mk htt
   have HL := Aside0.mk hlen
   have HL2 := Aside0.mk hlen2
   have s0 : t + 1 ≤ 9223372036854775807 := by omega
   have s00 : -9223372036854775808 ≤ t + 1 := by omega
   have H1 := Aside0.mk h1
   have ET := Aside0.mk et
   have EN := Aside0.mk en
   clear hz erow htt h1 et en hlen hlen2
   gi_wp2
   gi_loopw [3, 17] (fun v3 v17 wr2 => ∃ k : Nat, k ≤ row.length ∧ v3 = .int .i64 (nn + (k : Int)) ∧ v17 = .int .i64 (k : Int) ∧ J (slotsFrom 0 0 done ++ slotRow t nn k) wr2 ∧ Kpt ok W wr2)
    (fun _ v17 _ => row.length - (intOf v17).toNat)
   case atStart => exact ⟨0, Nat.zero_le _, by simp, by simp, by simpa [slotRow] using hJs, hnx⟩
   case round =>
    obtain ⟨k, hk, rfl, rfl, hJ2, hn2⟩ := hrel
    by_cases hlt : k < row.length
    ·have b1 : nn + (k : Int) + 1 ≤ 9223372036854775807 := by have := HT.out; have := HL.out; have := EN.out; omega
     have b10 : -9223372036854775808 ≤ nn + (k : Int) + 1 := by have := EN.out; omega
     have b2 : (k : Int) + 1 ≤ 9223372036854775807 := by have := HT.out; have := HL.out; omega
     obtain ⟨fn, tmps, assign, body, hy, hR⟩ := hY _ (nn + (k : Int), t, (k : Int)) _ hJ2 (by rw [List.length_append, slotsFrom_length, slotRow_length]; have := HT.out; omega)
     dsimp only at hy
     have hk' : ((k : Int) < (row.length : Int)) = True := eq_true (by omega)
     have HLT := Aside0.mk hlt
     clear hlt hk
     gi_wp2
     refine hR.mono ?_
     rintro e W3 (⟨rfl, hJ3, hk3⟩ | ⟨rfl, hJx3⟩)
     ·gi_wp2
      go_roundw
      case rel => exact ⟨k + 1, by have := HLT.out; omega, by simp; omega, by simp, by rw [slotRow_succ, ← List.append_assoc]; exact hJ3, hn2.trans hk3⟩
      case measure => have := HLT.out; simp [intOf]; omega
     ·gi_wp2
      refine bodyPost_ret (results_none rfl _ _ _) rfl ?_
      refine ⟨⟨_, rfl⟩, .inr ⟨_, ?_, hJx3⟩⟩
      have e1 : slotsFrom 0 0 zs = slotsFrom 0 0 done ++ slotsFrom t nn (row :: rest) := by rw [HZ.out, slotsFrom_append, ET.out, EN.out]; simp
      rw [e1, List.append_assoc]
      refine (List.prefix_append_right_inj _).2 ?_
      rw [← slotRow_succ]
      refine List.IsPrefix.trans ?_ (List.prefix_append _ _)
      unfold slotRow
      have := HLT.out
      exact ⟨((List.range row.length).drop (k + 1)).map _, by rw [← List.map_append, show List.range (k + 1) = (List.range row.length).take (k + 1) by rw [List.take_range, Nat.min_eq_left (by omega)], List.take_append_drop]⟩
    ·obtain rfl : k = row.length := by omega
     gi_wp2
     go_roundw
     case rel => exact ⟨done ++ [row], rest, by rw [HZ.out]; simp, by rw [tot_append]; simp [tot, EN.out], by simp [ET.out], by rw [slotsFrom_append]; simpa [slotsFrom, ET.out, EN.out] using hJ2, hn2⟩
     case measure => have := H1.out; have := ET.out; simp [intOf]; omega
end Go.Proofs.Ytijpfonbeepmfaa.Print
