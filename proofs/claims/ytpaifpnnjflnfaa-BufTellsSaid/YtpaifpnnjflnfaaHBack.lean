/- slices.Backward at a row of writes: the contract of its closure, by walking the library's text. -/
import Derived.RangeFuncNested
import Derived.RangeFuncBound
import Derived.RangeFuncCalls
import Derived.RangeFuncLeaves
import Derived.Shelf.Abstract
import Derived.WalkKit
import Derived.OwnWalkIn
import Derived.TacticsInMore
import Derived.LoopNIn
import Derived.LoopIn
import Derived.Test.YtpaifpnnjflnfaaPrint0
namespace Go.Proofs.Ytpaifpnnjflnfaa.Print
open Go.RowKit Go.Shelf Go.Proofs.YtpaifpnnjflnfaaW.PrintWords Go.Proofs.YtpaifpnnjflnfaaW.PrintLast Go.Proofs.YtpaifpnnjflnfaaW.PrintMore
set_option linter.unusedVariables false
set_option linter.unusedSimpArgs false
attribute [local go_sem] Oper.semAt_some

/-- What has come, k rounds being over: the last k, the last one first. -/
def backs (zs : List S51) (k : Nat) : List (Int × S51) := (List.range k).map fun (j : Nat) => ((zs.length : Int) - 1 - (j : Int), rd_T51 zs ((zs.length : Int) - 1 - (j : Int)))
theorem backs_succ (zs : List S51) (k : Nat) : backs zs (k + 1) = backs zs k ++ [((zs.length : Int) - 1 - (k : Int), rd_T51 zs ((zs.length : Int) - 1 - (k : Int)))] := by simp [backs, List.range_succ]
theorem backs_length (zs : List S51) (k : Nat) : (backs zs k).length = k := by simp [backs]

set_option maxRecDepth 100000 in
set_option maxHeartbeats 2000000 in
/-- The closure: for every loop body that keeps what lay below n₀. -/
theorem back_stops (m : Nat) (w w0 : World) (A : Option Addr) (cap Bs n₀ : Nat) (zs : List S51) (hlen : zs.length ≤ 1000000) (hC : Kd.C k51 w A zs.length zs) (hww : Below w.heap.size w w0) (hn0 : w.heap.size ≤ n₀) (hBs : Bs < n₀) (hn1 : n₀ ≤ w0.heap.size)
    (hc : w0.cell? ⟨Bs, 0, none⟩ = some (.slice A zs.length cap)) :
    SeqStopsK Fence.wide (m + 1) Try.prog 64 #[.pointer (some ⟨Bs, 0, none⟩)] (fun x : Int × S51 => #[Value.int .i64 x.1, .agg #[.int .i64 x.2.f0, .int .i64 x.2.f1]]) (Below n₀) (fun ys => ys = backs zs zs.length)
      (fun pre => ∃ k, k ≤ zs.length ∧ pre = backs zs k) zs.length w0 := fun l J Jx W hW _ _ hY h0 => by
  have hW0 : Below n₀ w0 W := hW.mono hn1
  have hcW := (hW0.cell (p := ⟨Bs, 0, none⟩) hBs).trans hc
  have hu := Try.underlying51
  refine callsIn_of_wp Try.func64 rfl trivial ?_ rfl
  simp only [Try.ntmps64, List.size_toArray, List.length_cons, List.length_nil, Nat.reduceAdd, Nat.reduceSub, Array.replicate_succ, Array.replicate_zero, List.push_toArray, List.append_toArray, List.nil_append, List.cons_append]
  gi_wp2
  gi_loopw [3] (fun i wr => ∃ k : Nat, k ≤ zs.length ∧ i = .int .i64 ((zs.length : Int) - 1 - (k : Int)) ∧ J (backs zs k) wr ∧ Below n₀ W wr)
    (fun i _ => ((intOf i) + 1).toNat)
  case atStart => exact ⟨0, Nat.zero_le _, by simp, h0, Below.refl _ _⟩
  case round =>
    obtain ⟨k, hk, rfl, hJs, hnx⟩ := hrel
    clear h0
    have hcr := (hnx.cell (p := ⟨Bs, 0, none⟩) hBs).trans hcW
    obtain ⟨i, hi⟩ : ∃ i : Int, i = (zs.length : Int) - 1 - (k : Int) := ⟨_, rfl⟩
    rw [← hi]
    by_cases hlt : k < zs.length
    · obtain ⟨fn, tmps, assign, body, hy, hR⟩ := hY _ (i, rd_T51 zs i) wr hJs (by rw [backs_length]; exact hlt)
      dsimp only at hy
      have hCr : Kd.C k51 wr A zs.length zs := Kd.C_below hC ((hww.trans (hW.mono hww.size)).trans (hnx.mono hn0))
      obtain ⟨ad, rfl, x0, x1⟩ := at_T51 hCr i (by omega) (by omega)
      have hsucc := backs_succ zs k
      rw [← hi] at hsucc
      generalize rd_T51 zs i = x at x0 x1 hy hR hsucc ⊢
      have p1 : (0 ≤ i) = True := eq_true (by omega)
      have q1 : (i < (zs.length : Int)) = True := eq_true (by omega)
      have s1 : i - 1 ≤ 9223372036854775807 := by omega
      have s0 : -9223372036854775808 ≤ i - 1 := by omega
      have HI := Aside0.mk hi
      have HK := Aside0.mk hlt
      clear hi hlt hk
      gi_wp2
      refine hR.mono ?_
      rintro e W3 (⟨rfl, hJ3, hk3⟩ | ⟨rfl, hJx3⟩)
      · gi_wp2
        go_roundw
        case rel => exact ⟨k + 1, by have := HK.out; omega, by have := HI.out; simp; omega, by rw [hsucc]; exact hJ3, hnx.trans hk3⟩
        case measure => have := HI.out; have := HK.out; simp [intOf]; omega
      · gi_wp2
        refine bodyPost_ret (results_none rfl _ _ _) rfl ?_
        exact ⟨⟨_, rfl⟩, .inr ⟨_, ⟨k + 1, by have := HK.out; omega, hsucc.symm⟩, hJx3⟩⟩
    · obtain rfl : k = zs.length := by omega
      have p1 : (0 ≤ i) = False := eq_false (by omega)
      clear hi
      gi_wp2
      go_end0
      exact ⟨⟨_, rfl⟩, .inl ⟨_, rfl, hJs⟩⟩
end Go.Proofs.Ytpaifpnnjflnfaa.Print
