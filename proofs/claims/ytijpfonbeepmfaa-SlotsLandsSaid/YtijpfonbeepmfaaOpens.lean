-- Written by ownprint.py (this session's) with the kit's print.py: functions, contracts, rows; Lean checks it.
import Derived.Test.YtijpfonbeepmfaaHOpen
namespace Go.Proofs.Ytijpfonbeepmfaa.Print
open Go.RowKit Go.ChangeShapes Go.WideShapes Go.Deep Go.Proofs.YtijpfonbeepmfaaW.PrintWords Go.Proofs.YtijpfonbeepmfaaW.PrintLast Go.Proofs.YtijpfonbeepmfaaW.PrintMore
set_option linter.unusedVariables false
/-- A good value of struct type 53. -/
structure ok53 (x : S53) : Prop where
 g0 : (fun x : Int => (Lit.int .i64 x).wf = true) x.f0
 g1 : (fun x : Int => (Lit.int .i64 x).wf = true) x.f1
 g2 : (fun x : Int => (Lit.int .i64 x).wf = true) x.f2
 g3 : (fun x : Int => (Lit.int .i64 x).wf = true) x.f3
 g4 : (fun x : Int => (Lit.int .i64 x).wf = true) x.f4
theorem opens53 : Opens Try.prog k53 53 ok53 := by
 refine ⟨by kernel_rfl, fun {H enc w base spare held fuel cs x} h => ?_⟩
 obtain ⟨xs, n, _, _, hl, hlen, hf⟩ := DataW.trod_struct Try.underlying53 h
 have hc : Try.prog.cellsOf 53 = 5 := by kernel_rfl
 rw [hc] at hl
 have hlen' : xs.length = 5 := hlen
 obtain ⟨a0, k0, g0⟩ := field_op (off := 0) (opens_int (by kernel_rfl) Try.underlying3) (seg (hf 0 _ rfl) (by omega))
 obtain ⟨a1, k1, g1⟩ := field_op (off := 1) (opens_int (by kernel_rfl) Try.underlying3) (seg (hf 1 _ rfl) (by omega))
 obtain ⟨a2, k2, g2⟩ := field_op (off := 2) (opens_int (by kernel_rfl) Try.underlying3) (seg (hf 2 _ rfl) (by omega))
 obtain ⟨a3, k3, g3⟩ := field_op (off := 3) (opens_int (by kernel_rfl) Try.underlying3) (seg (hf 3 _ rfl) (by omega))
 obtain ⟨a4, k4, g4⟩ := field_op (off := 4) (opens_int (by kernel_rfl) Try.underlying3) (seg (hf 4 _ rfl) (by omega))
 refine ⟨⟨a0, a1, a2, a3, a4⟩, ?_, ⟨g0, g1, g2, g3, g4⟩⟩
 exact (show (Kd.pair (Kd.int .i64) (Kd.pair (Kd.int .i64) (Kd.pair (Kd.int .i64) (Kd.pair (Kd.int .i64) (Kd.int .i64))))).K w (a0, a1, a2, a3, a4) (cs.drop 0) from (pair_mk (off := 0) k0 (pair_mk (off := 1) k1 (pair_mk (off := 2) k2 (pair_mk (off := 3) k3 (last_mk (off := 4) hl k4))))))
/-- A good value of struct type 25. -/
structure ok25 (x : S25) : Prop where
 g0 : (GoodL (fun x : Int => (Lit.int .i64 x).wf = true)) x.f0
 g1 : (GoodL (GoodL ok53)) x.f1
theorem opens25 : Opens Try.prog k25 25 ok25 := by
 refine ⟨by kernel_rfl, fun {H enc w base spare held fuel cs x} h => ?_⟩
 obtain ⟨xs, n, _, _, hl, hlen, hf⟩ := DataW.trod_struct Try.underlying25 h
 have hc : Try.prog.cellsOf 25 = 2 := by kernel_rfl
 rw [hc] at hl
 have hlen' : xs.length = 2 := hlen
 obtain ⟨a0, k0, g0⟩ := field_op (off := 0) (opens_slice (by kernel_rfl) Try.underlying22 (opens_int (by kernel_rfl) Try.underlying3)) (seg (hf 0 _ rfl) (by omega))
 obtain ⟨a1, k1, g1⟩ := field_op (off := 1) (opens_slice (by kernel_rfl) Try.underlying23 (opens_slice (by kernel_rfl) Try.underlying50 opens53)) (seg (hf 1 _ rfl) (by omega))
 refine ⟨⟨a0, a1⟩, ?_, ⟨g0, g1⟩⟩
 exact (show (Kd.pair (Kd.slice 3 (Kd.int .i64)) (Kd.slice 50 (Kd.slice 53 k53))).K w (a0, a1) (cs.drop 0) from (pair_mk (off := 0) k0 (last_mk (off := 1) hl k1)))
end Go.Proofs.Ytijpfonbeepmfaa.Print
