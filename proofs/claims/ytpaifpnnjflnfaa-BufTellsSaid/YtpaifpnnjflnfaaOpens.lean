-- Written by ownprint.py (this session's) with the kit's print.py: functions, contracts, rows; Lean checks it.
import Derived.Test.YtpaifpnnjflnfaaHOpen
namespace Go.Proofs.Ytpaifpnnjflnfaa.Print
open Go.RowKit Go.ChangeShapes Go.WideShapes Go.Deep Go.Proofs.YtpaifpnnjflnfaaW.PrintWords Go.Proofs.YtpaifpnnjflnfaaW.PrintLast Go.Proofs.YtpaifpnnjflnfaaW.PrintMore
set_option linter.unusedVariables false
/-- A good value of struct type 51. -/
structure ok51 (x : S51) : Prop where
  g0 : (fun x : Int => (Lit.int .i64 x).wf = true) x.f0
  g1 : (fun x : Int => (Lit.int .i64 x).wf = true) x.f1
theorem opens51 : Opens Try.prog k51 51 ok51 := by
  refine ⟨by kernel_rfl, fun {H enc w base spare held fuel cs x} h => ?_⟩
  obtain ⟨xs, n, _, _, hl, hlen, hf⟩ := DataW.trod_struct Try.underlying51 h
  have hc : Try.prog.cellsOf 51 = 2 := by kernel_rfl
  rw [hc] at hl
  have hlen' : xs.length = 2 := hlen
  obtain ⟨a0, k0, g0⟩ := field_op (off := 0) (opens_int (by kernel_rfl) Try.underlying3) (seg (hf 0 _ rfl) (by omega))
  obtain ⟨a1, k1, g1⟩ := field_op (off := 1) (opens_int (by kernel_rfl) Try.underlying3) (seg (hf 1 _ rfl) (by omega))
  refine ⟨⟨a0, a1⟩, ?_, ⟨g0, g1⟩⟩
  exact (show (Kd.pair (Kd.int .i64) (Kd.int .i64)).K w (a0, a1) (cs.drop 0) from (pair_mk (off := 0) k0 (last_mk (off := 1) hl k1)))
end Go.Proofs.Ytpaifpnnjflnfaa.Print
