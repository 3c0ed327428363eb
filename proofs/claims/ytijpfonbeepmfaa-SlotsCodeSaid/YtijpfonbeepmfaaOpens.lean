-- Written by ownprint.py (this session's) with the kit's print.py: functions, contracts, rows; Lean checks it.
/- What is known of a code that is not too much (law 08): plain Lean. -/
import Derived.Test.YtijpfonbeepmfaaHOpen
import Derived.Test.YtijpfonbeepmfaaPrint0
import Derived.Test.YtijpfonbeepmfaaPrint20
import Derived.Test.YtijpfonbeepmfaaHSq
import Derived.Test.YtijpfonbeepmfaaHHead08
import Derived.Test.YtijpfonbeepmfaaHSlOf
section
namespace Go.Proofs.Ytijpfonbeepmfaa.Print
open Go.RowKit Go.ChangeShapes Go.WideShapes Go.Deep Go.Proofs.YtijpfonbeepmfaaW.PrintWords Go.Proofs.YtijpfonbeepmfaaW.PrintLast Go.Proofs.YtijpfonbeepmfaaW.PrintMore
set_option linter.unusedVariables false
/-- A good value of struct type 62. -/
structure ok62 (x : S62) : Prop where
 g0 : (fun s : ByteArray => s.size ≤ 9223372036854775807) x.f0
 g1 : (fun x : Int => (Lit.int .i64 x).wf = true) x.f1
theorem opens62 : Opens Try.prog k62 62 ok62 := by
 refine ⟨by kernel_rfl, fun {H enc w base spare held fuel cs x} h => ?_⟩
 obtain ⟨xs, n, _, _, hl, hlen, hf⟩ := DataW.trod_struct Try.underlying62 h
 have hc : Try.prog.cellsOf 62 = 2 := by kernel_rfl
 rw [hc] at hl
 have hlen' : xs.length = 2 := hlen
 obtain ⟨a0, k0, g0⟩ := field_op (off := 0) (opens_string (by kernel_rfl) Try.underlying9) (seg (hf 0 _ rfl) (by omega))
 obtain ⟨a1, k1, g1⟩ := field_op (off := 1) (opens_int (by kernel_rfl) Try.underlying3) (seg (hf 1 _ rfl) (by omega))
 refine ⟨⟨a0, a1⟩, ?_, ⟨g0, g1⟩⟩
 exact (show (Kd.pair Kd.string (Kd.int .i64)).K w (a0, a1) (cs.drop 0) from (pair_mk (off := 0) k0 (last_mk (off := 1) hl k1)))
/-- A good value of struct type 60. -/
structure ok60 (x : S60) : Prop where
 g0 : (fun x : Int => (Lit.int .i64 x).wf = true) x.f0
 g1 : (fun s : ByteArray => s.size ≤ 9223372036854775807) x.f1
 g2 : (fun s : ByteArray => s.size ≤ 9223372036854775807) x.f2
 g3 : (fun s : ByteArray => s.size ≤ 9223372036854775807) x.f3
 g4 : (fun x : Int => (Lit.int .i64 x).wf = true) x.f4
theorem opens60 : Opens Try.prog k60 60 ok60 := by
 refine ⟨by kernel_rfl, fun {H enc w base spare held fuel cs x} h => ?_⟩
 obtain ⟨xs, n, _, _, hl, hlen, hf⟩ := DataW.trod_struct Try.underlying60 h
 have hc : Try.prog.cellsOf 60 = 5 := by kernel_rfl
 rw [hc] at hl
 have hlen' : xs.length = 5 := hlen
 obtain ⟨a0, k0, g0⟩ := field_op (off := 0) (opens_int (by kernel_rfl) Try.underlying3) (seg (hf 0 _ rfl) (by omega))
 obtain ⟨a1, k1, g1⟩ := field_op (off := 1) (opens_string (by kernel_rfl) Try.underlying9) (seg (hf 1 _ rfl) (by omega))
 obtain ⟨a2, k2, g2⟩ := field_op (off := 2) (opens_string (by kernel_rfl) Try.underlying9) (seg (hf 2 _ rfl) (by omega))
 obtain ⟨a3, k3, g3⟩ := field_op (off := 3) (opens_string (by kernel_rfl) Try.underlying9) (seg (hf 3 _ rfl) (by omega))
 obtain ⟨a4, k4, g4⟩ := field_op (off := 4) (opens_int (by kernel_rfl) Try.underlying3) (seg (hf 4 _ rfl) (by omega))
 refine ⟨⟨a0, a1, a2, a3, a4⟩, ?_, ⟨g0, g1, g2, g3, g4⟩⟩
 exact (show (Kd.pair (Kd.int .i64) (Kd.pair Kd.string (Kd.pair Kd.string (Kd.pair Kd.string (Kd.int .i64))))).K w (a0, a1, a2, a3, a4) (cs.drop 0) from (pair_mk (off := 0) k0 (pair_mk (off := 1) k1 (pair_mk (off := 2) k2 (pair_mk (off := 3) k3 (last_mk (off := 4) hl k4))))))
/-- A good value of struct type 58. -/
structure ok58 (x : S58) : Prop where
 g0 : (GoodL ok60) x.f0
theorem opens58 : Opens Try.prog k58 58 ok58 := by
 refine ⟨by kernel_rfl, fun {H enc w base spare held fuel cs x} h => ?_⟩
 obtain ⟨xs, n, _, _, hl, hlen, hf⟩ := DataW.trod_struct Try.underlying58 h
 have hc : Try.prog.cellsOf 58 = 1 := by kernel_rfl
 rw [hc] at hl
 have hlen' : xs.length = 1 := hlen
 obtain ⟨a0, k0, g0⟩ := field_op (off := 0) (opens_slice (by kernel_rfl) Try.underlying56 opens60) (seg (hf 0 _ rfl) (by omega))
 refine ⟨⟨a0⟩, ?_, ⟨g0⟩⟩
 exact (show ((Kd.slice 60 k60)).K w (a0) (cs.drop 0) from (last_mk (off := 0) hl k0))
/-- A good value of struct type 64. -/
structure ok64 (x : S64) : Prop where
 g0 : (fun x : Int => (Lit.int .i64 x).wf = true) x.f0
 g1 : (fun s : ByteArray => s.size ≤ 9223372036854775807) x.f1
 g2 : (fun x : Int => (Lit.int .i64 x).wf = true) x.f2
theorem opens64 : Opens Try.prog k64 64 ok64 := by
 refine ⟨by kernel_rfl, fun {H enc w base spare held fuel cs x} h => ?_⟩
 obtain ⟨xs, n, _, _, hl, hlen, hf⟩ := DataW.trod_struct Try.underlying64 h
 have hc : Try.prog.cellsOf 64 = 3 := by kernel_rfl
 rw [hc] at hl
 have hlen' : xs.length = 3 := hlen
 obtain ⟨a0, k0, g0⟩ := field_op (off := 0) (opens_int (by kernel_rfl) Try.underlying3) (seg (hf 0 _ rfl) (by omega))
 obtain ⟨a1, k1, g1⟩ := field_op (off := 1) (opens_string (by kernel_rfl) Try.underlying9) (seg (hf 1 _ rfl) (by omega))
 obtain ⟨a2, k2, g2⟩ := field_op (off := 2) (opens_int (by kernel_rfl) Try.underlying3) (seg (hf 2 _ rfl) (by omega))
 refine ⟨⟨a0, a1, a2⟩, ?_, ⟨g0, g1, g2⟩⟩
 exact (show (Kd.pair (Kd.int .i64) (Kd.pair Kd.string (Kd.int .i64))).K w (a0, a1, a2) (cs.drop 0) from (pair_mk (off := 0) k0 (pair_mk (off := 1) k1 (last_mk (off := 2) hl k2))))
/-- A good value of struct type 30. -/
structure ok30 (x : S30) : Prop where
 g0 : (fun s : ByteArray => s.size ≤ 9223372036854775807) x.f0
 g1 : (GoodL ok62) x.f1
 g2 : (GoodL ok58) x.f2
 g3 : (fun _ : Bool => True) x.f3
 g4 : (GoodL ok64) x.f4
theorem opens30 : Opens Try.prog k30 30 ok30 := by
 refine ⟨by kernel_rfl, fun {H enc w base spare held fuel cs x} h => ?_⟩
 obtain ⟨xs, n, _, _, hl, hlen, hf⟩ := DataW.trod_struct Try.underlying30 h
 have hc : Try.prog.cellsOf 30 = 5 := by kernel_rfl
 rw [hc] at hl
 have hlen' : xs.length = 5 := hlen
 obtain ⟨a0, k0, g0⟩ := field_op (off := 0) (opens_string (by kernel_rfl) Try.underlying9) (seg (hf 0 _ rfl) (by omega))
 obtain ⟨a1, k1, g1⟩ := field_op (off := 1) (opens_slice (by kernel_rfl) Try.underlying26 opens62) (seg (hf 1 _ rfl) (by omega))
 obtain ⟨a2, k2, g2⟩ := field_op (off := 2) (opens_slice (by kernel_rfl) Try.underlying27 opens58) (seg (hf 2 _ rfl) (by omega))
 obtain ⟨a3, k3, g3⟩ := field_op (off := 3) (opens_bool (by kernel_rfl) Try.underlying4) (seg (hf 3 _ rfl) (by omega))
 obtain ⟨a4, k4, g4⟩ := field_op (off := 4) (opens_slice (by kernel_rfl) Try.underlying28 opens64) (seg (hf 4 _ rfl) (by omega))
 refine ⟨⟨a0, a1, a2, a3, a4⟩, ?_, ⟨g0, g1, g2, g3, g4⟩⟩
 exact (show (Kd.pair Kd.string (Kd.pair (Kd.slice 62 k62) (Kd.pair (Kd.slice 58 k58) (Kd.pair Kd.bool (Kd.slice 64 k64))))).K w (a0, a1, a2, a3, a4) (cs.drop 0) from (pair_mk (off := 0) k0 (pair_mk (off := 1) k1 (pair_mk (off := 2) k2 (pair_mk (off := 3) k3 (last_mk (off := 4) hl k4))))))
end Go.Proofs.Ytijpfonbeepmfaa.Print
end
section
namespace Go.Proofs.Ytijpfonbeepmfaa.Print
open Go.RowKit Go.Proofs.YtijpfonbeepmfaaW.PrintWords Go.Proofs.YtijpfonbeepmfaaW.PrintLast Go.Proofs.YtijpfonbeepmfaaW.PrintMore
set_option linter.unusedVariables false
set_option linter.unusedSimpArgs false
theorem w64 {x : Int} (h0 : -9223372036854775808 ≤ x) (h1 : x ≤ 9223372036854775807) : wrap64 x = x := by
 unfold wrap64; omega
end Go.Proofs.Ytijpfonbeepmfaa.Print
end
