/- The reference's RegName: its function and its contract, by hand. -/
import Derived.Test.YtijpfonbeepmfaaPrint0
import Derived.Laws.BytesArg
namespace Go.Proofs.Ytijpfonbeepmfaa.Print
open Go.RowKit Go.Proofs.YtijpfonbeepmfaaW.PrintWords Go.Proofs.YtijpfonbeepmfaaW.PrintLast Go.Proofs.YtijpfonbeepmfaaW.PrintMore
set_option linter.unusedVariables false
set_option linter.unusedSimpArgs false
def fencepostref02_RegName.f (a0 : Int) : Option (ByteArray) := if a0 < 0 then some ⟨#[]⟩ else if a0 ≥ 4 then some ⟨#[]⟩ else some ⟨#[101, UInt8.ofNat (97 + a0.toNat), 120]⟩
set_option maxHeartbeats 8000000 in
set_option maxRecDepth 100000 in
theorem fencepostref02_RegName.calls (a0 : Int) (r : ByteArray) (w : World) (h : fencepostref02_RegName.f a0 = some r) :
 Calls Try.prog 65 #[.int .i64 a0] w fun e w' => e = .returned (.string r) ∧ Below w.heap.size w w' := by
 unfold fencepostref02_RegName.f at h
 have HB := Aside0.mk (Below.refl w.heap.size w)
 by_cases c2 : a0 < 0
 ·rw [if_pos c2] at h
  obtain rfl := Option.some.inj h
  have c2b0 : decide (a0 < 0) = true := decide_eq_true c2
  clear c2
  go_enter Try.func65, Try.ntmps65
  go_wp2
  go_ret
  exact ⟨rfl, HB.out⟩
 ·rw [if_neg c2] at h
  by_cases c3 : a0 ≥ 4
  ·rw [if_pos c3] at h
   obtain rfl := Option.some.inj h
   have c2b0 : decide (a0 < 0) = false := decide_eq_false c2
   have c3b0 : decide (4 ≤ a0) = true := decide_eq_true c3
   clear c2 c3
   go_enter Try.func65, Try.ntmps65
   go_wp2
   go_ret
   exact ⟨rfl, HB.out⟩
  ·rw [if_neg c3] at h
   obtain rfl := Option.some.inj h
   have e : a0 = 0 ∨ a0 = 1 ∨ a0 = 2 ∨ a0 = 3 := by omega
   clear c2 c3 h
   have hcv : ∀ n : Int, (convert 101 9 (.slice (some ⟨w.heap.size, 0, none⟩) 1 1)).run Try.prog (w.alloc (.cells #[.int .u8 n] 5)) = .ok (.string (strOfNums [n])) (w.alloc (.cells #[.int .u8 n] 5)) := fun n =>
    run_convert_bytes_arg _ _ _ Try.underlying101 Try.underlying5 _ 0 1 1 [n] rfl (fun i hi => by
     obtain rfl : i = 0 := by omega
     show (match (w.alloc (.cells #[.int .u8 n] 5)).heap[w.heap.size]? with | some (.cells c elem frozen) => c[0]? | x => none) = _
     rw [show (w.alloc (.cells #[.int .u8 n] 5)).heap = w.heap.push (.cells #[.int .u8 n] 5 (0, 0)) from rfl, Array.getElem?_push_size]
     rfl) _ Try.underlying9
   rcases e with rfl | rfl | rfl | rfl
   all_goals
    go_enter Try.func65, Try.ntmps65
    go_wp2_with fail
    go_ret
    exact ⟨rfl, below_alloc HB.out _⟩
end Go.Proofs.Ytijpfonbeepmfaa.Print
