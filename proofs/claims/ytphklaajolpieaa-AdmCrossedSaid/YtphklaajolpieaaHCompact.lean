/- slices.Compact at []int, at slices of one and of two elements that the call owns: contracts, by walking the library's text. -/
import Derived.Test.YtphklaajolpieaaPrint0
import Derived.Lib.SliceRun
namespace Go.Proofs.Ytphklaajolpieaa.Print
open Go.RowKit Go.Proofs.YtphklaajolpieaaW.PrintWords Go.Proofs.YtphklaajolpieaaW.PrintLast Go.Proofs.YtphklaajolpieaaW.PrintMore
set_option linter.unusedVariables false
set_option linter.unusedSimpArgs false
set_option maxHeartbeats 1000000 in
theorem compact_one (w : World) (g c : Nat) :
 Calls Try.prog 44 #[.slice (some ⟨g, 0, none⟩) 1 c] w fun e w' => e = .returned (.slice (some ⟨g, 0, none⟩) 1 c) ∧ w = w' := by
 go_enter Try.func44, Try.ntmps44
 go_wp2
 go_ret
 exact ⟨rfl, rfl⟩
set_option maxHeartbeats 1000000 in
theorem compact_ne (w : World) (g c : Nat) (x y : Int) (hcc : 2 ≤ c) (h0 : w.cell? ⟨g, 0, none⟩ = some (.int .i64 x)) (h1 : w.cell? ⟨g, 1, none⟩ = some (.int .i64 y)) (hne : (y == x) = false) :
 Calls Try.prog 44 #[.slice (some ⟨g, 0, none⟩) 2 c] w fun e w' => e = .returned (.slice (some ⟨g, 0, none⟩) 2 c) ∧ Drawn0 w w' := by
 go_enter Try.func44, Try.ntmps44
 go_wp2_with fail
 refine wp_loop_rounds 2 ?_
 rw [rounds_succ]
 go_wp2_with fail
 go_quiet (fail)
 go_wp2_with fail
 rw [rounds_succ]
 go_wp2_with fail
 go_ret
 exact ⟨rfl, by repeat (first | exact Drawn0.refl _ | apply Drawn0.step)⟩
theorem zero_int (w : World) : (zeroValue 3).run Try.prog w = .ok (.int .i64 0) w := by kernel_rfl
set_option maxHeartbeats 1000000 in
theorem compact_eq (w : World) (g c : Nat) (x y : Int) (hcc : 2 ≤ c) (h0 : w.cell? ⟨g, 0, none⟩ = some (.int .i64 x)) (h1 : w.cell? ⟨g, 1, none⟩ = some (.int .i64 y)) (hf : ∀ o, w.frozen? ⟨g, o, none⟩ = false) (heq : (y == x) = true) :
    Calls Try.prog 44 #[.slice (some ⟨g, 0, none⟩) 2 c] w fun e w' => e = .returned (.slice (some ⟨g, 0, none⟩) 1 c) ∧ ∃ n, w' = (w.drewN n).setCell ⟨g, 1, none⟩ (.int .i64 0) := by
  have hcl : ∀ (nq ty : Nat), (Builtin.clear_ #[22] ty #[.slice (some ⟨g, 1, none⟩) 1 (c - 1)]).run Try.prog (w.drewN nq) = .ok (.tuple #[]) ((w.drewN nq).setCell ⟨g, 1, none⟩ (.int .i64 0)) := fun nq ty => by
    have := Lib.run_clear_slice (P := Try.prog) (w.drewN nq) 22 3 ty (.int .i64 0) Try.underlying22 (fun w => zero_int w) rfl rfl g 1 1 (c - 1) (by omega)
      (fun j hj => by obtain rfl : j = 0 := by omega
                      show (w.cell? ⟨g, 1, none⟩).isSome = true
                      rw [h1]; rfl) (fun j hj => hf _)
    rw [this]; rfl
  go_enter Try.func44, Try.ntmps44
  go_wp2_with fail
  refine wp_loop_rounds 1 ?_
  rw [rounds_succ]
  go_wp2_with fail
  go_quiet (fail)
  go_wp2_with fail
  refine wp_loop_rounds 1 ?_
  rw [rounds_succ]
  go_wp2_with fail
  go_ret
  exact ⟨rfl, _, rfl⟩
end Go.Proofs.Ytphklaajolpieaa.Print
