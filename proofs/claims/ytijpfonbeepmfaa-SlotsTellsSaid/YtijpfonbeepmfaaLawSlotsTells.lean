-- Written by ownprint.py (this session's) with the kit's print.py: functions, contracts, rows; Lean checks it.
import Derived.Test.YtijpfonbeepmfaaRows
import Derived.Test.YtijpfonbeepmfaaPrint17
import Derived.Test.YtijpfonbeepmfaaOpens
import Derived.Test.YtijpfonbeepmfaaHSlEraC
import Derived.WalkKit
import Derived.ProofKit
import Derived.OpenShut
import Derived.ShutString
import Derived.ChangeOld
import Derived.Below
import Derived.SizedLaws
namespace Go.Proofs.Ytijpfonbeepmfaa.slotsTells
open Go.ChangeShapes Go.WideShapes Go.ChangeAt Go.RowKit Go.Proofs.YtijpfonbeepmfaaW.PrintWords Go.Proofs.Ytijpfonbeepmfaa.Print
open Go.ChangeMaps (open_string shut_string)
set_option linter.unusedVariables false
theorem own : ownKnob Try.prog.godebug = none := by kernel_rfl
theorem laidOut : laidOutB Try.prog = true := by kernel_rfl
set_option maxRecDepth 100000 in
theorem lifted (os : Os) (started : os.Started) (H : Type) (enc : TypeId × Value → H) :
 ReturnsInHanded {} Try.checked os 3 .any (Rows.slotsTellsSpec.pre6 enc Try.prog Try.f3 Rows.slotsTellsRow.domain false) (Rows.slotsTellsSpec.post enc Try.prog Try.f3 false true false false) := by
 refine returnsInHanded_of_change_sized (C := Try.checked) own started (by kernel_rfl) Try.func3
  (ChangeSpec.witness6 (enc := enc) (C := Try.checked) false ⟨#[], #[.agg #[.slice none 0 0, .slice none 0 0], .agg #[.string ByteArray.empty, .slice none 0 0, .slice none 0 0, .bool false, .slice none 0 0], .slice none 0 0, .int .i64 0, .int .i64 0, .int .i64 0], []⟩ 8 (by kernel_rfl) (by kernel_rfl) (by kernel_rfl) (by kernel_rfl)) ?_
 intro W base args ds gs before hval0 hW hcnd hsz0 _
 have hval : ∀ (j : Nat) t v, Try.f3.params[j]? = some t → args[j]? = some v → Value.okWide Try.prog W .any base t v := hval0
 have hW' := hW
 obtain ⟨p, q, hA0, hV, rfl, hfz, hnd⟩ := hW
 have hA : DataW.TrodAll enc Try.prog W 0 (fun _ => true) true Try.f3.params.toList args.toList ds p := hA0
 rw [Try.params3] at hA hval
 obtain ⟨v0, vs0, d0, ds0, p0, q0, hargs, rfl, rfl, h0, r0⟩ := trodAll_cons hA
 obtain ⟨v1, vs1, d1, ds1, p1, q1, rfl, rfl, rfl, h1, r1⟩ := trodAll_cons r0
 obtain ⟨v2, vs2, d2, ds2, p2, q2, rfl, rfl, rfl, h2, r2⟩ := trodAll_cons r1
 obtain ⟨v3, vs3, d3, ds3, p3, q3, rfl, rfl, rfl, h3, r3⟩ := trodAll_cons r2
 obtain ⟨v4, vs4, d4, ds4, p4, q4, rfl, rfl, rfl, h4, r4⟩ := trodAll_cons r3
 obtain ⟨v5, vs5, d5, ds5, p5, q5, rfl, rfl, rfl, h5, r5⟩ := trodAll_cons r4
 obtain ⟨rfl, rfl, rfl⟩ := trodAll_nil r5
 obtain rfl : args = #[v0, v1, v2, v3, v4, v5] := by cases args; simp_all
 obtain ⟨rfl, rfl⟩ := trodVars_none hV
 obtain ⟨cs0, rfl, _⟩ := okWide_struct Try.underlying25 (hval 0 25 v0 rfl rfl)
 have k0 := h0
 have lt0 : ∀ x ∈ p0, x.block < W.heap.size := by obtain ⟨m, hm⟩ := k0; exact DataW.trod_lt m _ _ _ hm
 obtain ⟨x0, K0, g0⟩ := arg_agg opens25 h0
 obtain ⟨A0_0, C0_0, A0_1, C0_1, E0, L0_0, R0_0, L0_1, R0_1⟩ := k25_open K0
 obtain rfl : cs0 = #[.slice A0_0 (x0.f0).length C0_0, .slice A0_1 (x0.f1).length C0_1] := by cases cs0; simp_all
 obtain ⟨cs1, rfl, _⟩ := okWide_struct Try.underlying30 (hval 1 30 v1 rfl rfl)
 have k1 := h1
 have lt1 : ∀ x ∈ p1, x.block < W.heap.size := by obtain ⟨m, hm⟩ := k1; exact DataW.trod_lt m _ _ _ hm
 obtain ⟨x1, K1, g1⟩ := arg_agg opens30 h1
 obtain ⟨A1_1, C1_1, A1_2, C1_2, A1_4, C1_4, E1, L1_1, R1_1, L1_2, R1_2, L1_4, R1_4⟩ := k30_open K1
 obtain rfl : cs1 = #[.string x1.f0, .slice A1_1 (x1.f1).length C1_1, .slice A1_2 (x1.f2).length C1_2, .bool x1.f3, .slice A1_4 (x1.f4).length C1_4] := by cases cs1; simp_all
 obtain ⟨a2, len2, cap2, rfl⟩ := okWide_slice Try.underlying22 (hval 2 22 v2 rfl rfl)
 have k2 := h2
 have lt2 : ∀ x ∈ p2, x.block < W.heap.size := by obtain ⟨m, hm⟩ := k2; exact DataW.trod_lt m _ _ _ hm
 obtain ⟨x2, rfl, l2, c2, g2⟩ := arg_slice (opens_slice (by kernel_rfl) Try.underlying22 (opens_int (by kernel_rfl) Try.underlying3)) h2
 obtain ⟨a3, rfl, rfl, rfl, w3⟩ := open_int Try.underlying3 (hval 3 3 v3 rfl rfl) h3
 obtain ⟨a4, rfl, rfl, rfl, w4⟩ := open_int Try.underlying3 (hval 4 3 v4 rfl rfl) h4
 obtain ⟨a5, rfl, rfl, rfl, w5⟩ := open_int Try.underlying3 (hval 5 3 v5 rfl rfl) h5
 obtain ⟨k, hk⟩ := Pure.SlotsTells x0 x1 x2 a3 a4 a5 g0 g1 g2 w3 w4 w5
 refine (fencepostlaw08_SlotsTells.calls k _ _ x0.f0 _ _ x0.f1 x1.f0 _ _ x1.f1 _ _ x1.f2 x1.f3 _ _ x1.f4 _ _ x2 a3 a4 a5 true W R0_0 L0_0 R0_1 L0_1 R1_1 L1_1 R1_2 L1_2 R1_4 L1_4 c2 l2 rfl hk).mono fun e W' ⟨he, bel⟩ => ?_
 subst he
 exact ⟨_, rfl, _, _, _, [], _, [], hW', trodAll_mk1 (shut_bool Try.underlying4 _), (trodAll_cons_mk (Below.trod laidOut (by kernel_rfl) (of_decide_eq_true (by kernel_rfl)) k0 bel lt0) (trodAll_cons_mk (Below.trod laidOut (by kernel_rfl) (of_decide_eq_true (by kernel_rfl)) k1 bel lt1) (trodAll_cons_mk (Below.trod laidOut (by kernel_rfl) (of_decide_eq_true (by kernel_rfl)) k2 bel lt2) (trodAll_cons_mk (shut_int Try.underlying3 w3) (trodAll_cons_mk (shut_int Try.underlying3 w4) (trodAll_cons_mk (shut_int Try.underlying3 w5) trodAll_mk0)))))), rfl, bel.frame _, fun h => by cases h⟩
theorem over : Rows.slotsTellsRow.holds Try.pinned (OpenSpec.ofChange Rows.slotsTellsSpec) :=
 OpenClaim.holds_of_wide 3 Try.f3 rfl rfl rfl rfl rfl rfl rfl ⟨rfl, rfl, rfl, rfl, rfl⟩ rfl rfl rfl rfl rfl (by kernel_rfl) Try.func3 (by kernel_rfl)
  (of_decide_eq_true (by kernel_rfl)) (by unfold Func.isWrapper; first | (rw [if_pos (by decide +kernel)]; kernel_rfl) | (rw [if_neg (by decide +kernel)]; exact ⟨rfl, rfl⟩))
  (fun os started H enc _ => lifted os started H enc)
theorem proved : Rows.SlotsTellsSaid := over
#print axioms proved
end Go.Proofs.Ytijpfonbeepmfaa.slotsTells
namespace Go.Proofs.Ytijpfonbeepmfaa
/-- The row, under a short name, for the claim. -/
theorem slotsTells_holds : Rows.SlotsTellsSaid := slotsTells.proved
end Go.Proofs.Ytijpfonbeepmfaa
