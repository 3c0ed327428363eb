/- adm.pending: its contract: the closure, and what its boxes hold. -/
import Derived.Test.YtphklaajolpieaaHPending
import Derived.Test.YtphklaajolpieaaHCfgMet
namespace Go.Proofs.Ytphklaajolpieaa.Print
open Go.RowKit Go.Shelf Go.Proofs.YtphklaajolpieaaW.PrintWords Go.Proofs.YtphklaajolpieaaW.PrintLast Go.Proofs.YtphklaajolpieaaW.PrintMore
set_option linter.unusedVariables false
set_option linter.unusedSimpArgs false
attribute [local go_sem] Oper.semAt_some
set_option maxRecDepth 100000 in
set_option maxHeartbeats 4000000 in
theorem pending_in (n kk : Nat) (A0 Al : Option Addr) (ad : Addr) (len0 cap0 cap1 cl : Nat) (zs : List (List S36)) (l : List S36) (t : Int) (m : List Bool) (w : World) (ht0 : 0 ≤ t) (ht1 : t < (zs.length : Int)) (x0 : w.cell? (ad.add t.toNat) = some (.slice Al l.length cl)) (hcl : l.length ≤ cl) (hCl : Kd.C k36 w Al l.length l) (hm : cfg_Met.f kk l = some m) :
 CallsIn Fence.wide (n + 9) Try.prog 28 #[.agg #[.slice A0 len0 cap0, .slice (some ad) zs.length cap1], .int .i64 t] w fun e w' => ∃ Bl Bm Bp Bt Am cm, e = .returned (.func (.func 33) #[] #[.pointer (some ⟨Bl, 0, none⟩), .pointer (some ⟨Bm, 0, none⟩), .pointer (some ⟨Bp, 0, none⟩), .pointer (some ⟨Bt, 0, none⟩)]) ∧ Below w.heap.size w w' ∧
  (Kd.F Kd.bool w' (fun k => w.heap.size ≤ k) Am m.length m ∧ m.length ≤ cm) ∧
  ((w.heap.size ≤ Bl ∧ w.heap.size ≤ Bm ∧ w.heap.size ≤ Bp ∧ w.heap.size ≤ Bt) ∧ (Bl < w'.heap.size ∧ Bm < w'.heap.size ∧ Bp < w'.heap.size ∧ Bt < w'.heap.size)) ∧
  (w'.cell? ⟨Bl, 0, none⟩ = some (.slice Al l.length cl) ∧ w'.cell? ⟨Bm, 0, none⟩ = some (.slice Am m.length cm) ∧ w'.cell? ⟨Bp, 0, none⟩ = some (.slice A0 len0 cap0) ∧ w'.cell? ⟨Bp, 1, none⟩ = some (.slice (some ad) zs.length cap1) ∧ w'.cell? ⟨Bt, 0, none⟩ = some (.int .i64 t)) := by
 have hu := Try.underlying25
 have p1 : (0 ≤ t) = True := eq_true ht0
 have q1 : (t < (zs.length : Int)) = True := eq_true ht1
 have x0' := fun o1 o2 => Lib.cell?_alloc_some o2 (Lib.cell?_alloc_some o1 x0)
 refine callsIn_of_wp Try.func28 rfl trivial ?_ rfl
 simp only [Try.ntmps28, List.size_toArray, List.length_cons, List.length_nil, Nat.reduceAdd, Nat.reduceSub, Array.replicate_succ, Array.replicate_zero, List.push_toArray, List.append_toArray, List.nil_append, List.cons_append]
 gi_wp2_with (refine ⟨trivial, ?_⟩; gi_at_call 32; refine (callsIn_wide.2 (cfg_Met.calls kk _ _ l m _ (by repeat (first | exact hCl | apply Kd.C_alloc)) hcl hm)).mono ?_; rintro e w5 ⟨v5, rfl, hR5, hb5⟩; obtain ⟨Am, cm, rfl⟩ := Kd.R_slice hR5)
 have hR := Kd.R_reads' hR5
 have hown := Kd.own_of_R hR5
 have hP : (((w.alloc (.cells #[.slice A0 len0 cap0, .slice (some ad) zs.length cap1] 25)).alloc (.cells #[.int .i64 t] 3)).alloc (.cells #[.slice Al l.length cl] 37)).heap[w.heap.size]? = some (.cells #[.slice A0 len0 cap0, .slice (some ad) zs.length cap1] 25 (0, 0)) := blk_alloc (blk_alloc (blk_new w _) _) _
 have hT := blk_alloc (blk_new (w.alloc (.cells #[.slice A0 len0 cap0, .slice (some ad) zs.length cap1] 25)) (.cells #[.int .i64 t] 3)) (.cells #[.slice Al l.length cl] 37)
 have hL := blk_new ((w.alloc (.cells #[.slice A0 len0 cap0, .slice (some ad) zs.length cap1] 25)).alloc (.cells #[.int .i64 t] 3)) (.cells #[.slice Al l.length cl] 37)
 simp only [World.size_alloc] at hT hL
 have hsz : (((w.alloc (.cells #[.slice A0 len0 cap0, .slice (some ad) zs.length cap1] 25)).alloc (.cells #[.int .i64 t] 3)).alloc (.cells #[.slice Al l.length cl] 37)).heap.size = w.heap.size + 3 := by simp
 have hb0 : Below w.heap.size w (((w.alloc (.cells #[.slice A0 len0 cap0, .slice (some ad) zs.length cap1] 25)).alloc (.cells #[.int .i64 t] 3)).alloc (.cells #[.slice Al l.length cl] 37)) := below_alloc (below_alloc (below_alloc (Below.refl _ _) _) _) _
 generalize ((w.alloc (.cells #[.slice A0 len0 cap0, .slice (some ad) zs.length cap1] 25)).alloc (.cells #[.int .i64 t] 3)).alloc (.cells #[.slice Al l.length cl] 37) = w3 at *
 have kP := blk_alloc ((hb5.block _ (by omega)).trans hP) (.cells #[.slice Am m.length cm] 73)
 have kT := blk_alloc ((hb5.block _ (by omega)).trans hT) (.cells #[.slice Am m.length cm] 73)
 have kL := blk_alloc ((hb5.block _ (by omega)).trans hL) (.cells #[.slice Am m.length cm] 73)
 have kM := blk_new w5 (.cells #[.slice Am m.length cm] 73)
 have hs5 := hb5.size
 go_ret
 have hF : Kd.F Kd.bool w5 (fun k => w.heap.size ≤ k) Am m.length m := Kd.R_F (Kd.R_of_own (ok := fun k => w.heap.size ≤ k) hown (fun k hk => by have := own_base hown k hk; omega))
 refine ⟨w.heap.size + 1 + 1, w5.heap.size, w.heap.size, w.heap.size + 1, Am, cm, rfl, below_alloc (hb0.trans (hb5.mono (by omega))) _, ⟨Kd.F_below hF (below_alloc (Below.refl _ _) _), hR.2.1⟩, ⟨⟨by omega, by omega, by omega, by omega⟩, by simp; omega, by simp, by simp; omega, by simp; omega⟩, (blk_cell kL 0).trans rfl, (blk_cell kM 0).trans rfl, (blk_cell kP 0).trans rfl, (blk_cell kP 1).trans rfl, (blk_cell kT 0).trans rfl⟩
end Go.Proofs.Ytphklaajolpieaa.Print
