/- cfg.Next: its Lean function and its contract, by walking its text. -/
import Derived.Test.YtphklaajolpieaaPrint0
import Derived.Test.YtphklaajolpieaaHCompact
namespace Go.Proofs.Ytphklaajolpieaa.Print
open Go.RowKit Go.Proofs.YtphklaajolpieaaW.PrintWords Go.Proofs.YtphklaajolpieaaW.PrintLast Go.Proofs.YtphklaajolpieaaW.PrintMore
set_option linter.unusedVariables false
set_option linter.unusedSimpArgs false
/-- What comes behind a step. -/
def nextOf (x : S36) (a : Int) : List Int :=
 if x.f0 = 8 then [x.f4] else if x.f0 = 9 then (if x.f4 = a + 1 then [a + 1] else [a + 1, x.f4]) else if x.f0 = 10 then (if x.f4 = a + 1 then [a + 1] else [a + 1, x.f4]) else [a + 1]
def cfg_Next.f (l0 : List S36) (a1 : Int) : Option (List Int) :=
 if a1 < 0 then some [] else if a1 < (l0.length : Int) then some (nextOf (rd_T36 l0 a1) a1) else some []
theorem lit_one (W : World) (x : Int) : Kd.R (Kd.int .i64) 3 (W.alloc (.cells #[.int .i64 x] 3)) W.heap.size (fun _ => True) (.slice (some ⟨W.heap.size, 0, none⟩) 1 1) [x] :=
 Kd.R_of_own (own_lit W W.heap.size 3 .i64 [x] (Nat.le_refl _) (by simp)) (fun _ _ => trivial)
/-- A row of two that is the call's own, as Compact reads it. -/
theorem two_cells {W : World} {base : Nat} {ok : Nat → Prop} {v : Value} {x y : Int} (h : Kd.R (Kd.int .i64) 3 W base ok v [x, y]) :
 ∃ g c, v = .slice (some ⟨g, 0, none⟩) 2 c ∧ 2 ≤ c ∧ base ≤ g ∧ g < W.heap.size ∧ W.cell? ⟨g, 0, none⟩ = some (.int .i64 x) ∧ W.cell? ⟨g, 1, none⟩ = some (.int .i64 y) ∧ ∀ o, W.frozen? ⟨g, o, none⟩ = false := by
 have ho := Kd.own_of_R h
 rcases ho.2 with ⟨_, h0⟩ | ⟨g, cap, cur, rfl, hb, hh, hle, hc1, hc2, ht⟩
 ·simp [encs] at h0
 ·have h2 : 2 ≤ cap := hle
  have e0 : (encs (Value.int .i64) [x, y]).length = 2 := rfl
  have g0 := ho.cells (g := g) rfl 0 (.int .i64 x) rfl
  have g1 := ho.cells (g := g) rfl 1 (.int .i64 y) rfl
  rw [add_plain] at g0 g1
  exact ⟨g, cap, rfl, h2, hb, (Array.getElem?_eq_some_iff.1 hh).1, g0, g1, fun o => blk_frozen hh o⟩
theorem one_kept {W : World} {base : Nat} {ok : Nat → Prop} {g c : Nat} {x y z : Int} (h : Kd.R (Kd.int .i64) 3 W base ok (.slice (some ⟨g, 0, none⟩) 2 c) [x, y]) :
 Kd.R (Kd.int .i64) 3 (W.setCell ⟨g, 1, none⟩ (.int .i64 z)) base ok (.slice (some ⟨g, 0, none⟩) 1 c) [x] := by
 have ho := Kd.own_of_R h
 have hs := ho.stored 1 (.int .i64 z)
 have h2 : (W.setCell ⟨g, 1, none⟩ (.int .i64 z)).ownsRow base 3 1 (.slice (some ⟨g, 0, none⟩) 1 c) 1 (encs (Value.int .i64) [x]) := by
  rcases hs.1.2 with ⟨h0, _⟩ | ⟨g', cap, cur, e, hb, hh, hle, hc1, hc2, ht⟩
  ·cases h0
  ·injection e with e1 e2 e3
   injection e1 with e1
   injection e1 with e1
   subst e1; subst e3
   refine ⟨rfl, .inr ⟨g, c, cur, rfl, hb, hh, by have : 2 ≤ c := hle; omega, hc1, hc2, ?_⟩⟩
   have h3 := congrArg (List.take 1) ht
   rw [List.take_take] at h3
   simpa [encs] using h3
 exact Kd.R_of_own h2 (fun k hk => h.1 k (by simpa [Value.ownBlock] using hk))
set_option maxHeartbeats 4000000 in
set_option maxRecDepth 100000 in
theorem cfg_Next.calls (A0 : Option Addr) (c0 : Nat) (l0 : List S36) (a1 : Int) (r : List Int) (w : World) (hr0 : Kd.C k36 w A0 l0.length l0) (hc0 : l0.length ≤ c0) (h : cfg_Next.f l0 a1 = some r) :
 Calls Try.prog 42 #[.slice A0 l0.length c0, .int .i64 a1] w fun e w' => ∃ v0_ : Value, e = .returned (v0_) ∧ Kd.R (Kd.int .i64) 3 w' w.heap.size (fun _ => True) v0_ r ∧ Below w.heap.size w w' := by
 have hlen := hr0.2.1
 unfold cfg_Next.f at h
 by_cases c1 : a1 < 0
 ·rw [if_pos c1] at h
  obtain rfl := Option.some.inj h
  have c1b : decide (a1 < 0) = true := decide_eq_true c1
  clear hr0 h c1
  go_enter Try.func42, Try.ntmps42
  go_wp2
  go_ret
  exact ⟨_, rfl, Kd.R_nil _ _ _ _ _, Below.refl _ _⟩
 ·rw [if_neg c1] at h
  have c1b : decide (a1 < 0) = false := decide_eq_false c1
  by_cases c2 : a1 < (l0.length : Int)
  ·rw [if_pos c2] at h
   obtain rfl := Option.some.inj h
   have c2b : decide ((l0.length : Int) ≤ a1) = false := decide_eq_false (by omega)
   obtain ⟨ad, rfl, x0, x1, x2, x3, x4⟩ := at_T36 hr0 a1 (by omega) c2
   generalize rd_T36 l0 a1 = x at x0 x1 x2 x3 x4 ⊢
   clear hr0 h
   have hu := Try.underlying36
   have p1 : (0 ≤ a1) = True := eq_true (by omega)
   have q1 : (a1 < (l0.length : Int)) = True := eq_true c2
   have s1 : a1 + 1 ≤ 9223372036854775807 := by omega
   have s0 : 0 ≤ a1 + 1 := by omega
   clear c1 c2
   replace x0 := fun o => Lib.cell?_alloc_some o x0
   replace x1 := fun o => Lib.cell?_alloc_some o x1
   replace x2 := fun o => Lib.cell?_alloc_some o x2
   replace x3 := fun o => Lib.cell?_alloc_some o x3
   replace x4 := fun o => Lib.cell?_alloc_some o x4
   by_cases e8 : x.f0 = 8
   ·have hn : nextOf x a1 = [x.f4] := by simp [nextOf, e8]
    have HN := Aside0.mk hn
    have b8 : (x.f0 == 8) = true := by simpa using e8
    clear e8 hn
    go_enter Try.func42, Try.ntmps42
    go_wp2_with fail
    refine (compact_one _ _ _).mono ?_
    rintro e w1 ⟨rfl, rfl⟩
    go_wp2_with fail
    go_ret
    exact ⟨_, rfl, by rw [HN.out]; exact Kd.R_alloc (lit_one w x.f4) _, below_alloc (below_alloc (Below.refl _ _) _) _⟩
   ·have b8 : (x.f0 == 8) = false := by simpa using e8
    have hj : x.f0 = 9 ∨ x.f0 = 10 ∨ (¬ x.f0 = 9 ∧ ¬ x.f0 = 10) := by omega
    rcases hj with e9 | e9 | ⟨e9, e10⟩
    ·have b9 : (x.f0 == 9) = true := by simpa using e9
     have HN : Aside0 (nextOf x a1 = if x.f4 = a1 + 1 then [a1 + 1] else [a1 + 1, x.f4]) := ⟨by simp [nextOf, e9]⟩
     clear e8 e9
     go_enter Try.func42, Try.ntmps42
     go_wp2_with (at_builtin; refine Kd.R_append (Kd.int .i64) (w0 := w) w.heap.size rfl (.tmp 33) (.tmp 36) 22 3 (.int .i64 0) 8 rfl Try.underlying22 info3 rfl (by decide) (by decide) (.slice (some ⟨w.heap.size, 0, none⟩) 1 1) [a1 + 1] x.f4 [.int .i64 x.f4] (fun _ => True) (fun _ => False) rfl (by simp [Act.eval]) rfl (fun _ h => h.elim) (fun _ _ => trivial) (Kd.R_alloc (lit_one w (a1 + 1)) _) (below_alloc (below_alloc (Below.refl _ _) _) _) (below_size (below_alloc (below_alloc (Below.refl _ _) _) _)) (by simp) ?_; intro v1 w1 ho hb hg hat; clear hg hat)
     obtain ⟨g, c, hv, hc2, hbg, hlt, g0, g1, hfz⟩ := two_cells ho
     subst hv
     by_cases et : x.f4 = a1 + 1
     ·have ht : (x.f4 == a1 + 1) = true := by simpa using et
      rw [if_pos et] at HN
      clear et
      refine (compact_eq _ _ _ _ _ hc2 g0 g1 hfz ht).mono ?_
      rintro e w2 ⟨rfl, n, rfl⟩
      go_wp2_with fail
      go_ret
      exact ⟨_, rfl, by rw [HN.out]; exact one_kept (Kd.R_drewN ho n), below_set (pw_below_drewN hb n) hbg⟩
     ·have ht : (x.f4 == a1 + 1) = false := by simpa using et
      rw [if_neg et] at HN
      clear et
      refine (compact_ne _ _ _ _ _ hc2 g0 g1 ht).mono ?_
      rintro e w2 ⟨rfl, ⟨n, rfl⟩⟩
      go_wp2_with fail
      go_ret
      exact ⟨_, rfl, by rw [HN.out]; exact Kd.R_drewN ho n, pw_below_drewN hb n⟩
    ·have b9 : (x.f0 == 9) = false := by simp [e9]
     have b10 : (x.f0 == 10) = true := by simpa using e9
     have HN : Aside0 (nextOf x a1 = if x.f4 = a1 + 1 then [a1 + 1] else [a1 + 1, x.f4]) := ⟨by simp [nextOf, e9]⟩
     clear e8 e9
     go_enter Try.func42, Try.ntmps42
     go_wp2_with (at_builtin; refine Kd.R_append (Kd.int .i64) (w0 := w) w.heap.size rfl (.tmp 33) (.tmp 36) 22 3 (.int .i64 0) 8 rfl Try.underlying22 info3 rfl (by decide) (by decide) (.slice (some ⟨w.heap.size, 0, none⟩) 1 1) [a1 + 1] x.f4 [.int .i64 x.f4] (fun _ => True) (fun _ => False) rfl (by simp [Act.eval]) rfl (fun _ h => h.elim) (fun _ _ => trivial) (Kd.R_alloc (lit_one w (a1 + 1)) _) (below_alloc (below_alloc (Below.refl _ _) _) _) (below_size (below_alloc (below_alloc (Below.refl _ _) _) _)) (by simp) ?_; intro v1 w1 ho hb hg hat; clear hg hat)
     obtain ⟨g, c, hv, hc2, hbg, hlt, g0, g1, hfz⟩ := two_cells ho
     subst hv
     by_cases et : x.f4 = a1 + 1
     ·have ht : (x.f4 == a1 + 1) = true := by simpa using et
      rw [if_pos et] at HN
      clear et
      refine (compact_eq _ _ _ _ _ hc2 g0 g1 hfz ht).mono ?_
      rintro e w2 ⟨rfl, n, rfl⟩
      go_wp2_with fail
      go_ret
      exact ⟨_, rfl, by rw [HN.out]; exact one_kept (Kd.R_drewN ho n), below_set (pw_below_drewN hb n) hbg⟩
     ·have ht : (x.f4 == a1 + 1) = false := by simpa using et
      rw [if_neg et] at HN
      clear et
      refine (compact_ne _ _ _ _ _ hc2 g0 g1 ht).mono ?_
      rintro e w2 ⟨rfl, ⟨n, rfl⟩⟩
      go_wp2_with fail
      go_ret
      exact ⟨_, rfl, by rw [HN.out]; exact Kd.R_drewN ho n, pw_below_drewN hb n⟩
    ·have HN : Aside0 (nextOf x a1 = [a1 + 1]) := ⟨by simp [nextOf, e8, e9, e10]⟩
     have b9 : (x.f0 == 9) = false := by simpa using e9
     have b10 : (x.f0 == 10) = false := by simpa using e10
     clear e8 e9 e10
     go_enter Try.func42, Try.ntmps42
     go_wp2_with fail
     refine (compact_one _ _ _).mono ?_
     rintro e w1 ⟨rfl, rfl⟩
     go_wp2_with fail
     go_ret
     exact ⟨_, rfl, by rw [HN.out]; exact Kd.R_alloc (lit_one w (a1 + 1)) _, below_alloc (below_alloc (Below.refl _ _) _) _⟩
  ·rw [if_neg c2] at h
   obtain rfl := Option.some.inj h
   have c2b : decide ((l0.length : Int) ≤ a1) = true := decide_eq_true (by omega)
   clear hr0 h c1 c2
   go_enter Try.func42, Try.ntmps42
   go_wp2
   go_ret
   exact ⟨_, rfl, Kd.R_nil _ _ _ _ _, Below.refl _ _⟩
end Go.Proofs.Ytphklaajolpieaa.Print
