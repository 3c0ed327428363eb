/- cfg.led, cfg.Reach, cfg.Free: Lean functions and contracts. -/
import Derived.Test.YtphklaajolpieaaHCfgWalk
import Derived.Laws.EntriesVeiled
namespace Go.Proofs.Ytphklaajolpieaa.Print
open Go.RowKit Go.Maps Go.Proofs.YtphklaajolpieaaW.PrintWords Go.Proofs.YtphklaajolpieaaW.PrintLast Go.Proofs.YtphklaajolpieaaW.PrintMore
set_option linter.unusedVariables false
set_option linter.unusedSimpArgs false
/-- 'Jumps go but forward', to be reckoned. -/
def fwdB (l : List S36) : Bool := (List.range l.length).all fun i : Nat => !((rd_T36 l i).f0 == 8 || (rd_T36 l i).f0 == 9 || (rd_T36 l i).f0 == 10) || (decide ((i : Int) < (rd_T36 l i).f4) && decide ((rd_T36 l i).f4 ≤ (l.length : Int)))
theorem fwd_of {l : List S36} (h : fwdB l = true) : Fwd l := by
 intro i h0 h1 hj
 have := List.all_eq_true.1 h i.toNat (by simp; omega)
 have e : ((i.toNat : Nat) : Int) = i := by omega
 rw [e] at this
 have hj' : ((rd_T36 l i).f0 == 8 || (rd_T36 l i).f0 == 9 || (rd_T36 l i).f0 == 10) = true := by
  rcases hj with h | h | h <;> simp [h]
 rw [hj'] at this
 simpa using this
def anyStep (_ : S36) : Bool := true
def noDrain (x : S36) : Bool := !(x.f0 == 6) && !(x.f0 == 5)
def ledF (l : List S36) (thr : S36 → Bool) (a : Int) : Int → Int := walkF l thr (((l.length : Int) - a).toNat + 1) a (fun _ => 0)
def cfg_Reach.f (l0 : List S36) (a1 a2 : Int) : Option Bool := if l0.length ≤ 1000000 ∧ fwdB l0 = true then (if (Lit.int .i64 a2).wf = true then some (decide (0 < ledF l0 anyStep a1 a2)) else none) else none
def cfg_Free.f (l0 : List S36) (a1 a2 : Int) : Option Bool := if l0.length ≤ 1000000 ∧ fwdB l0 = true then (if (Lit.int .i64 a2).wf = true then some (decide (0 < ledF l0 noDrain a1 a2)) else none) else none
theorem any_thr : Thr 40 anyStep := by
 intro x W
 have hu := Try.underlying36
 go_enter Try.func40, Try.ntmps40
 go_wp2
 go_ret
 exact ⟨rfl, below_alloc (Below.refl _ _) _⟩
theorem drain_thr : Thr 38 noDrain := by
 intro x W
 have hu := Try.underlying36
 by_cases h6 : x.f0 = 6
 ·have b6 : (x.f0 != 6) = false := by simpa using h6
  have hv := Aside0.mk (show noDrain x = false from by simp [noDrain, h6])
  clear h6
  go_enter Try.func38, Try.ntmps38
  go_wp2
  go_ret
  exact ⟨by rw [hv.out]; rfl, below_alloc (Below.refl _ _) _⟩
 ·have b6 : (x.f0 != 6) = true := by simpa using h6
  have hv := Aside0.mk (show noDrain x = (x.f0 != 5) from by simp [noDrain, h6, bne])
  clear h6
  go_enter Try.func38, Try.ntmps38
  go_wp2
  go_ret
  exact ⟨by rw [hv.out]; rfl, below_alloc (Below.refl _ _) _⟩
theorem unmet_zero (l : List S36) (m : Int → Int) : unmet l m ≤ l.length := by
 unfold unmet
 exact Nat.le_trans (List.length_filter_le _ _) (by simp)
/-- The world in which led calls its closure. -/
def ledW (w : World) (sl : Value) (ft : Nat) : World :=
 ((((w.alloc (.cells #[sl] 37)).alloc (.cells #[.func (.func ft) #[] #[]] 79)).alloc (.map #[] 0)).alloc (.cells #[.map (some (w.heap.size + 1 + 1))] 77)).alloc
  (.cells #[.func (.func 41) #[] #[.pointer (some ⟨w.heap.size, 0, none⟩), .pointer (some ⟨w.heap.size + 1 + 1 + 1, 0, none⟩), .pointer (some ⟨w.heap.size + 1, 0, none⟩), .pointer (some ⟨w.heap.size + 1 + 1 + 1 + 1, 0, none⟩)]] 84)
theorem cell_new1 (w : World) (v : Value) (t : TypeId) : (w.alloc (.cells #[v] t)).cell? ⟨w.heap.size, 0, none⟩ = some v := (blk_cell (blk_new w (.cells #[v] t)) 0).trans rfl
theorem ledW_below (w : World) (sl : Value) (ft : Nat) : Below w.heap.size w (ledW w sl ft) := below_alloc (below_alloc (below_alloc (below_alloc (below_alloc (Below.refl _ _) _) _) _) _) _
theorem ledW_map (w : World) (sl : Value) (ft : Nat) : MapIs (ledW w sl ft) (w.heap.size + 1 + 1) 0 (fun _ => 0) := by
 have h := MapIs.made ((w.alloc (.cells #[sl] 37)).alloc (.cells #[.func (.func ft) #[] #[]] 79))
 rw [World.size_alloc, World.size_alloc] at h
 exact (h.alloc _).alloc _
theorem ledW_held (w : World) (A : Option Addr) (c : Nat) (l : List S36) (ft : Nat) (hr : Kd.C k36 w A l.length l) :
 Held (ledW w (.slice A l.length c) ft) A c l w.heap.size (w.heap.size + 1 + 1 + 1) (w.heap.size + 1) (w.heap.size + 1 + 1 + 1 + 1) (w.heap.size + 1 + 1) ft := by
 refine ⟨?_, ?_, ?_, ?_, Kd.C_below hr (ledW_below w _ ft)⟩
 ·exact Lib.cell?_alloc_some _ (Lib.cell?_alloc_some _ (Lib.cell?_alloc_some _ (Lib.cell?_alloc_some _ (cell_new1 w _ _))))
 ·have h := cell_new1 (((w.alloc (.cells #[.slice A l.length c] 37)).alloc (.cells #[.func (.func ft) #[] #[]] 79)).alloc (.map #[] 0)) (.map (some (w.heap.size + 1 + 1))) 77
  rw [World.size_alloc, World.size_alloc, World.size_alloc] at h
  exact Lib.cell?_alloc_some _ h
 ·have h := cell_new1 (w.alloc (.cells #[.slice A l.length c] 37)) (.func (.func ft) #[] #[]) 79
  rw [World.size_alloc] at h
  exact Lib.cell?_alloc_some _ (Lib.cell?_alloc_some _ (Lib.cell?_alloc_some _ h))
 ·have h := cell_new1 ((((w.alloc (.cells #[.slice A l.length c] 37)).alloc (.cells #[.func (.func ft) #[] #[]] 79)).alloc (.map #[] 0)).alloc (.cells #[.map (some (w.heap.size + 1 + 1))] 77)) (.func (.func 41) #[] #[.pointer (some ⟨w.heap.size, 0, none⟩), .pointer (some ⟨w.heap.size + 1 + 1 + 1, 0, none⟩), .pointer (some ⟨w.heap.size + 1, 0, none⟩), .pointer (some ⟨w.heap.size + 1 + 1 + 1 + 1, 0, none⟩)]) 84
  rw [World.size_alloc, World.size_alloc, World.size_alloc, World.size_alloc] at h
  exact h
set_option maxHeartbeats 4000000 in
set_option maxRecDepth 100000 in
theorem led_calls (l : List S36) (thr : S36 → Bool) (ft : Nat) (hT : Hid (Thr ft thr)) (hE : ∀ args w, (callFunc ft args).run Try.prog w = .ok (.enter ft args) w) (hF : Hid (Fwd l)) (A : Option Addr) (c : Nat) (hcl : l.length ≤ c) (a : Int) (w : World) (hr : Hid (Kd.C k36 w A l.length l)) (hs : l.length < 1000000000000000000) :
 Calls Try.prog 37 #[.slice A l.length c, .int .i64 a, .func (.func ft) #[] #[]] w fun e w' => ∃ B n, e = .returned (.map (some B)) ∧ MapIs w' B n (ledF l thr a) ∧ Below w.heap.size w w' := by
 have hmm := @run_makeMap Try.prog
 go_enter Try.func37, Try.ntmps37
 go_wp2_with fail
 have H0 := Lib.hid (ledW_held w A c l ft hr.out)
 have M0 := Lib.hid (ledW_map w (.slice A l.length c) ft)
 have B0 := Lib.hid (ledW_below w (.slice A l.length c) ft)
 change Calls _ _ _ (ledW w (.slice A l.length c) ft) _
 generalize ledW w (.slice A l.length c) ft = W at H0 M0 B0 ⊢
 have hun := unmet_zero l (fun _ => 0)
 refine (walk_calls l thr ft hT hE hF A c hcl _ _ _ _ _ (((l.length : Int) - a).toNat + 1) a W 0 (fun _ => 0) (by omega) H0.out M0.out (fun x => by simp) (by omega) (by omega)).mono ?_
 rintro e w2 ⟨rfl, n', q1, q2, q3, q4⟩
 have hc := cell_map M0.out q4 H0.out.hm
 have Q1 := Lib.hid q1
 have Q4 := Lib.hid q4
 clear q1 q2 q3 q4
 go_wp2_with fail
 go_ret
 refine ⟨_, n', rfl, Q1.out, ?_⟩
 exact pw_below_grown B0.out _ B0.out.size Q4.out (fun k e => by cases e; omega)
set_option maxHeartbeats 4000000 in
set_option maxRecDepth 100000 in
theorem cfg_Reach.calls (A0 : Option Addr) (c0 : Nat) (l0 : List S36) (a1 a2 : Int) (r : Bool) (w : World) (hr0 : Kd.C k36 w A0 l0.length l0) (hc0 : l0.length ≤ c0) (h : cfg_Reach.f l0 a1 a2 = some r) :
 Calls Try.prog 36 #[.slice A0 l0.length c0, .int .i64 a1, .int .i64 a2] w fun e w' => e = .returned (.bool r) ∧ Below w.heap.size w w' := by
 unfold cfg_Reach.f at h
 by_cases h1 : l0.length ≤ 1000000 ∧ fwdB l0 = true
 ·rw [if_pos h1] at h
  by_cases h2 : (Lit.int .i64 a2).wf = true
  ·rw [if_pos h2] at h
   obtain rfl := Option.some.inj h
   have hF := Lib.hid (fwd_of h1.2)
   have hr := Lib.hid hr0
   have hlen : l0.length < 1000000000000000000 := by omega
   have W2 := Lib.hid h2
   clear h h1 h2 hr0
   go_enter Try.func36, Try.ntmps36
   go_wp2_with fail
   refine (led_calls l0 anyStep 40 (Lib.hid any_thr) (fun args w => by kernel_rfl) hF A0 c0 hc0 a1 w hr hlen).mono ?_
   rintro e w1 ⟨B, n, rfl, hm, hb⟩
   have hl := (hm.look a2 W2.out).1
   have HB := Lib.hid hb
   clear hm hb
   go_wp2_with fail
   go_ret
   exact ⟨rfl, HB.out⟩
  ·rw [if_neg h2] at h
   exact absurd h (by simp)
 ·rw [if_neg h1] at h
  exact absurd h (by simp)
set_option maxHeartbeats 4000000 in
set_option maxRecDepth 100000 in
theorem cfg_Free.calls (A0 : Option Addr) (c0 : Nat) (l0 : List S36) (a1 a2 : Int) (r : Bool) (w : World) (hr0 : Kd.C k36 w A0 l0.length l0) (hc0 : l0.length ≤ c0) (h : cfg_Free.f l0 a1 a2 = some r) :
 Calls Try.prog 34 #[.slice A0 l0.length c0, .int .i64 a1, .int .i64 a2] w fun e w' => e = .returned (.bool r) ∧ Below w.heap.size w w' := by
 unfold cfg_Free.f at h
 by_cases h1 : l0.length ≤ 1000000 ∧ fwdB l0 = true
 ·rw [if_pos h1] at h
  by_cases h2 : (Lit.int .i64 a2).wf = true
  ·rw [if_pos h2] at h
   obtain rfl := Option.some.inj h
   have hF := Lib.hid (fwd_of h1.2)
   have hr := Lib.hid hr0
   have hlen : l0.length < 1000000000000000000 := by omega
   have W2 := Lib.hid h2
   clear h h1 h2 hr0
   go_enter Try.func34, Try.ntmps34
   go_wp2_with fail
   refine (led_calls l0 noDrain 38 (Lib.hid drain_thr) (fun args w => by kernel_rfl) hF A0 c0 hc0 a1 w hr hlen).mono ?_
   rintro e w1 ⟨B, n, rfl, hm, hb⟩
   have hl := (hm.look a2 W2.out).1
   have HB := Lib.hid hb
   clear hm hb
   go_wp2_with fail
   go_ret
   exact ⟨rfl, HB.out⟩
  ·rw [if_neg h2] at h
   exact absurd h (by simp)
 ·rw [if_neg h1] at h
  exact absurd h (by simp)
end Go.Proofs.Ytphklaajolpieaa.Print
