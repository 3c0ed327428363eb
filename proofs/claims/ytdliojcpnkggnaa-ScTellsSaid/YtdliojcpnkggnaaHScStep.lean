/- sc.Step: its Lean function and its contract. -/
import Derived.Test.YtdliojcpnkggnaaHScOwn
import Derived.Test.YtdliojcpnkggnaaHScTaken
import Derived.Deep.QuietTactic
import Derived.BigQuiet
namespace Go.Proofs.Ytdliojcpnkggnaa.Print
open Go.RowKit Go.Proofs.YtdliojcpnkggnaaW.PrintWords Go.Proofs.YtdliojcpnkggnaaW.PrintLast Go.Proofs.YtdliojcpnkggnaaW.PrintMore
set_option linter.unusedVariables false
set_option linter.unusedSimpArgs false
/-- A state that may be. -/
def stateB (thr : List (List S39)) (mem : List Int) (ths : List S45) : Bool := decide (mem.length ≤ 1000000) && (decide (ths.length ≤ 1000) && (decide (ths.length = thr.length) && ((ths.all fun x => decide (x.f1.length = 4) && (decide (x.f3.length ≤ 1000000) && (decide (0 ≤ x.f0) && decide (x.f0 ≤ 1000000)))) && thr.all fun l => decide (l.length ≤ 1000000))))
theorem stateB_of {thr : List (List S39)} {mem : List Int} {ths : List S45} (h : stateB thr mem ths = true) : mem.length ≤ 1000000 ∧ ths.length ≤ 1000 ∧ ths.length = thr.length ∧ (∀ x ∈ ths, x.f1.length = 4 ∧ x.f3.length ≤ 1000000 ∧ 0 ≤ x.f0 ∧ x.f0 ≤ 1000000) ∧ ∀ l ∈ thr, l.length ≤ 1000000 := by
  unfold stateB at h
  simp only [Bool.and_eq_true, decide_eq_true_eq, List.all_eq_true] at h
  exact h
def sc_Step.f (l0_0 : List Int) (l0_1 : List (List S39)) (l1_0 : List Int) (l1_1 : List S45) (a2 : Int) : Option (List Int × (List S45) × Bool) :=
  if stateB l0_1 l1_0 l1_1 = true then
    (if a2 < 0 ∨ (l1_1.length : Int) ≤ a2 then some (l1_0, l1_1, false)
     else if ((rd_L3 l0_1 a2).length : Int) ≤ (rd_T45 l1_1 a2).f0 then some (l1_0, l1_1, false)
     else if stepB l1_0.length (rd_T39 (rd_L3 l0_1 a2) (rd_T45 l1_1 a2).f0) = true then some ((takeF (rd_T39 (rd_L3 l0_1 a2) (rd_T45 l1_1 a2).f0) l1_0 (rd_T45 l1_1 a2)).1, l1_1.set a2.toNat (takeF (rd_T39 (rd_L3 l0_1 a2) (rd_T45 l1_1 a2).f0) l1_0 (rd_T45 l1_1 a2)).2, true)
     else none)
  else none
set_option maxRecDepth 100000 in
set_option maxHeartbeats 4000000 in
theorem sc_Step.calls (A0_0 : Option Addr) (c0_0 : Nat) (l0_0 : List Int) (A0_1 : Option Addr) (c0_1 : Nat) (l0_1 : List (List S39)) (A1_0 : Option Addr) (c1_0 : Nat) (l1_0 : List Int) (A1_1 : Option Addr) (c1_1 : Nat) (l1_1 : List S45) (a2 : Int) (r1 : List Int) (r2 : List S45) (r3 : Bool) (w : World)
    (hr0_0 : Kd.C (Kd.int .i64) w A0_0 l0_0.length l0_0) (hc0_0 : l0_0.length ≤ c0_0) (hr0_1 : Kd.C (Kd.slice 39 k39) w A0_1 l0_1.length l0_1) (hc0_1 : l0_1.length ≤ c0_1) (hr1_0 : Kd.C (Kd.int .i64) w A1_0 l1_0.length l1_0) (hc1_0 : l1_0.length ≤ c1_0) (hr1_1 : Kd.C k45 w A1_1 l1_1.length l1_1) (hc1_1 : l1_1.length ≤ c1_1)
    (h : sc_Step.f l0_0 l0_1 l1_0 l1_1 a2 = some (r1, r2, r3)) :
    Calls Try.prog 17 #[.agg #[.slice A0_0 l0_0.length c0_0, .slice A0_1 l0_1.length c0_1], .agg #[.slice A1_0 l1_0.length c1_0, .slice A1_1 l1_1.length c1_1], .int .i64 a2] w fun e w' => ∃ v0_ v1_ : Value, e = .returned (.tuple #[.agg #[v0_, v1_], .bool r3]) ∧ Kd.V (Kd.int .i64) 3 w' w.heap.size (fun k_ => (w.heap.size ≤ k_)) v0_ r1 ∧ Kd.V k45 45 w' w.heap.size (fun k_ => (w.heap.size ≤ k_)) v1_ r2 ∧ Below w.heap.size w w' := by
  unfold sc_Step.f at h
  by_cases hst : stateB l0_1 l1_0 l1_1 = true
  · rw [if_pos hst] at h
    obtain ⟨b1, b2, b3, b4, b5⟩ := stateB_of hst
    have hu1 := Try.underlying28
    have hu2 := Try.underlying25
    have hu3 := Try.underlying45
    have hu4 := Try.underlying61
    have H := Aside0.mk h
    have HR01 := Aside0.mk hr0_1
    have HR10 := Aside0.mk hr1_0
    have HR11 := Aside0.mk hr1_1
    have HC10 := Aside0.mk hc1_0
    have HC11 := Aside0.mk hc1_1
    have HB1 := Aside0.mk b1
    have HB2 := Aside0.mk b2
    have HB3 := Aside0.mk b3
    have HB4 := Aside0.mk b4
    have HB5 := Aside0.mk b5
    clear h hr0_0 hc0_0 hr0_1 hc0_1 hr1_0 hc1_0 hr1_1 hc1_1 b1 b2 b3 b4 b5 hst
    obtain ⟨W1, hW1⟩ : ∃ W1, W1 = ((w.alloc (.cells #[.slice A0_0 l0_0.length c0_0, .slice A0_1 l0_1.length c0_1] 25)).alloc (.cells #[.slice A1_0 l1_0.length c1_0, .slice A1_1 l1_1.length c1_1] 28)).alloc (.cells #[.slice none 0 0, .slice none 0 0] 28) := ⟨_, rfl⟩
    have bP : W1.heap[w.heap.size]? = some (.cells #[.slice A0_0 l0_0.length c0_0, .slice A0_1 l0_1.length c0_1] 25 (0, 0)) := by rw [hW1]; exact blk_alloc (blk_alloc (blk_new w _) _) _
    have bS : W1.heap[w.heap.size + 1]? = some (.cells #[.slice A1_0 l1_0.length c1_0, .slice A1_1 l1_1.length c1_1] 28 (0, 0)) := by
      have := blk_alloc (blk_new (w.alloc (.cells #[.slice A0_0 l0_0.length c0_0, .slice A0_1 l0_1.length c0_1] 25)) (.cells #[.slice A1_0 l1_0.length c1_0, .slice A1_1 l1_1.length c1_1] 28)) (.cells #[.slice none 0 0, .slice none 0 0] 28)
      rw [World.size_alloc] at this; rw [hW1]; exact this
    have bR : W1.heap[w.heap.size + 1 + 1]? = some (.cells #[.slice none 0 0, .slice none 0 0] 28 (0, 0)) := by
      have := blk_new ((w.alloc (.cells #[.slice A0_0 l0_0.length c0_0, .slice A0_1 l0_1.length c0_1] 25)).alloc (.cells #[.slice A1_0 l1_0.length c1_0, .slice A1_1 l1_1.length c1_1] 28)) (.cells #[.slice none 0 0, .slice none 0 0] 28)
      rw [World.size_alloc, World.size_alloc] at this; rw [hW1]; exact this
    have hB1 : Below w.heap.size w W1 := by rw [hW1]; exact below_alloc (below_alloc (below_alloc (Below.refl _ _) _) _) _
    have es0 : W1.cell? ⟨w.heap.size + 1, 0, none⟩ = some (.slice A1_0 l1_0.length c1_0) := (blk_cell bS 0).trans rfl
    have es1 : W1.cell? ⟨w.heap.size + 1, 1, none⟩ = some (.slice A1_1 l1_1.length c1_1) := (blk_cell bS 1).trans rfl
    have HW1 := Aside0.mk hW1
    have BP := Aside0.mk bP
    have BR := Aside0.mk bR
    have HBW := Aside0.mk hB1
    clear hW1 bP bS bR hB1
    go_enter Try.func17, Try.ntmps17
    go_upto_region 1 with fail
    rw [← HW1.out]
    go_wp2_with (go_at_call 26; refine (own_calls A1_0 c1_0 l1_0 A1_1 c1_1 l1_1 W1 (Kd.C_below HR10.out HBW.out) HC10.out (Kd.C_below HR11.out HBW.out) HC11.out HB1.out HB2.out (fun x hx => ⟨by have := (HB4.out x hx).1; omega, (HB4.out x hx).2.1⟩)).mono ?_; rintro e w2 ⟨vm, vt, rfl, hRm, hSt, hb2⟩; obtain ⟨Am, cm, rfl⟩ := Kd.R_slice hRm; obtain ⟨At, ct, rfl⟩ := Kd.S_slice hSt; have HRM := Aside0.mk hRm; have HST := Aside0.mk hSt; have HB2' := Aside0.mk hb2; clear hRm hSt hb2)
    obtain ⟨W3, hW3⟩ : ∃ W3, W3 = w2.alloc (.cells #[.slice Am l1_0.length cm, .slice At l1_1.length ct] 28) := ⟨_, rfl⟩
    have hW12 : W1.heap.size ≤ w2.heap.size := HB2'.out.size
    have hW01 : w.heap.size ≤ W1.heap.size := HBW.out.size
    have bO : W3.heap[w2.heap.size]? = some (.cells #[.slice Am l1_0.length cm, .slice At l1_1.length ct] 28 (0, 0)) := by rw [hW3]; exact blk_new w2 _
    have hb23 : Below w2.heap.size w2 W3 := by rw [hW3]; exact below_alloc (Below.refl _ _) _
    have hJ3 : SJ w.heap.size (.slice Am l1_0.length cm) (.slice At l1_1.length ct) l1_0 l1_1 W3 := SJ.below ⟨Kd.R_lower HRM.out hW01, Kd.S_lower HST.out hW01⟩ hb23
    have bP3 : W3.heap[w.heap.size]? = some (.cells #[.slice A0_0 l0_0.length c0_0, .slice A0_1 l0_1.length c0_1] 25 (0, 0)) := blk_below (blk_below BP.out HB2'.out) hb23
    have bR3 : W3.heap[w.heap.size + 1 + 1]? = some (.cells #[.slice none 0 0, .slice none 0 0] 28 (0, 0)) := blk_below (blk_below BR.out HB2'.out) hb23
    have hB3 : Below w.heap.size w W3 := below_step (below_step HBW.out HB2'.out) hb23
    have hgO : w.heap.size + 1 + 1 ≠ w2.heap.size := by have := blk_lt BR.out; omega
    have eo1 : W3.cell? ⟨w2.heap.size, 1, none⟩ = some (.slice At l1_1.length ct) := (blk_cell bO 1).trans rfl
    have eo0 : W3.cell? ⟨w2.heap.size, 0, none⟩ = some (.slice Am l1_0.length cm) := (blk_cell bO 0).trans rfl
    have ep1 : W3.cell? ⟨w.heap.size, 1, none⟩ = some (.slice A0_1 l0_1.length c0_1) := (blk_cell bP3 1).trans rfl
    rw [← hW3]
    clear BP BR HBW HRM HST HB2' es0 es1 hb23 hW3
    have h := H.out
    clear H
    by_cases q1 : a2 < 0
    · rw [if_pos (Or.inl q1)] at h
      simp only [Option.some.injEq, Prod.mk.injEq] at h
      obtain ⟨rfl, rfl, rfl⟩ := h
      have p1 : (a2 < 0) = True := eq_true q1
      go_quiet (fail)
      clear p1 q1 eo0 eo1 ep1
      have n_ := hJ3.drewN nq
      have bR4 := blk_drewN bR3 nq
      have hB4 := pw_below_drewN hB3 nq
      have bO4 := blk_drewN bO nq
      clear hJ3 bR3 hB3 bO bP3
      generalize W3.drewN nq = W4 at n_ bR4 hB4 bO4 ⊢
      have eo0 : W4.cell? ⟨w2.heap.size, 0, none⟩ = some (.slice Am l1_0.length cm) := (blk_cell bO4 0).trans rfl
      have eo1 : W4.cell? ⟨w2.heap.size, 1, none⟩ = some (.slice At l1_1.length ct) := (blk_cell bO4 1).trans rfl
      have ef0 := blk_frozen bR4 0
      have ef1 := blk_frozen bR4 1
      have er0 : W4.cell? ⟨w.heap.size + 1 + 1, 0, none⟩ = some (.slice none 0 0) := (blk_cell bR4 0).trans rfl
      have er1 : W4.cell? ⟨w.heap.size + 1 + 1, 1, none⟩ = some (.slice none 0 0) := (blk_cell bR4 1).trans rfl
      have N_ := Aside0.mk n_
      have BR4 := Aside0.mk bR4
      have HB4' := Aside0.mk hB4
      clear n_ bR4 hB4 bO4
      go_wp2_with fail
      have eb0 : ((W4.setCell ⟨w.heap.size + 1 + 1, 0, none⟩ (.slice Am l1_0.length cm)).setCell ⟨w.heap.size + 1 + 1, 1, none⟩ (.slice At l1_1.length ct)).cell? ⟨w.heap.size + 1 + 1, 0, none⟩ = some (.slice Am l1_0.length cm) := (blk_cell (blk_set (blk_set BR4.out 0 _) 1 _) 0).trans rfl
      have eb1 : ((W4.setCell ⟨w.heap.size + 1 + 1, 0, none⟩ (.slice Am l1_0.length cm)).setCell ⟨w.heap.size + 1 + 1, 1, none⟩ (.slice At l1_1.length ct)).cell? ⟨w.heap.size + 1 + 1, 1, none⟩ = some (.slice At l1_1.length ct) := (blk_cell (blk_set (blk_set BR4.out 0 _) 1 _) 1).trans rfl
      have hJ5 := (N_.out.other BR4.out (j := 0) (by decide) (by decide) (by decide) (.slice Am l1_0.length cm)).other (blk_set BR4.out 0 _) (j := 1) (by decide) (by decide) (by decide) (.slice At l1_1.length ct)
      refine bodyPost_ret (v := .tuple #[.agg #[.slice Am l1_0.length cm, .slice At l1_1.length ct], .bool false]) (by simp [results, Try.results17, go_sem, eb0, eb1]) rfl ⟨_, _, rfl, Kd.R_V (Kd.R_mono (Kd.R_bound hJ5.mem) (fun _ hk => hk.2.1)), Kd.S_V (Kd.S_mono (Kd.S_bound hJ5.ths) (fun _ hk => hk.2.1)), below_set (below_set HB4'.out (by omega)) (by omega)⟩
    have p1 : (a2 < 0) = False := eq_false q1
    by_cases q2 : (l1_1.length : Int) ≤ a2
    · rw [if_pos (Or.inr q2)] at h
      simp only [Option.some.injEq, Prod.mk.injEq] at h
      obtain ⟨rfl, rfl, rfl⟩ := h
      have p2 : ((l1_1.length : Int) ≤ a2) = True := eq_true q2
      go_quiet (fail)
      clear p1 p2 q1 q2 eo0 eo1 ep1
      have n_ := hJ3.drewN nq
      have bR4 := blk_drewN bR3 nq
      have hB4 := pw_below_drewN hB3 nq
      have bO4 := blk_drewN bO nq
      clear hJ3 bR3 hB3 bO bP3
      generalize W3.drewN nq = W4 at n_ bR4 hB4 bO4 ⊢
      have eo0 : W4.cell? ⟨w2.heap.size, 0, none⟩ = some (.slice Am l1_0.length cm) := (blk_cell bO4 0).trans rfl
      have eo1 : W4.cell? ⟨w2.heap.size, 1, none⟩ = some (.slice At l1_1.length ct) := (blk_cell bO4 1).trans rfl
      have ef0 := blk_frozen bR4 0
      have ef1 := blk_frozen bR4 1
      have er0 : W4.cell? ⟨w.heap.size + 1 + 1, 0, none⟩ = some (.slice none 0 0) := (blk_cell bR4 0).trans rfl
      have er1 : W4.cell? ⟨w.heap.size + 1 + 1, 1, none⟩ = some (.slice none 0 0) := (blk_cell bR4 1).trans rfl
      have N_ := Aside0.mk n_
      have BR4 := Aside0.mk bR4
      have HB4' := Aside0.mk hB4
      clear n_ bR4 hB4 bO4
      go_wp2_with fail
      have eb0 : ((W4.setCell ⟨w.heap.size + 1 + 1, 0, none⟩ (.slice Am l1_0.length cm)).setCell ⟨w.heap.size + 1 + 1, 1, none⟩ (.slice At l1_1.length ct)).cell? ⟨w.heap.size + 1 + 1, 0, none⟩ = some (.slice Am l1_0.length cm) := (blk_cell (blk_set (blk_set BR4.out 0 _) 1 _) 0).trans rfl
      have eb1 : ((W4.setCell ⟨w.heap.size + 1 + 1, 0, none⟩ (.slice Am l1_0.length cm)).setCell ⟨w.heap.size + 1 + 1, 1, none⟩ (.slice At l1_1.length ct)).cell? ⟨w.heap.size + 1 + 1, 1, none⟩ = some (.slice At l1_1.length ct) := (blk_cell (blk_set (blk_set BR4.out 0 _) 1 _) 1).trans rfl
      have hJ5 := (N_.out.other BR4.out (j := 0) (by decide) (by decide) (by decide) (.slice Am l1_0.length cm)).other (blk_set BR4.out 0 _) (j := 1) (by decide) (by decide) (by decide) (.slice At l1_1.length ct)
      refine bodyPost_ret (v := .tuple #[.agg #[.slice Am l1_0.length cm, .slice At l1_1.length ct], .bool false]) (by simp [results, Try.results17, go_sem, eb0, eb1]) rfl ⟨_, _, rfl, Kd.R_V (Kd.R_mono (Kd.R_bound hJ5.mem) (fun _ hk => hk.2.1)), Kd.S_V (Kd.S_mono (Kd.S_bound hJ5.ths) (fun _ hk => hk.2.1)), below_set (below_set HB4'.out (by omega)) (by omega)⟩
    rw [if_neg (fun hh => hh.elim q1 q2)] at h
    obtain ⟨t, rfl⟩ : ∃ t : Nat, a2 = (t : Int) := ⟨a2.toNat, by omega⟩
    have ht : t < l1_1.length := by omega
    obtain ⟨x, hx⟩ : ∃ x, l1_1[t]? = some x := ⟨_, List.getElem?_eq_getElem ht⟩
    have hxe : rd_T45 l1_1 (t : Int) = x := by unfold rd_T45; rw [Int.toNat_natCast, List.getD_eq_getElem?_getD, hx]; rfl
    rw [hxe] at h
    obtain ⟨hx1, hx3, hx0, hx9⟩ := HB4.out x (List.mem_of_getElem? hx)
    obtain ⟨g, ctt, hform, hgb, hglt, _, _⟩ := Kd.R_form (Kd.S_R hJ3.ths) (by omega)
    obtain rfl : At = some ⟨g, 0, none⟩ := by injection hform
    obtain rfl : ct = ctt := by injection hform
    obtain ⟨gr, cr, v3, hL, _, _, _⟩ := hJ3.lend x hx (by omega)
    have ec0 := hL.c0
    obtain ⟨adp, Ar, crr, eA, hrc, hrl, hrC⟩ := at_L3 (Kd.C_below HR01.out hB3) (t : Int) (by omega) (by have := HB3.out; omega)
    subst eA
    rw [Int.toNat_natCast] at hrc
    have p2 : ((l1_1.length : Int) ≤ (t : Int)) = False := eq_false (by omega)
    have p3 : ((t : Int) < (l1_1.length : Int)) = True := eq_true (by omega)
    have p4 : (0 ≤ (t : Int)) = True := eq_true (by omega)
    have p5 : (t < l1_1.length) = True := eq_true ht
    have hlen : l1_1.length = l0_1.length := HB3.out
    have p6 : ((t : Int) < (l0_1.length : Int)) = True := eq_true (by omega)
    have p7 : (t < l0_1.length) = True := eq_true (by omega)
    have p8 : ((l1_1.length : Int) ≤ (t : Int)) = False := p2
    have p9 : (l1_1.length ≤ t) = False := eq_false (by omega)
    have p10 : ((t : Int) < 0) = False := p1
    by_cases q3 : ((rd_L3 l0_1 (t : Int)).length : Int) ≤ x.f0
    · rw [if_pos q3] at h
      simp only [Option.some.injEq, Prod.mk.injEq] at h
      obtain ⟨rfl, rfl, rfl⟩ := h
      have p11 : (((rd_L3 l0_1 (t : Int)).length : Int) ≤ x.f0) = True := eq_true q3
      clear hlen q1 q2 q3 p2 ht
      go_quiet (fail)
      clear eo0 eo1 ep1 ec0 hrc p1 p3 p4 p5 p6 p7 p8 p9 p10 p11
      have n_ := hJ3.drewN nq
      have bR4 := blk_drewN bR3 nq
      have hB4 := pw_below_drewN hB3 nq
      have bO4 := blk_drewN bO nq
      clear hJ3 bR3 hB3 bO bP3
      generalize W3.drewN nq = W4 at n_ bR4 hB4 bO4 ⊢
      have eo0 : W4.cell? ⟨w2.heap.size, 0, none⟩ = some (.slice Am l1_0.length cm) := (blk_cell bO4 0).trans rfl
      have eo1 : W4.cell? ⟨w2.heap.size, 1, none⟩ = some (.slice (some ⟨g, 0, none⟩) l1_1.length ct) := (blk_cell bO4 1).trans rfl
      have ef0 := blk_frozen bR4 0
      have ef1 := blk_frozen bR4 1
      have er0 : W4.cell? ⟨w.heap.size + 1 + 1, 0, none⟩ = some (.slice none 0 0) := (blk_cell bR4 0).trans rfl
      have er1 : W4.cell? ⟨w.heap.size + 1 + 1, 1, none⟩ = some (.slice none 0 0) := (blk_cell bR4 1).trans rfl
      have N_ := Aside0.mk n_
      have BR4 := Aside0.mk bR4
      have HB4' := Aside0.mk hB4
      clear n_ bR4 hB4 bO4
      go_wp2_with fail
      have eb0 : ((W4.setCell ⟨w.heap.size + 1 + 1, 0, none⟩ (.slice Am l1_0.length cm)).setCell ⟨w.heap.size + 1 + 1, 1, none⟩ (.slice (some ⟨g, 0, none⟩) l1_1.length ct)).cell? ⟨w.heap.size + 1 + 1, 0, none⟩ = some (.slice Am l1_0.length cm) := (blk_cell (blk_set (blk_set BR4.out 0 _) 1 _) 0).trans rfl
      have eb1 : ((W4.setCell ⟨w.heap.size + 1 + 1, 0, none⟩ (.slice Am l1_0.length cm)).setCell ⟨w.heap.size + 1 + 1, 1, none⟩ (.slice (some ⟨g, 0, none⟩) l1_1.length ct)).cell? ⟨w.heap.size + 1 + 1, 1, none⟩ = some (.slice (some ⟨g, 0, none⟩) l1_1.length ct) := (blk_cell (blk_set (blk_set BR4.out 0 _) 1 _) 1).trans rfl
      have hJ5 := (N_.out.other BR4.out (j := 0) (by decide) (by decide) (by decide) (.slice Am l1_0.length cm)).other (blk_set BR4.out 0 _) (j := 1) (by decide) (by decide) (by decide) (.slice (some ⟨g, 0, none⟩) l1_1.length ct)
      refine bodyPost_ret (v := .tuple #[.agg #[.slice Am l1_0.length cm, .slice (some ⟨g, 0, none⟩) l1_1.length ct], .bool false]) (by simp [results, Try.results17, go_sem, eb0, eb1]) rfl ⟨_, _, rfl, Kd.R_V (Kd.R_mono (Kd.R_bound hJ5.mem) (fun _ hk => hk.2.1)), Kd.S_V (Kd.S_mono (Kd.S_bound hJ5.ths) (fun _ hk => hk.2.1)), below_set (below_set HB4'.out (by omega)) (by omega)⟩
    rw [if_neg q3] at h
    have p11 : (((rd_L3 l0_1 (t : Int)).length : Int) ≤ x.f0) = False := eq_false q3
    by_cases q4 : stepB l1_0.length (rd_T39 (rd_L3 l0_1 (t : Int)) x.f0) = true
    · rw [if_pos q4] at h
      simp only [Option.some.injEq, Prod.mk.injEq] at h
      obtain ⟨rfl, rfl, rfl⟩ := h
      have Q1 := Aside0.mk q1
      have Q2 := Aside0.mk q2
      have Q3 := Aside0.mk q3
      have Q4 := Aside0.mk q4
      have HL := Aside0.mk hlen
      have HT := Aside0.mk ht
      clear hlen q1 q2 q3 q4 p2 ht
      go_quiet (fail)
      have hJ4 := hJ3.drewN nq
      have bR4 := blk_drewN bR3 nq
      have hB4 := pw_below_drewN hB3 nq
      have bO4 := blk_drewN bO nq
      have bP4 := blk_drewN bP3 nq
      clear hJ3 bR3 hB3 bO bP3 hL ec0 hrc eo0 eo1 ep1 hrC hrl
      generalize W3.drewN nq = W4 at hJ4 bR4 hB4 bO4 bP4 ⊢
      have eo0 : W4.cell? ⟨w2.heap.size, 0, none⟩ = some (.slice Am l1_0.length cm) := (blk_cell bO4 0).trans rfl
      have eo1 : W4.cell? ⟨w2.heap.size, 1, none⟩ = some (.slice (some ⟨g, 0, none⟩) l1_1.length ct) := (blk_cell bO4 1).trans rfl
      have HJ4 := Aside0.mk hJ4
      have BR4 := Aside0.mk bR4
      have HB4' := Aside0.mk hB4
      have BO4 := Aside0.mk bO4
      have BP4 := Aside0.mk bP4
      clear hJ4 bR4 hB4 bO4 bP4
      go_wp2_with fail
      go_still_tail 7, (by kernel_rfl)
      change wpList _ _ _ _ _ W4.drew
      go_upto_region 5 with fail
      obtain ⟨W5, hW5⟩ : ∃ W5, W5 = (W4.alloc (.cells #[.pointer (some ⟨g, t * 4, none⟩), .slice Am l1_0.length cm] 61)).drew := ⟨_, rfl⟩
      have bT : W5.heap[W4.heap.size]? = some (.cells #[.pointer (some ⟨g, t * 4, none⟩), .slice Am l1_0.length cm] 61 (0, 0)) := by rw [hW5]; exact blk_drew (blk_new W4 _)
      have hb45 : Below W4.heap.size W4 W5 := by rw [hW5]; exact below_drew1 (below_alloc (Below.refl _ _) _)
      have hJ5 := HJ4.out.below hb45
      have bR5 := blk_below BR4.out hb45
      have bO5 := blk_below BO4.out hb45
      have bP5 := blk_below BP4.out hb45
      have hB5 := below_step HB4'.out hb45
      rw [← hW5]
      clear eo0 eo1 hb45 HJ4 BR4 HB4' BO4 BP4 p11
      have eo1 : W5.cell? ⟨w2.heap.size, 1, none⟩ = some (.slice (some ⟨g, 0, none⟩) l1_1.length ct) := (blk_cell bO5 1).trans rfl
      have ep1 : W5.cell? ⟨w.heap.size, 1, none⟩ = some (.slice (some adp) l0_1.length c0_1) := (blk_cell bP5 1).trans rfl
      have q3 := Q3.out
      obtain ⟨gr5, cr5, v35, hL5, _, _, _⟩ := hJ5.lend x hx (by omega)
      have ec0 := hL5.c0
      obtain ⟨adq, Ar5, crr5, eA5, hrc, hrl, hrC⟩ := at_L3 (Kd.C_below HR01.out hB5) (t : Int) (by omega) (by have := HT.out; have := HL.out; omega)
      obtain rfl : adp = adq := by injection eA5
      rw [Int.toNat_natCast] at hrc
      obtain ⟨ade, eE, hs0, hs1, hs2, hs3, hs4⟩ := at_T39 hrC x.f0 hx0 (by omega)
      subst eE
      have p11 : (0 ≤ x.f0) = True := eq_true hx0
      have p12 : (x.f0 < ((rd_L3 l0_1 (t : Int)).length : Int)) = True := eq_true (by omega)
      have HJ5 := Aside0.mk hJ5
      have BR5 := Aside0.mk bR5
      have HB5' := Aside0.mk hB5
      have BO5 := Aside0.mk bO5
      have BT5 := Aside0.mk bT
      clear hJ5 bR5 hB5 bO5 bP5 bT hL5 hrC hrl q3 hW5
      go_still_tail 14, (by kernel_rfl)
      change wpList _ _ _ _ _ W5.drew
      go_wp2_with (go_at_call 27; refine (take_any (HJ5.out.below (below_drew1 (Below.refl _ _))) hx hx1 ⟨hx0, hx9⟩ (rd_T39 (rd_L3 l0_1 (t : Int)) x.f0) Q4.out (blk_drew BT5.out)).mono ?_; rintro e w6 ⟨rfl, hJ6, hR6⟩; have bO6 := hR6.2 _ _ (blk_drew BO5.out); have bR6 := hR6.2 _ _ (blk_drew BR5.out); have HB6 := Aside0.mk (hR6.1 w rfl (below_drew1 HB5'.out)); have eo0 : w6.cell? ⟨w2.heap.size, 0, none⟩ = some (.slice Am l1_0.length cm) := (blk_cell bO6 0).trans rfl; have eo1 : w6.cell? ⟨w2.heap.size, 1, none⟩ = some (.slice (some ⟨g, 0, none⟩) l1_1.length ct) := (blk_cell bO6 1).trans rfl; have ef0 := blk_frozen bR6 0; have ef1 := blk_frozen bR6 1; have er0 : w6.cell? ⟨w.heap.size + 1 + 1, 0, none⟩ = some (.slice none 0 0) := (blk_cell bR6 0).trans rfl; have er1 : w6.cell? ⟨w.heap.size + 1 + 1, 1, none⟩ = some (.slice none 0 0) := (blk_cell bR6 1).trans rfl; have HJ6 := Aside0.mk hJ6; have BR6 := Aside0.mk bR6; clear hJ6 bO6 bR6 hR6)
      have eb0 : ((w6.setCell ⟨w.heap.size + 1 + 1, 0, none⟩ (.slice Am l1_0.length cm)).setCell ⟨w.heap.size + 1 + 1, 1, none⟩ (.slice (some ⟨g, 0, none⟩) l1_1.length ct)).cell? ⟨w.heap.size + 1 + 1, 0, none⟩ = some (.slice Am l1_0.length cm) := (blk_cell (blk_set (blk_set BR6.out 0 _) 1 _) 0).trans rfl
      have eb1 : ((w6.setCell ⟨w.heap.size + 1 + 1, 0, none⟩ (.slice Am l1_0.length cm)).setCell ⟨w.heap.size + 1 + 1, 1, none⟩ (.slice (some ⟨g, 0, none⟩) l1_1.length ct)).cell? ⟨w.heap.size + 1 + 1, 1, none⟩ = some (.slice (some ⟨g, 0, none⟩) l1_1.length ct) := (blk_cell (blk_set (blk_set BR6.out 0 _) 1 _) 1).trans rfl
      have hJ7 := (HJ6.out.other BR6.out (j := 0) (by decide) (by decide) (by decide) (.slice Am l1_0.length cm)).other (blk_set BR6.out 0 _) (j := 1) (by decide) (by decide) (by decide) (.slice (some ⟨g, 0, none⟩) l1_1.length ct)
      refine bodyPost_ret (v := .tuple #[.agg #[.slice Am l1_0.length cm, .slice (some ⟨g, 0, none⟩) l1_1.length ct], .bool true]) (by simp [results, Try.results17, go_sem, eb0, eb1]) rfl ⟨_, _, rfl, Kd.R_V (Kd.R_mono (Kd.R_bound hJ7.mem) (fun _ hk => hk.2.1)), Kd.S_V (Kd.S_mono (Kd.S_bound hJ7.ths) (fun _ hk => hk.2.1)), below_set (below_set HB6.out (by omega)) (by omega)⟩
    · rw [if_neg q4] at h; exact absurd h (by simp)
  · rw [if_neg hst] at h; exact absurd h (by simp)
end Go.Proofs.Ytdliojcpnkggnaa.Print
