/- taker.take, over a state of one's own. -/
import Derived.Test.YtdliojcpnkggnaaHScTake
import Derived.Test.YtdliojcpnkggnaaHScJ
namespace Go.Proofs.Ytdliojcpnkggnaa.Print
open Go.RowKit Go.Proofs.YtdliojcpnkggnaaW.PrintWords Go.Proofs.YtdliojcpnkggnaaW.PrintLast Go.Proofs.YtdliojcpnkggnaaW.PrintMore
set_option linter.unusedVariables false
set_option linter.unusedSimpArgs false
/-- What a step makes of what locations have, and of its thread. -/
def takeF (x : S39) (mem : List Int) (th : S45) : List Int × S45 :=
  if x.f0 = 1 then (mem, ⟨th.f0 + 1, th.f1.set x.f1.toNat x.f3, th.f2, th.f3⟩)
  else if x.f0 = 2 then (mem, ⟨th.f0 + 1, th.f1.set x.f1.toNat (rd mem x.f2), th.f2, th.f3⟩)
  else if x.f0 = 3 then (mem.set x.f2.toNat (rd th.f1 x.f1), ⟨th.f0 + 1, th.f1.set x.f1.toNat (rd th.f1 x.f1), th.f2, th.f3⟩)
  else if x.f0 = 4 then (mem.set x.f2.toNat x.f3, ⟨th.f0 + 1, th.f1, th.f2, th.f3⟩)
  else if x.f0 = 5 then (mem.set x.f2.toNat (rd th.f1 x.f1), ⟨th.f0 + 1, th.f1.set x.f1.toNat (rd mem x.f2), th.f2, th.f3⟩)
  else if x.f0 = 7 then (mem, ⟨th.f0 + 1, th.f1, rd th.f1 x.f1 == x.f3, th.f3⟩)
  else if x.f0 = 8 then (mem, ⟨x.f4, th.f1, th.f2, th.f3⟩)
  else if x.f0 = 9 then (mem, ⟨if th.f2 = true then x.f4 else th.f0 + 1, th.f1, th.f2, th.f3⟩)
  else if x.f0 = 10 then (mem, ⟨if th.f2 = true then th.f0 + 1 else x.f4, th.f1, th.f2, th.f3⟩)
  else (mem, ⟨th.f0 + 1, th.f1, th.f2, th.f3⟩)
/-- A step that may be taken. -/
def stepB (m : Nat) (x : S39) : Bool := (decide (1 ≤ x.f0) && decide (x.f0 ≤ 10)) && ((decide (0 ≤ x.f1) && decide (x.f1 < 4)) && (!(x.f0 == 2 || x.f0 == 3 || x.f0 == 4 || x.f0 == 5) || (decide (0 ≤ x.f2) && decide (x.f2 < (m : Int)))))
/-- What is left as it was. -/
def Reach (base : Nat) (W W' : World) : Prop := (∀ w0 : World, w0.heap.size = base → Below w0.heap.size w0 W → Below w0.heap.size w0 W') ∧ (∀ (k : Nat) (cells : Array Value), W.heap[k]? = some (.cells cells 28 (0, 0)) → W'.heap[k]? = some (.cells cells 28 (0, 0)))
theorem Reach.trans {base : Nat} {A B C : World} (h : Reach base A B) (k : Reach base B C) : Reach base A C := ⟨fun w0 e hb => k.1 w0 e (h.1 w0 e hb), fun i c hi => k.2 i c (h.2 i c hi)⟩
theorem Reach.below {base : Nat} {A B : World} (hb : Below A.heap.size A B) : Reach base A B := ⟨fun w0 e h => below_step h hb, fun k c hk => blk_below hk hb⟩
theorem Reach.drewN (base : Nat) (A : World) (n : Nat) : Reach base A (A.drewN n) := ⟨fun w0 e h => pw_below_drewN h n, fun k c hk => blk_drewN hk n⟩
theorem Reach.set {base g j t : Nat} {A : World} {cells : Array Value} {u : Value} (hg : base ≤ g) (ht : A.heap[g]? = some (.cells cells t (0, 0))) (hne : t ≠ 28) : Reach base A (A.setCell ⟨g, j, none⟩ u) :=
  ⟨fun w0 e h => below_set h (by omega), fun k c hk => (Below.heap_setCell A ⟨g, j, none⟩ u k (types_ne hk ht hne.symm)).trans hk⟩
theorem SJ.gBase {base g n cap : Nat} {vm : Value} {mem : List Int} {ths : List S45} {W : World} (h : SJ base vm (.slice (some ⟨g, 0, none⟩) n cap) mem ths W) : base ≤ g := Kd.S_base h.ths g (by simp [Value.ownBlock])
theorem SJ.gTyped {base g n cap : Nat} {vm : Value} {mem : List Int} {ths : List S45} {W : World} (h : SJ base vm (.slice (some ⟨g, 0, none⟩) n cap) mem ths W) : ∃ cells, W.heap[g]? = some (.cells cells 45 (0, 0)) := Kd.S_typed h.ths g (by simp [Value.ownBlock])
theorem SJ.mTyped {base g n cap : Nat} {vt : Value} {mem : List Int} {ths : List S45} {W : World} (h : SJ base (.slice (some ⟨g, 0, none⟩) n cap) vt mem ths W) : ∃ cells, W.heap[g]? = some (.cells cells 3 (0, 0)) := Kd.R_typed h.mem g (by simp [Value.ownBlock])
section
variable {base g n cap t : Nat} {vm : Value} {mem : List Int} {ths : List S45} {th : S45} {W : World}
/-- Its place is written. -/
theorem SJ.goAt (h : SJ base vm (.slice (some ⟨g, 0, none⟩) n cap) mem ths W) (hx : ths[t]? = some th) (hr : 0 < th.f1.length) (a : Int) :
    SJ base vm (.slice (some ⟨g, 0, none⟩) n cap) mem (ths.set t ⟨a, th.f1, th.f2, th.f3⟩) (W.setCell ⟨g, t * 4, none⟩ (.int .i64 a)) ∧ Reach base W (W.setCell ⟨g, t * 4, none⟩ (.int .i64 a)) := by
  obtain ⟨gr, cr, v3, hL, h1, h2, h3⟩ := h.lend th hx hr
  obtain ⟨c, hc⟩ := h.gTyped
  exact ⟨h2 a, Reach.set h.gBase hc (by decide)⟩
theorem SJ.goEq (h : SJ base vm (.slice (some ⟨g, 0, none⟩) n cap) mem ths W) (hx : ths[t]? = some th) (hr : 0 < th.f1.length) (b : Bool) :
    SJ base vm (.slice (some ⟨g, 0, none⟩) n cap) mem (ths.set t ⟨th.f0, th.f1, b, th.f3⟩) (W.setCell ⟨g, t * 4 + 2, none⟩ (.bool b)) ∧ Reach base W (W.setCell ⟨g, t * 4 + 2, none⟩ (.bool b)) := by
  obtain ⟨gr, cr, v3, hL, h1, h2, h3⟩ := h.lend th hx hr
  obtain ⟨c, hc⟩ := h.gTyped
  exact ⟨h3 b, Reach.set h.gBase hc (by decide)⟩
theorem SJ.goReg (h : SJ base vm (.slice (some ⟨g, 0, none⟩) n cap) mem ths W) (hx : ths[t]? = some th) {gr cr : Nat} (hc : W.cell? ⟨g, t * 4 + 1, none⟩ = some (.slice (some ⟨gr, 0, none⟩) th.f1.length cr)) (hb : base ≤ gr) (r : Nat) (hr : r < th.f1.length) (u : Int) :
    SJ base vm (.slice (some ⟨g, 0, none⟩) n cap) mem (ths.set t ⟨th.f0, th.f1.set r u, th.f2, th.f3⟩) (W.setCell ⟨gr, r, none⟩ (.int .i64 u)) ∧ Reach base W (W.setCell ⟨gr, r, none⟩ (.int .i64 u)) := by
  obtain ⟨gr', cr', v3, hL, h1, h2, h3⟩ := h.lend th hx (by omega)
  have e := hL.c1
  rw [hc] at e
  injection e with e
  injection e with e1 e2 e3
  injection e1 with e1
  injection e1 with e1
  subst e1
  obtain ⟨c, hcr⟩ := hL.tr
  exact ⟨h1 r u hr, Reach.set hb hcr (by decide)⟩
end
theorem set_get {ths : List S45} {t : Nat} {th th' : S45} (h : ths[t]? = some th) : (ths.set t th')[t]? = some th' := List.getElem?_set_self (List.getElem?_eq_some_iff.1 h).1
set_option maxHeartbeats 1000000 in
theorem take_any {base g n cap t bt : Nat} {vm : Value} {mem : List Int} {ths : List S45} {th : S45} {W : World} (h : SJ base vm (.slice (some ⟨g, 0, none⟩) n cap) mem ths W) (hx : ths[t]? = some th) (hr : th.f1.length = 4) (ha : 0 ≤ th.f0 ∧ th.f0 ≤ 1000000)
    (x : S39) (hok : stepB mem.length x = true) (hbt : W.heap[bt]? = some (.cells #[.pointer (some ⟨g, t * 4, none⟩), vm] 61 (0, 0))) :
    Calls Try.prog 27 #[.pointer (some ⟨bt, 0, none⟩), .agg #[.int .i64 x.f0, .int .i64 x.f1, .int .i64 x.f2, .int .i64 x.f3, .int .i64 x.f4]] W fun e w' => e = .returned (.tuple #[]) ∧ SJ base vm (.slice (some ⟨g, 0, none⟩) n cap) (takeF x mem th).1 (ths.set t (takeF x mem th).2) w' ∧ Reach base W w' := by
  obtain ⟨gr, cr, v3, hL, hs1, hs2, hs3⟩ := h.lend th hx (by omega)
  obtain ⟨cg, hcg⟩ := hL.tg
  obtain ⟨cgr, hcgr⟩ := hL.tr
  have hgb := h.gBase
  have hgrb : base ≤ gr := by
    have hS := Kd.S_R h.ths
    obtain ⟨c, hc, hM, hcc, _⟩ := Kd.R_elem hS z45 (t : Int) (by omega) (by have := (Kd.S_reads' h.ths).1; have := (List.getElem?_eq_some_iff.1 hx).1; omega)
    rw [List.getD_eq_getElem?_getD, show ((t : Int)).toNat = t by omega, hx] at hM
    obtain ⟨v1, v3', rfl, g1, g3⟩ := k45_openM hM
    have e := hcc 1 _ rfl
    rw [show ((t : Int)).toNat * k45.sz + 1 = t * 4 + 1 by show ((t : Int)).toNat * 4 + 1 = _; omega, hL.c1] at e
    have e := Option.some.inj e
    subst e
    exact Kd.R_base g1 gr (by simp [Value.ownBlock])
  obtain ⟨Am, cm, rfl⟩ := Kd.R_slice h.mem
  have hTk : Taken bt g (t * 4) gr cr Am mem.length cm th.f0 th.f2 W := ⟨(blk_cell hbt 0).trans rfl, (blk_cell hbt 1).trans rfl, hL.c0, by have := hL.c1; rwa [hr] at this, hL.c2, hL.f0, hL.f2, hL.n1, types_ne hbt hcg (by decide), types_ne hbt hcgr (by decide)⟩
  unfold stepB at hok
  simp only [Bool.and_eq_true, decide_eq_true_eq, Bool.or_eq_true, Bool.not_eq_true', beq_iff_eq] at hok
  obtain ⟨⟨o1, o2⟩, ⟨o3, o4⟩, o5⟩ := hok
  obtain ⟨r, hrr⟩ : ∃ r : Nat, x.f1 = (r : Int) := ⟨x.f1.toNat, by omega⟩
  have hr4 : r < 4 := by omega
  have hreg := hL.reg r (by omega)
  have ert : x.f1.toNat = r := by omega
  -- the registers' row, later
  have c1at : ∀ W1 : World, Below W.heap.size W W1 → W1.cell? ⟨g, t * 4 + 1, none⟩ = some (.slice (some ⟨gr, 0, none⟩) th.f1.length cr) := fun W1 hb => (hb.cell (p := ⟨g, t * 4 + 1, none⟩) (blk_lt hcg)).trans hL.c1
  -- the locations' row
  have memo : (x.f0 = 2 ∨ x.f0 = 3 ∨ x.f0 = 4 ∨ x.f0 = 5) → ∃ (l gm : Nat), x.f2 = (l : Int) ∧ l < mem.length ∧ Am = some ⟨gm, 0, none⟩ ∧ gm ≠ g ∧ gm ≠ gr ∧ gm ≠ bt ∧ base ≤ gm := by
    intro hm
    have : 0 ≤ x.f2 ∧ x.f2 < (mem.length : Int) := by
      rcases o5 with o5 | o5
      · exfalso
        simp at o5
        omega
      · exact o5
    obtain ⟨gm, cp, hv, hb, _, cm', hcm⟩ := Kd.R_form h.mem (by omega)
    injection hv with hv1 hv2 hv3
    refine ⟨x.f2.toNat, gm, by omega, by omega, hv1, types_ne hcm hcg (by decide), fun e => ?_, fun e => types_ne hbt hcm (by decide) e.symm, hb⟩
    subst e
    rw [hv1] at hL
    exact hL.m2 (by simp [Value.ownBlock])
  have fin : ∀ {W1 : World} {k : Nat}, Reach base W W1 → Reach base W (W1.drewN k) := fun hR => hR.trans (Reach.drewN _ _ _)
  by_cases k1 : x.f0 = 1
  · refine (take_imm bt g (t * 4) gr cr Am mem.length cm th.f0 th.f2 x r _ W hTk ha k1 hrr hr4 hreg.1 hreg.2).mono ?_
    rintro e w' ⟨rfl, W1, k, hb, rfl⟩
    obtain ⟨j1, r1⟩ := (h.below hb).goReg hx (c1at W1 hb) hgrb r (by omega) x.f3
    obtain ⟨j2, r2⟩ := j1.goAt (set_get hx) (by simp; omega) (th.f0 + 1)
    refine ⟨rfl, ?_, fin ((Reach.below hb).trans (r1.trans r2))⟩
    have := j2.drewN k
    rw [List.set_set] at this
    unfold takeF; rw [if_pos k1, ert]; exact this
  by_cases k2 : x.f0 = 2
  · obtain ⟨l, gm, e1, e2, rfl, m1, m2, m3, mb⟩ := memo (.inl k2)
    obtain ⟨hm, hg⟩ := row_cell h.mem e2
    refine (take_load bt g (t * 4) gr cr _ mem.length cm th.f0 th.f2 x r _ l gm _ W hTk ha k2 hrr hr4 hreg.1 hreg.2 e1 e2 rfl hm hg m1 m2 m3).mono ?_
    rintro e w' ⟨rfl, W1, k, hb, rfl⟩
    obtain ⟨j1, r1⟩ := (h.below hb).goReg hx (c1at W1 hb) hgrb r (by omega) (rd mem (l : Int))
    obtain ⟨j2, r2⟩ := j1.goAt (set_get hx) (by simp; omega) (th.f0 + 1)
    refine ⟨rfl, ?_, fin ((Reach.below hb).trans (r1.trans r2))⟩
    have := j2.drewN k
    rw [List.set_set] at this
    unfold takeF; rw [if_neg k1, if_pos k2, ert, e1]; exact this
  by_cases k3 : x.f0 = 3
  · obtain ⟨l, gm, e1, e2, rfl, m1, m2, m3, mb⟩ := memo (.inr (.inl k3))
    obtain ⟨hm, hg⟩ := row_cell h.mem e2
    refine (take_store bt g (t * 4) gr cr _ mem.length cm th.f0 th.f2 x r _ l gm _ W hTk ha k3 hrr hr4 hreg.1 hreg.2 e1 e2 rfl hm hg m1 m2 m3).mono ?_
    rintro e w' ⟨rfl, W1, k, hb, rfl⟩
    have j0 := (h.below hb).setMem e2 (rd th.f1 (r : Int))
    obtain ⟨cmm, hcmm⟩ := (h.below hb).mTyped
    have r0 : Reach base W1 (W1.setCell ⟨gm, l, none⟩ (.int .i64 (rd th.f1 (r : Int)))) := Reach.set mb hcmm (by decide)
    obtain ⟨j1, r1⟩ := j0.goReg hx ((World.cell?_setCell_far W1 ⟨gm, l, none⟩ ⟨g, t * 4 + 1, none⟩ _ m1).trans (c1at W1 hb)) hgrb r (by omega) (rd th.f1 (r : Int))
    obtain ⟨j2, r2⟩ := j1.goAt (set_get hx) (by simp; omega) (th.f0 + 1)
    refine ⟨rfl, ?_, fin ((Reach.below hb).trans (r0.trans (r1.trans r2)))⟩
    have := j2.drewN k
    rw [List.set_set] at this
    unfold takeF; rw [if_neg k1, if_neg k2, if_pos k3, ert, e1, hrr, show ((l : Int)).toNat = l by omega]; exact this
  by_cases k4 : x.f0 = 4
  · obtain ⟨l, gm, e1, e2, rfl, m1, m2, m3, mb⟩ := memo (.inr (.inr (.inl k4)))
    obtain ⟨hm, hg⟩ := row_cell h.mem e2
    refine (take_put bt g (t * 4) gr cr _ mem.length cm th.f0 th.f2 x l gm _ W hTk ha k4 e1 e2 rfl hm hg m1 m2 m3).mono ?_
    rintro e w' ⟨rfl, W1, k, hb, rfl⟩
    have j0 := (h.below hb).setMem e2 x.f3
    obtain ⟨cmm, hcmm⟩ := (h.below hb).mTyped
    have r0 : Reach base W1 (W1.setCell ⟨gm, l, none⟩ (.int .i64 x.f3)) := Reach.set mb hcmm (by decide)
    obtain ⟨j2, r2⟩ := j0.goAt hx (by omega) (th.f0 + 1)
    refine ⟨rfl, ?_, fin ((Reach.below hb).trans (r0.trans r2))⟩
    have := j2.drewN k
    unfold takeF; rw [if_neg k1, if_neg k2, if_neg k3, if_pos k4, e1, show ((l : Int)).toNat = l by omega]; exact this
  by_cases k5 : x.f0 = 5
  · obtain ⟨l, gm, e1, e2, rfl, m1, m2, m3, mb⟩ := memo (.inr (.inr (.inr k5)))
    obtain ⟨hm, hg⟩ := row_cell h.mem e2
    refine (take_xchg bt g (t * 4) gr cr _ mem.length cm th.f0 th.f2 x r _ l gm _ W hTk ha k5 hrr hr4 hreg.1 hreg.2 e1 e2 rfl hm hg m1 m2 m3).mono ?_
    rintro e w' ⟨rfl, W1, k, hb, rfl⟩
    have j0 := (h.below hb).setMem e2 (rd th.f1 (r : Int))
    obtain ⟨cmm, hcmm⟩ := (h.below hb).mTyped
    have r0 : Reach base W1 (W1.setCell ⟨gm, l, none⟩ (.int .i64 (rd th.f1 (r : Int)))) := Reach.set mb hcmm (by decide)
    obtain ⟨j1, r1⟩ := j0.goReg hx ((World.cell?_setCell_far W1 ⟨gm, l, none⟩ ⟨g, t * 4 + 1, none⟩ _ m1).trans (c1at W1 hb)) hgrb r (by omega) (rd mem (l : Int))
    obtain ⟨j2, r2⟩ := j1.goAt (set_get hx) (by simp; omega) (th.f0 + 1)
    refine ⟨rfl, ?_, fin ((Reach.below hb).trans (r0.trans (r1.trans r2)))⟩
    have := j2.drewN k
    rw [List.set_set] at this
    unfold takeF; rw [if_neg k1, if_neg k2, if_neg k3, if_neg k4, if_pos k5, ert, e1, hrr, show ((l : Int)).toNat = l by omega]; exact this
  by_cases k7 : x.f0 = 7
  · refine (take_cmp bt g (t * 4) gr cr Am mem.length cm th.f0 th.f2 x r _ W hTk ha k7 hrr hr4 hreg.1 hreg.2).mono ?_
    rintro e w' ⟨rfl, W1, k, hb, rfl⟩
    obtain ⟨j1, r1⟩ := (h.below hb).goEq hx (by omega) (rd th.f1 (r : Int) == x.f3)
    obtain ⟨j2, r2⟩ := j1.goAt (set_get hx) (by show 0 < th.f1.length; omega) (th.f0 + 1)
    refine ⟨rfl, ?_, fin ((Reach.below hb).trans (r1.trans r2))⟩
    have := j2.drewN k
    rw [List.set_set] at this
    unfold takeF; rw [if_neg k1, if_neg k2, if_neg k3, if_neg k4, if_neg k5, if_pos k7, hrr]; exact this
  -- jumps, a fence
  have jump : ∀ (a : Int) {e : Ending} {w' : World}, (e = .returned (.tuple #[]) ∧ ∃ W1 k, Below W.heap.size W W1 ∧ w' = (W1.setCell ⟨g, t * 4, none⟩ (.int .i64 a)).drewN k) → takeF x mem th = (mem, ⟨a, th.f1, th.f2, th.f3⟩) →
      e = .returned (.tuple #[]) ∧ SJ base (.slice Am mem.length cm) (.slice (some ⟨g, 0, none⟩) n cap) (takeF x mem th).1 (ths.set t (takeF x mem th).2) w' ∧ Reach base W w' := by
    rintro a e w' ⟨rfl, W1, k, hb, rfl⟩ ht
    obtain ⟨j2, r2⟩ := (h.below hb).goAt hx (by omega) a
    refine ⟨rfl, ?_, fin ((Reach.below hb).trans r2)⟩
    rw [ht]; exact j2.drewN k
  by_cases k8 : x.f0 = 8
  · exact (take_jmp bt g (t * 4) gr cr Am mem.length cm th.f0 th.f2 x W hTk ha k8).mono fun e w' hh => jump _ hh (by unfold takeF; rw [if_neg k1, if_neg k2, if_neg k3, if_neg k4, if_neg k5, if_neg k7, if_pos k8])
  by_cases k9 : x.f0 = 9
  · cases hq : th.f2 with
    | true => exact (take_je_t bt g (t * 4) gr cr Am mem.length cm th.f0 x W (hq ▸ hTk) ha k9).mono fun e w' hh => jump _ hh (by unfold takeF; rw [if_neg k1, if_neg k2, if_neg k3, if_neg k4, if_neg k5, if_neg k7, if_neg k8, if_pos k9, if_pos hq])
    | false => exact (take_je_f bt g (t * 4) gr cr Am mem.length cm th.f0 x W (hq ▸ hTk) ha k9).mono fun e w' hh => jump _ hh (by unfold takeF; rw [if_neg k1, if_neg k2, if_neg k3, if_neg k4, if_neg k5, if_neg k7, if_neg k8, if_pos k9, if_neg (by rw [hq]; simp)])
  by_cases k10 : x.f0 = 10
  · cases hq : th.f2 with
    | true => exact (take_jne_t bt g (t * 4) gr cr Am mem.length cm th.f0 x W (hq ▸ hTk) ha k10).mono fun e w' hh => jump _ hh (by unfold takeF; rw [if_neg k1, if_neg k2, if_neg k3, if_neg k4, if_neg k5, if_neg k7, if_neg k8, if_neg k9, if_pos k10, if_pos hq])
    | false => exact (take_jne_f bt g (t * 4) gr cr Am mem.length cm th.f0 x W (hq ▸ hTk) ha k10).mono fun e w' hh => jump _ hh (by unfold takeF; rw [if_neg k1, if_neg k2, if_neg k3, if_neg k4, if_neg k5, if_neg k7, if_neg k8, if_neg k9, if_pos k10, if_neg (by rw [hq]; simp)])
  · have k6 : x.f0 = 6 := by omega
    exact (take_fence bt g (t * 4) gr cr Am mem.length cm th.f0 th.f2 x W hTk ha k6).mono fun e w' hh => jump _ hh (by unfold takeF; rw [if_neg k1, if_neg k2, if_neg k3, if_neg k4, if_neg k5, if_neg k7, if_neg k8, if_neg k9, if_neg k10])
end Go.Proofs.Ytdliojcpnkggnaa.Print
