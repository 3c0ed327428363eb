/- A state of one's own, what a single store does to it, and which states and steps may be: no walk. -/
import Derived.Test.YtphklaajolpieaaHSq
import Derived.Lib.SliceRun
namespace Go.Proofs.Ytphklaajolpieaa.Print
open Go.RowKit Go.Proofs.YtphklaajolpieaaW.PrintWords Go.Proofs.YtphklaajolpieaaW.PrintLast Go.Proofs.YtphklaajolpieaaW.PrintMore
set_option linter.unusedVariables false
set_option linter.unusedSimpArgs false
theorem types_ne {W : World} {a b t u : Nat} {ca cb : Array Value} (ha : W.heap[a]? = some (.cells ca t (0, 0))) (hb : W.heap[b]? = some (.cells cb u (0, 0))) (h : t ≠ u) : a ≠ b := by
 intro e
 subst e
 rw [ha] at hb
 injection hb with hb
 injection hb with _ hb
 exact h hb
/-- A state: what locations have, and the threads, no two of which lead to one block. -/
structure SJ (base : Nat) (vm vt : Value) (mem : List Int) (ths : List S49) (W : World) : Prop where
 mem : Kd.R (Kd.int .i64) 3 W base (fun _ => True) vm mem
 ths : Kd.S k49 49 W base (fun k => some k ≠ vm.ownBlock) vt ths
theorem SJ.below {base : Nat} {vm vt : Value} {mem : List Int} {ths : List S49} {W W' : World} (h : SJ base vm vt mem ths W) (hb : Below W.heap.size W W') : SJ base vm vt mem ths W' := ⟨Kd.R_below h.mem hb, Kd.S_below h.ths hb⟩
theorem SJ.drewN {base : Nat} {vm vt : Value} {mem : List Int} {ths : List S49} {W : World} (h : SJ base vm vt mem ths W) (n : Nat) : SJ base vm vt mem ths (W.drewN n) := ⟨Kd.R_drewN h.mem n, Kd.S_drewN h.ths n⟩
/-- Another block's cell. -/
theorem SJ.other {base : Nat} {vm vt : Value} {mem : List Int} {ths : List S49} {W : World} (h : SJ base vm vt mem ths W) {b t j : Nat} {cells : Array Value} (hb : W.heap[b]? = some (.cells cells t (0, 0))) (h1 : t ≠ 3) (h2 : t ≠ 49) (h3 : t ≠ 66) (u : Value) : SJ base vm vt mem ths (W.setCell ⟨b, j, none⟩ u) :=
 by
 refine ⟨Kd.R_set h.mem hb (fun q hq => ?_) j u, Kd.S_set h.ths hb (fun q hq => ?_) j u⟩
 ·have hq' : q ∈ ([3] : List Nat) := hq
  simp at hq'
  rw [hq']; exact h1.symm
 ·have hq' : q ∈ ([49, 3, 66] : List Nat) := hq
  simp at hq'
  rcases hq' with rfl | rfl | rfl
  ·exact h2.symm
  ·exact h1.symm
  ·exact h3.symm
/-- A number's cell in a row of numbers. -/
theorem row_set {e base : Nat} {ok : Nat → Prop} {g n cap l : Nat} {xs : List Int} {W : World} (h : Kd.R (Kd.int .i64) e W base ok (.slice (some ⟨g, 0, none⟩) n cap) xs) (hl : l < n) (u : Int) :
 Kd.R (Kd.int .i64) e (W.setCell ⟨g, l, none⟩ (.int .i64 u)) base ok (.slice (some ⟨g, 0, none⟩) n cap) (xs.set l u) ∧ W.grownBy (W.setCell ⟨g, l, none⟩ (.int .i64 u)) (some g) := by
 obtain ⟨c, hc, hM, hcc, hfr⟩ := Kd.R_elem h 0 (l : Int) (by omega) (by omega)
 have hM' : c = [.int .i64 (xs.getD (l : Int).toNat 0)] := hM
 have := Kd.R_seg (okp := fun _ => False) h (l : Int) (by omega) (by omega) (c := c) (seg := [.int .i64 u]) (j := 0) hc hcc (show 0 + 1 ≤ 1 by decide) (x' := u) (by rw [hM']; rfl) (fun _ hk => hk.elim)
 rw [show ((l : Int)).toNat = l by omega] at this
 have e : W.setCells g (l * (Kd.int .i64).sz + 0) [.int .i64 u] = W.setCell ⟨g, l, none⟩ (.int .i64 u) := by
  show W.setCell ⟨g, l * 1 + 0, none⟩ _ = _
  rw [Nat.mul_one, Nat.add_zero]
 rw [e] at this
 exact this
theorem row_cell {e base : Nat} {ok : Nat → Prop} {g n cap l : Nat} {xs : List Int} {W : World} (h : Kd.R (Kd.int .i64) e W base ok (.slice (some ⟨g, 0, none⟩) n cap) xs) (hl : l < n) :
 W.cell? ⟨g, l, none⟩ = some (.int .i64 (rd xs (l : Int))) ∧ W.frozen? ⟨g, l, none⟩ = false := by
 obtain ⟨c, hc, hM, hcc, hfr⟩ := Kd.R_elem h 0 (l : Int) (by omega) (by omega)
 have hM' : c = [.int .i64 (xs.getD (l : Int).toNat 0)] := hM
 have h1 := hcc 0 (.int .i64 (xs.getD (l : Int).toNat 0)) (by rw [hM']; rfl)
 have h2 := hfr 0
 rw [show ((l : Int)).toNat * (Kd.int .i64).sz + 0 = l by show ((l : Int)).toNat * 1 + 0 = l; omega] at h1 h2
 exact ⟨h1, h2⟩
theorem SJ.setMem {base gm nm cm l : Nat} {vt : Value} {mem : List Int} {ths : List S49} {W : World} (h : SJ base (.slice (some ⟨gm, 0, none⟩) nm cm) vt mem ths W) (hl : l < nm) (u : Int) : SJ base (.slice (some ⟨gm, 0, none⟩) nm cm) vt (mem.set l u) ths (W.setCell ⟨gm, l, none⟩ (.int .i64 u)) :=
 ⟨(row_set h.mem hl u).1, Kd.S_far (p := ⟨gm, l, none⟩) h.ths (fun k hk e => hk (by rw [e]; simp [Value.ownBlock])) _⟩
/-- A step that may be taken. -/
def stepB (m : Nat) (x : S36) : Bool := (decide (1 ≤ x.f0) && decide (x.f0 ≤ 10)) && ((decide (0 ≤ x.f1) && decide (x.f1 < 4)) && (!(x.f0 == 2 || x.f0 == 3 || x.f0 == 4 || x.f0 == 5) || (decide (0 ≤ x.f2) && decide (x.f2 < (m : Int)))))
theorem set_get {ths : List S49} {t : Nat} {th th' : S49} (h : ths[t]? = some th) : (ths.set t th')[t]? = some th' := List.getElem?_set_self (List.getElem?_eq_some_iff.1 h).1
/-- A state that may be. -/
def stateB (thr : List (List S36)) (mem : List Int) (ths : List S49) : Bool := decide (mem.length ≤ 1000000) && (decide (ths.length ≤ 1000) && (decide (ths.length = thr.length) && ((ths.all fun x => decide (x.f1.length = 4) && (decide (x.f3.length ≤ 1000000) && (decide (0 ≤ x.f0) && decide (x.f0 ≤ 1000000)))) && thr.all fun l => decide (l.length ≤ 1000000))))
theorem stateB_of {thr : List (List S36)} {mem : List Int} {ths : List S49} (h : stateB thr mem ths = true) : mem.length ≤ 1000000 ∧ ths.length ≤ 1000 ∧ ths.length = thr.length ∧ (∀ x ∈ ths, x.f1.length = 4 ∧ x.f3.length ≤ 1000000 ∧ 0 ≤ x.f0 ∧ x.f0 ≤ 1000000) ∧ ∀ l ∈ thr, l.length ≤ 1000000 := by
 unfold stateB at h
 simp only [Bool.and_eq_true, decide_eq_true_eq, List.all_eq_true] at h
 exact h
end Go.Proofs.Ytphklaajolpieaa.Print
