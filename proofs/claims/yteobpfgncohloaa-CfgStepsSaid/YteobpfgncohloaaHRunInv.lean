/- ref13.Run: its Lean function, and what holds between two rounds of its loop: no walk. -/
import Derived.Test.YteobpfgncohloaaHRunStep
namespace Go.Proofs.Yteobpfgncohloaa.Print
open Go.RowKit Go.Proofs.YteobpfgncohloaaW.PrintWords Go.Proofs.YteobpfgncohloaaW.PrintLast Go.Proofs.YteobpfgncohloaaW.PrintMore
set_option linter.unusedVariables false
set_option linter.unusedSimpArgs false
/-- A run, from state i on. -/
def runL (B : List (List S42)) (weak : Bool) : List S51 → Int → List Int → List S39 → Option (List Int × List S39 × Int × Bool)
 | [], i, mem, ths => some (mem, ths, i, true)
 | k :: l, i, mem, ths =>
  if okB B mem ths = true then
   (match rstF B mem ths k weak with
   | none => some (mem, ths, i, false)
   | some (m, t) => runL B weak l (i + 1) m t)
  else none
def th0 : S39 := ⟨0, [0, 0, 0, 0], false, []⟩
def fencepostref13_Run.f (l0_0 : List Int) (l0_1 : List (List S42)) (l1 : List S51) (a2 : Bool) : Option (List Int × List S39 × Int × Bool) :=
 if l0_0.length ≤ 1000000 ∧ l0_1.length ≤ 1000 ∧ l1.length ≤ 1000000 then runL l0_1 a2 l1 0 l0_0 (List.replicate l0_1.length th0) else none
theorem begin_l0 {A : List Int} {B : List (List S42)} (hl : B.length ≤ 1000) : ∀ (d : Nat) (t : Nat), B.length - t ≤ d → t ≤ B.length → Ev (fun k => fencepostref10_Begin.l0 k (t : Int) A B A (List.replicate t th0)) (A, List.replicate B.length th0) := by
 intro d
 induction d with
 | zero =>
  intro t h1 h2
  obtain rfl : t = B.length := by omega
  refine Ev.step (fun k => by rw [fencepostref10_Begin.l0]) ?_
  simp only [if_neg (show ¬ (B.length : Int) < (B.length : Int) by omega)]
  exact Ev.now _
 | succ d ih =>
  intro t h1 h2
  by_cases c : t < B.length
  ·refine Ev.step (fun k => by rw [fencepostref10_Begin.l0]) ?_
   have e : List.replicate t th0 ++ [(⟨0, (List.replicate 4 0), false, ([] : List (S69))⟩ : S39)] = List.replicate (t + 1) th0 := by rw [show (⟨0, (List.replicate 4 0), false, ([] : List (S69))⟩ : S39) = th0 from rfl, ← List.replicate_succ']
   simp only [if_pos (show (t : Int) < (B.length : Int) by omega), if_pos (show (4 : Nat) ≤ 35184372088832 by decide), if_pos (show (List.replicate t th0).length < 2199023255552 by rw [List.length_replicate]; omega), e, w64s (show -9223372036854775808 ≤ (t : Int) + 1 by omega) (by omega)]
   exact ih (t + 1) (by omega) (by omega)
  ·obtain rfl : t = B.length := by omega
   refine Ev.step (fun k => by rw [fencepostref10_Begin.l0]) ?_
   simp only [if_neg (show ¬ (B.length : Int) < (B.length : Int) by omega)]
   exact Ev.now _
theorem begin_some {A : List Int} {B : List (List S42)} (hm : A.length ≤ 1000000) (hl : B.length ≤ 1000) : ∃ k, fencepostref10_Begin.f k A B = some (A, List.replicate B.length th0) := by
 obtain ⟨k, hk⟩ := (begin_l0 (A := A) hl B.length 0 (by omega) (by omega)).rounds
 refine ⟨k, ?_⟩
 unfold fencepostref10_Begin.f
 simp only [Option.bind_some, List.nil_append, List.length_nil, if_pos (show 0 + A.length < 17592186044416 by omega)]
 exact hk
/-- What is known of a state that a variable holds: gx is a block made beside it. -/
def okR (w : World) (bs gx : Nat) (k : Nat) : Prop := k ≠ bs ∧ k ≠ w.heap.size + 1 ∧ k ≠ gx ∧ w.heap.size ≤ k
structure RI (w : World) (P0 : Value) (P1 : Value) (bs gx : Nat) (mem : List Int) (ths : List S39) (A0 : Option Addr) (c0 : Nat) (A1 : Option Addr) (c1 : Nat) (W : World) : Prop where
 hp : W.heap[w.heap.size]? = some (.cells #[P0, P1] 25 (0, 0))
 hr : W.heap[w.heap.size + 1]? = some (.cells #[.slice none 0 0, .slice none 0 0] 31 (0, 0))
 hs : W.heap[bs]? = some (.cells #[.slice A0 mem.length c0, .slice A1 ths.length c1] 31 (0, 0))
 vm : Kd.V (Kd.int .i64) 3 W w.heap.size (okR w bs gx) (.slice A0 mem.length c0) mem
 vt : Kd.V k39 39 W w.heap.size (okR w bs gx) (.slice A1 ths.length c1) ths
 bel : Below w.heap.size w W
 lt : w.heap.size + 1 < bs
section
variable {w W W' : World} {P0 P1 : Value} {bs gx gN : Nat} {mem : List Int} {ths : List S39} {A0 A1 : Option Addr} {c0 c1 : Nat}
theorem RI.below (h : RI w P0 P1 bs gx mem ths A0 c0 A1 c1 W) (hb : Below W.heap.size W W') : RI w P0 P1 bs gx mem ths A0 c0 A1 c1 W' :=
 ⟨blk_below h.hp hb, blk_below h.hr hb, blk_below h.hs hb, Kd.V_below h.vm hb, Kd.V_below h.vt hb, below_step h.bel hb, h.lt⟩
theorem RI.box (h : RI w P0 P1 bs gx mem ths A0 c0 A1 c1 W) (hg : gN = W.heap.size) (hb : Below W.heap.size W W') : RI w P0 P1 bs gN mem ths A0 c0 A1 c1 W' :=
 ⟨blk_below h.hp hb, blk_below h.hr hb, blk_below h.hs hb, Kd.V_below (Kd.V_mono (Kd.V_bound h.vm) (fun k hk => ⟨hk.1.1, hk.1.2.1, by have := hk.2; omega, hk.1.2.2.2⟩)) hb, Kd.V_below (Kd.V_mono (Kd.V_bound h.vt) (fun k hk => ⟨hk.1.1, hk.1.2.1, by have := hk.2; omega, hk.1.2.2.2⟩)) hb, below_step h.bel hb, h.lt⟩
theorem RI.setBox (h : RI w P0 P1 bs gN mem ths A0 c0 A1 c1 W) (hgb : bs < gN) (j : Nat) (v : Value) : RI w P0 P1 bs gN mem ths A0 c0 A1 c1 (W.setCell ⟨gN, j, none⟩ v) := by
 have hlt := h.lt
 exact ⟨blk_far h.hp (by show w.heap.size ≠ gN; omega) _, blk_far h.hr (by show w.heap.size + 1 ≠ gN; omega) _, blk_far h.hs (by show bs ≠ gN; omega) _, Kd.V_far (p := ⟨gN, j, none⟩) h.vm (fun k hk => hk.2.2.1) v, Kd.V_far (p := ⟨gN, j, none⟩) h.vt (fun k hk => hk.2.2.1) v, below_set h.bel (by omega), h.lt⟩
/-- What is known of what a step has handed back. -/
def NV (w : World) (bs gx : Nat) (o : Option (List Int × List S39)) (v0 v1 : Value) (W : World) : Prop := ∀ m' t', o = some (m', t') → Kd.V (Kd.int .i64) 3 W w.heap.size (okR w bs gx) v0 m' ∧ Kd.V k39 39 W w.heap.size (okR w bs gx) v1 t'
variable {o : Option (List Int × List S39)} {v0 v1 : Value}
theorem NV.of (hv : ∀ m' t', o = some (m', t') → Kd.V (Kd.int .i64) 3 W' W.heap.size (fun k_ => (W.heap.size ≤ k_)) v0 m' ∧ Kd.V k39 39 W' W.heap.size (fun k_ => (W.heap.size ≤ k_)) v1 t') (h1 : w.heap.size + 1 < bs) (h2 : bs < W.heap.size) (h3 : gx < W.heap.size) : NV w bs gx o v0 v1 W' := fun m t h =>
 ⟨Kd.V_lower (Kd.V_mono (hv m t h).1 (fun k hk => ⟨by omega, by omega, by omega, by omega⟩)) (by omega), Kd.V_lower (Kd.V_mono (hv m t h).2 (fun k hk => ⟨by omega, by omega, by omega, by omega⟩)) (by omega)⟩
theorem NV.box (h : NV w bs gx o v0 v1 W) (hg : gN = W.heap.size) (hb : Below W.heap.size W W') : NV w bs gN o v0 v1 W' := fun m t e =>
 ⟨Kd.V_below (Kd.V_mono (Kd.V_bound (h m t e).1) (fun k hk => ⟨hk.1.1, hk.1.2.1, by have := hk.2; omega, hk.1.2.2.2⟩)) hb, Kd.V_below (Kd.V_mono (Kd.V_bound (h m t e).2) (fun k hk => ⟨hk.1.1, hk.1.2.1, by have := hk.2; omega, hk.1.2.2.2⟩)) hb⟩
theorem NV.setBox (h : NV w bs gN o v0 v1 W) (j : Nat) (v : Value) : NV w bs gN o v0 v1 (W.setCell ⟨gN, j, none⟩ v) := fun m t e =>
 ⟨Kd.V_far (p := ⟨gN, j, none⟩) (h m t e).1 (fun k hk => hk.2.2.1) v, Kd.V_far (p := ⟨gN, j, none⟩) (h m t e).2 (fun k hk => hk.2.2.1) v⟩
/-- The variable takes what the step has handed back. -/
theorem RI.next {B0 B1 : Option Addr} {n0 n1 d0 d1 : Nat} {m : List Int} {t : List S39} (h : RI w P0 P1 bs gN mem ths A0 c0 A1 c1 W) (hv : NV w bs gN o (.slice B0 n0 d0) (.slice B1 n1 d1) W) (e : o = some (m, t)) : n0 = m.length ∧ n1 = t.length ∧
 RI w P0 P1 bs bs m t B0 d0 B1 d1 ((W.setCell ⟨bs, 0, none⟩ (.slice B0 n0 d0)).setCell ⟨bs, 1, none⟩ (.slice B1 n1 d1)) := by
 obtain ⟨h0, h1⟩ := hv m t e
 obtain ⟨rfl, -, -⟩ := Kd.V_at h0
 obtain ⟨rfl, -, -⟩ := Kd.V_at h1
 have hlt := h.lt
 refine ⟨rfl, rfl, blk_far (blk_far h.hp (by show w.heap.size ≠ bs; omega) _) (by show w.heap.size ≠ bs; omega) _, blk_far (blk_far h.hr (by show w.heap.size + 1 ≠ bs; omega) _) (by show w.heap.size + 1 ≠ bs; omega) _, blk_set (blk_set h.hs 0 _) 1 _, ?_, ?_, below_set (below_set h.bel (by omega)) (by omega), hlt⟩
 ·exact Kd.V_mono (Kd.V_far (p := ⟨bs, 1, none⟩) (Kd.V_far (p := ⟨bs, 0, none⟩) h0 (fun k hk => hk.1) _) (fun k hk => hk.1) _) (fun k hk => ⟨hk.1, hk.2.1, hk.1, hk.2.2.2⟩)
 ·exact Kd.V_mono (Kd.V_far (p := ⟨bs, 1, none⟩) (Kd.V_far (p := ⟨bs, 0, none⟩) h1 (fun k hk => hk.1) _) (fun k hk => hk.1) _) (fun k hk => ⟨hk.1, hk.2.1, hk.1, hk.2.2.2⟩)
/-- The state is handed back. -/
theorem RI.done (h : RI w P0 P1 bs gx mem ths A0 c0 A1 c1 W) (u0 u1 : Value) : Kd.V (Kd.int .i64) 3 ((W.setCell ⟨w.heap.size + 1, 0, none⟩ u0).setCell ⟨w.heap.size + 1, 1, none⟩ u1) w.heap.size (fun k_ => (w.heap.size ≤ k_)) (.slice A0 mem.length c0) mem ∧ Kd.V k39 39 ((W.setCell ⟨w.heap.size + 1, 0, none⟩ u0).setCell ⟨w.heap.size + 1, 1, none⟩ u1) w.heap.size (fun k_ => (w.heap.size ≤ k_)) (.slice A1 ths.length c1) ths ∧ Below w.heap.size w ((W.setCell ⟨w.heap.size + 1, 0, none⟩ u0).setCell ⟨w.heap.size + 1, 1, none⟩ u1) :=
 ⟨Kd.V_mono (Kd.V_far (p := ⟨w.heap.size + 1, 1, none⟩) (Kd.V_far (p := ⟨w.heap.size + 1, 0, none⟩) h.vm (fun k hk => hk.2.1) _) (fun k hk => hk.2.1) _) (fun k hk => hk.2.2.2), Kd.V_mono (Kd.V_far (p := ⟨w.heap.size + 1, 1, none⟩) (Kd.V_far (p := ⟨w.heap.size + 1, 0, none⟩) h.vt (fun k hk => hk.2.1) _) (fun k hk => hk.2.1) _) (fun k hk => hk.2.2.2), below_set (below_set h.bel (by omega)) (by omega)⟩
end
end Go.Proofs.Yteobpfgncohloaa.Print
