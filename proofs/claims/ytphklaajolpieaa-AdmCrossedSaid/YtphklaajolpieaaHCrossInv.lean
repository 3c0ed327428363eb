/- ref14.Cross: its Lean function, what put and Num answer, and what holds between two rounds of its loop: no walk. -/
import Derived.Test.YtphklaajolpieaaHTso
import Derived.Test.YtphklaajolpieaaPrint8
import Derived.Test.YtphklaajolpieaaHSlotsAll
namespace Go.Proofs.Ytphklaajolpieaa.Print
open Go.RowKit Go.Proofs.YtphklaajolpieaaW.PrintWords Go.Proofs.YtphklaajolpieaaW.PrintLast Go.Proofs.YtphklaajolpieaaW.PrintMore
set_option linter.unusedVariables false
set_option linter.unusedSimpArgs false
/-- A number among others, that rise. -/
def putR : List Int → Int → List Int
 | [], n => [n]
 | x :: l, n => if n ≤ x then (if n = x then x :: l else n :: x :: l) else x :: putR l n
theorem putR_length (n : Int) : ∀ l : List Int, (putR l n).length ≤ l.length + 1
 | [] => by simp [putR]
 | x :: l => by
  have := putR_length n l
  unfold putR
  split
  ·split <;> simp
  ·simp; omega
theorem rd_at {pre suf : List Int} {x : Int} : rd (pre ++ x :: suf) (pre.length : Int) = x := by
 unfold rd; rw [Int.toNat_natCast, List.getD_eq_getElem?_getD, List.getElem?_append_right (Nat.le_refl _), Nat.sub_self]; rfl
theorem put_done (n : Int) : ∀ (suf pre : List Int) (l out : List Int), l = pre ++ suf → l.length ≤ 1000000 → out.length ≤ pre.length + 1 → Ev (fun k => fencepostref14_put.l0 k l n out true (pre.length : Int)) (out ++ suf) := by
 intro suf
 induction suf with
 | nil =>
  intro pre l out hl hb ho
  rw [List.append_nil] at hl ⊢
  subst hl
  refine Ev.step (fun k => by rw [fencepostref14_put.l0]) ?_
  simp only [if_neg (show ¬ (l.length : Int) < (l.length : Int) by omega), if_true]
  exact Ev.now _
 | cons x suf ih =>
  intro pre l out hl hb ho
  have hlen : l.length = pre.length + (suf.length + 1) := by rw [hl]; simp
  have e : rd l (pre.length : Int) = x := by rw [hl]; exact rd_at
  refine Ev.step (fun k => by rw [fencepostref14_put.l0]) ?_
  simp only [if_pos (show (pre.length : Int) < (l.length : Int) by omega), if_true]
  refine Ev.step (fun k => by rw [fencepostref14_put.j1]) ?_
  simp only [Bool.false_eq_true, if_false, if_pos (show (0 : Int) ≤ (pre.length : Int) by omega), if_pos (show (pre.length : Int) < (l.length : Int) by omega), if_pos (show out.length < 17592186044416 by omega), e, w64s (show -9223372036854775808 ≤ (pre.length : Int) + 1 by omega) (by omega)]
  have := ih (pre ++ [x]) l (out ++ [x]) (by rw [hl]; simp) hb (by simp; omega)
  rw [List.length_append, List.length_singleton, List.append_assoc] at this
  exact this
theorem put_go (n : Int) : ∀ (suf pre : List Int) (l : List Int), l = pre ++ suf → l.length ≤ 1000000 → Ev (fun k => fencepostref14_put.l0 k l n pre false (pre.length : Int)) (pre ++ putR suf n) := by
 intro suf
 induction suf with
 | nil =>
  intro pre l hl hb
  rw [List.append_nil] at hl
  subst hl
  refine Ev.step (fun k => by rw [fencepostref14_put.l0]) ?_
  simp only [if_neg (show ¬ (l.length : Int) < (l.length : Int) by omega), Bool.false_eq_true, if_false, if_pos (show l.length < 17592186044416 by omega)]
  exact Ev.now _
 | cons x suf ih =>
  intro pre l hl hb
  have hlen : l.length = pre.length + (suf.length + 1) := by rw [hl]; simp
  have e : rd l (pre.length : Int) = x := by rw [hl]; exact rd_at
  have p1 : (pre.length : Int) < (l.length : Int) := by omega
  have p2 : (0 : Int) ≤ (pre.length : Int) := by omega
  have p3 : pre.length < 17592186044416 := by omega
  have ew := w64s (show -9223372036854775808 ≤ (pre.length : Int) + 1 by omega) (by omega)
  refine Ev.step (fun k => by rw [fencepostref14_put.l0]) ?_
  simp only [if_pos p1, Bool.false_eq_true, if_false, if_pos p2, e]
  refine Ev.step (fun k => by rw [fencepostref14_put.j1]) ?_
  unfold putR
  by_cases c : n ≤ x
  ·simp only [decide_eq_true c, if_pos c, if_true, if_pos p2, if_pos p1, e]
   by_cases c2 : n = x
   ·simp only [if_pos c2, if_pos p3, ew]
    have := put_done n suf (pre ++ [x]) l (pre ++ [x]) (by rw [hl]; simp) hb (by omega)
    rw [List.length_append, List.length_singleton, List.append_assoc] at this
    exact this
   ·simp only [if_neg c2, if_pos p3, Option.bind_some, if_pos (show (pre ++ [n]).length < 17592186044416 by simp; omega), ew]
    have := put_done n suf (pre ++ [x]) l (pre ++ [n] ++ [x]) (by rw [hl]; simp) hb (by simp)
    rw [List.length_append, List.length_singleton] at this
    simp only [List.append_assoc, List.cons_append, List.nil_append] at this ⊢
    exact this
  ·simp only [decide_eq_false c, if_neg c, Bool.false_eq_true, if_false, if_pos p2, if_pos p1, if_pos p3, e, ew]
   have := ih (pre ++ [x]) l (by rw [hl]; simp) hb
   rw [List.length_append, List.length_singleton, List.append_assoc] at this
   exact this
theorem put_ev {l : List Int} (hl : l.length ≤ 1000000) (n : Int) : Ev (fun k => fencepostref14_put.f k l n) (putR l n) := by
 unfold fencepostref14_put.f
 exact put_go n l [] l rfl hl
/-- A step's slot. -/
def numR (B : List (List S36)) (t a : Int) : Int := (tot (B.take t.toNat) : Int) + a
theorem tot_takeS (B : List (List S36)) : ∀ t, t < B.length → tot (B.take (t + 1)) = tot (B.take t) + (rd_L2 B (t : Int)).length := by
 intro t h
 have e : rd_L2 B (t : Int) = B[t] := by unfold rd_L2; rw [Int.toNat_natCast, List.getD_eq_getElem?_getD, List.getElem?_eq_getElem h]; rfl
 rw [List.take_add_one, List.getElem?_eq_getElem h, e, Option.toList_some, tot_append]
 simp [tot]
theorem tot_takeM (B : List (List S36)) {i t : Nat} (h : i ≤ t) : tot (B.take i) ≤ tot (B.take t) := by
 obtain ⟨d, rfl⟩ : ∃ d, t = i + d := ⟨t - i, by omega⟩
 rw [List.take_add, tot_append]; omega
theorem num_l0 {A : List Int} {B : List (List S36)} {t : Nat} (ht : t < B.length) {a : Int} (ha : 0 ≤ a ∧ a ≤ 1000000) (htot : tot (B.take t) ≤ 1000000) (hB : B.length ≤ 1000000) : ∀ (d i : Nat), t - i ≤ d → i ≤ t → Ev (fun k => fencepostref08_Num.l0 k (t : Int) ((tot (B.take i) : Int) + a) (i : Int) A B) ((tot (B.take t) : Int) + a) := by
 intro d
 induction d with
 | zero =>
  intro i h1 h2
  obtain rfl : i = t := by omega
  refine Ev.step (fun k => by rw [fencepostref08_Num.l0]) ?_
  simp only [if_neg (show ¬ (i : Int) < (i : Int) by omega)]
  exact Ev.now _
 | succ d ih =>
  intro i h1 h2
  refine Ev.step (fun k => by rw [fencepostref08_Num.l0]) ?_
  by_cases c : i < t
  ·have h3 := tot_takeS B i (by omega)
   have h4 := tot_takeM B (show i + 1 ≤ t by omega)
   have e : (tot (B.take i) : Int) + a + ((rd_L2 B (i : Int)).length : Int) = (tot (B.take (i + 1)) : Int) + a := by omega
   simp only [if_pos (show (i : Int) < (t : Int) by omega), if_pos (show (0 : Int) ≤ (i : Int) by omega), if_pos (show (i : Int) < (B.length : Int) by omega), e, w64s (show -9223372036854775808 ≤ (tot (B.take (i + 1)) : Int) + a by omega) (by omega), w64s (show -9223372036854775808 ≤ (i : Int) + 1 by omega) (by omega)]
   exact ih (i + 1) (by omega) (by omega)
  ·obtain rfl : i = t := by omega
   simp only [if_neg (show ¬ (i : Int) < (i : Int) by omega)]
   exact Ev.now _
theorem num_ev {A : List Int} {B : List (List S36)} {t : Nat} (ht : t < B.length) {a : Int} (h0 : 0 ≤ a) (h1 : a < ((rd_L2 B (t : Int)).length : Int)) (ha : a ≤ 1000000) (htot : tot (B.take t) ≤ 1000000) (hB : B.length ≤ 1000000) : Ev (fun k => fencepostref08_Num.f k A B (t : Int) a) (numR B (t : Int) a) := by
 unfold fencepostref08_Num.f numR
 simp only [if_neg (show ¬ (t : Int) < 0 by omega), if_neg (show ¬ (t : Int) ≥ (B.length : Int) by omega), if_neg (show ¬ a < 0 by omega), if_pos (show (0 : Int) ≤ (t : Int) by omega), if_pos (show (t : Int) < (B.length : Int) by omega), decide_eq_false (show ¬ a ≥ ((rd_L2 B (t : Int)).length : Int) by omega), Int.toNat_natCast]
 refine Ev.step (fun k => by rw [fencepostref08_Num.j0]) ?_
 simp only [Bool.false_eq_true, if_false]
 have := num_l0 (A := A) ht ⟨h0, ha⟩ htot hB t 0 (by omega) (by omega)
 simpa [tot] using this
/-- Which picks cross, from a state on; in its own rounds what is asked of put and Num holds. -/
def crossL (B : List (List S36)) : List S46 → List Int → List S49 → List Int → Option (List Int × Bool)
 | [], _, _, out => some (out, true)
 | k :: l, mem, ths, out =>
  if okB B mem ths = true ∧ out.length ≤ 1000000 ∧ tot B ≤ 1000000 then
   (match tsoF B mem ths k.f0 k.f1 with
   | none => some ([], false)
   | some (m, t) => if k.f1 = false ∧ 0 < (rd_T49 ths k.f0).f3.length then crossL B l m t (putR out (numR B k.f0 (rd_T49 ths k.f0).f0)) else crossL B l m t out)
  else none
def th0 : S49 := ⟨0, [0, 0, 0, 0], false, []⟩
def fencepostref14_Cross.f (l0_0 : List Int) (l0_1 : List (List S36)) (l1 : List S46) : Option (List Int × Bool) :=
 if l0_0.length ≤ 1000000 ∧ l0_1.length ≤ 1000 ∧ l1.length ≤ 1000000 then crossL l0_1 l1 l0_0 (List.replicate l0_1.length th0) [] else none
theorem begin_l0 {A : List Int} {B : List (List S36)} (hl : B.length ≤ 1000) : ∀ (d : Nat) (t : Nat), B.length - t ≤ d → t ≤ B.length → Ev (fun k => fencepostref10_Begin.l0 k (t : Int) A B A (List.replicate t th0)) (A, List.replicate B.length th0) := by
 intro d
 induction d with
 | zero =>
  intro t h1 h2
  obtain rfl : t = B.length := by omega
  refine Ev.step (fun k => by rw [fencepostref10_Begin.l0]) ?_
  simp only [if_neg (show ¬ (B.length : Int) < (B.length : Int) by omega)]
  exact Ev.now _
 | succ d ih =>
  intro t h1 h2
  by_cases c : t < B.length
  ·refine Ev.step (fun k => by rw [fencepostref10_Begin.l0]) ?_
   have e : List.replicate t th0 ++ [(⟨0, (List.replicate 4 0), false, ([] : List (S66))⟩ : S49)] = List.replicate (t + 1) th0 := by rw [show (⟨0, (List.replicate 4 0), false, ([] : List (S66))⟩ : S49) = th0 from rfl, ← List.replicate_succ']
   simp only [if_pos (show (t : Int) < (B.length : Int) by omega), if_pos (show (4 : Nat) ≤ 35184372088832 by decide), if_pos (show (List.replicate t th0).length < 2199023255552 by rw [List.length_replicate]; omega), e, w64s (show -9223372036854775808 ≤ (t : Int) + 1 by omega) (by omega)]
   exact ih (t + 1) (by omega) (by omega)
  ·obtain rfl : t = B.length := by omega
   refine Ev.step (fun k => by rw [fencepostref10_Begin.l0]) ?_
   simp only [if_neg (show ¬ (B.length : Int) < (B.length : Int) by omega)]
   exact Ev.now _
theorem begin_some {A : List Int} {B : List (List S36)} (hm : A.length ≤ 1000000) (hl : B.length ≤ 1000) : ∃ k, fencepostref10_Begin.f k A B = some (A, List.replicate B.length th0) := by
 obtain ⟨k, hk⟩ := (begin_l0 (A := A) hl B.length 0 (by omega) (by omega)).rounds
 refine ⟨k, ?_⟩
 unfold fencepostref10_Begin.f
 simp only [Option.bind_some, List.nil_append, List.length_nil, if_pos (show 0 + A.length < 17592186044416 by omega)]
 exact hk
/-- Where a step is one: its thread, and its place. -/
theorem tso_some {B : List (List S36)} {mem : List Int} {ths : List S49} {a : Int} {d : Bool} {p : List Int × List S49} (h : tsoF B mem ths a d = some p) : 0 ≤ a ∧ a < (ths.length : Int) ∧ (d = false → (rd_T49 ths a).f0 < ((rd_L2 B a).length : Int)) := by
 unfold tsoF at h
 by_cases q1 : a < 0 ∨ (ths.length : Int) ≤ a
 ·rw [if_pos q1] at h; cases h
 ·refine ⟨by omega, by omega, fun hd => ?_⟩
  rw [if_neg q1, hd, if_neg (by decide)] at h
  by_cases q4 : ((rd_L2 B a).length : Int) ≤ (rd_T49 ths a).f0
  ·rw [if_pos q4] at h; cases h
  ·omega
theorem num_of {A : List Int} {B : List (List S36)} {mem : List Int} {ths : List S49} {t : Nat} {p : List Int × List S49} {x : S49} (hok : okB B mem ths = true) (htot : tot B ≤ 1000000) (hst : tsoF B mem ths (t : Int) false = some p) (hx : rd_T49 ths (t : Int) = x) : ∃ kn, fencepostref08_Num.f kn A B (t : Int) x.f0 = some (numR B (t : Int) x.f0) := by
 obtain ⟨q0, q1, q2⟩ := tso_some hst
 unfold okB at hok
 simp only [Bool.and_eq_true] at hok
 obtain ⟨b1, b2, b3, b4, b5⟩ := stateB_of hok.1
 have ht : t < ths.length := by omega
 have e : rd_T49 ths (t : Int) = ths[t] := by unfold rd_T49; rw [Int.toNat_natCast, List.getD_eq_getElem?_getD, List.getElem?_eq_getElem ht]; rfl
 have hb := b4 _ (List.getElem_mem ht)
 rw [← e, hx] at hb
 have h2 := q2 rfl
 rw [hx] at h2
 have hm : tot (B.take t) ≤ tot B := by
  have := tot_takeM B (show t ≤ B.length by omega)
  rwa [List.take_length] at this
 exact (num_ev (A := A) (t := t) (by omega) hb.2.2.1 h2 hb.2.2.2 (by omega) (by omega)).rounds
def okC (w : World) (bs gx : Nat) (k : Nat) : Prop := k ≠ bs ∧ k ≠ gx ∧ w.heap.size ≤ k
/-- What is known of the variables: gx is a block made beside them. -/
structure CI (w : World) (P0 : Value) (P1 : Value) (bs gx : Nat) (mem : List Int) (ths : List S49) (A0 : Option Addr) (c0 : Nat) (A1 : Option Addr) (c1 : Nat) (out : List Int) (vo : Value) (W : World) : Prop where
 hp : W.heap[w.heap.size]? = some (.cells #[P0, P1] 25 (0, 0))
 hs : W.heap[bs]? = some (.cells #[.slice A0 mem.length c0, .slice A1 ths.length c1] 41 (0, 0))
 vm : Kd.V (Kd.int .i64) 3 W w.heap.size (okC w bs gx) (.slice A0 mem.length c0) mem
 vt : Kd.V k49 49 W w.heap.size (okC w bs gx) (.slice A1 ths.length c1) ths
 ro : Kd.R (Kd.int .i64) 3 W w.heap.size (fun _ => True) vo out
 bel : Below w.heap.size w W
 lt : w.heap.size < bs
section
variable {w W W' : World} {P0 P1 : Value} {bs gx gN : Nat} {mem : List Int} {ths : List S49} {A0 A1 : Option Addr} {c0 c1 : Nat} {out : List Int} {vo : Value}
theorem CI.below (h : CI w P0 P1 bs gx mem ths A0 c0 A1 c1 out vo W) (hb : Below W.heap.size W W') : CI w P0 P1 bs gx mem ths A0 c0 A1 c1 out vo W' :=
 ⟨blk_below h.hp hb, blk_below h.hs hb, Kd.V_below h.vm hb, Kd.V_below h.vt hb, Kd.R_below h.ro hb, below_step h.bel hb, h.lt⟩
theorem CI.box (h : CI w P0 P1 bs gx mem ths A0 c0 A1 c1 out vo W) (hg : gN = W.heap.size) (hb : Below W.heap.size W W') : CI w P0 P1 bs gN mem ths A0 c0 A1 c1 out vo W' :=
 ⟨blk_below h.hp hb, blk_below h.hs hb, Kd.V_below (Kd.V_mono (Kd.V_bound h.vm) (fun k hk => ⟨hk.1.1, by have := hk.2; omega, hk.1.2.2⟩)) hb, Kd.V_below (Kd.V_mono (Kd.V_bound h.vt) (fun k hk => ⟨hk.1.1, by have := hk.2; omega, hk.1.2.2⟩)) hb, Kd.R_below h.ro hb, below_step h.bel hb, h.lt⟩
theorem CI.setBox {ty : Nat} {cells : Array Value} (h : CI w P0 P1 bs gN mem ths A0 c0 A1 c1 out vo W) (hgb : bs < gN) (hc : W.heap[gN]? = some (.cells cells ty (0, 0))) (hty : ty ≠ 3) (j : Nat) (v : Value) : CI w P0 P1 bs gN mem ths A0 c0 A1 c1 out vo (W.setCell ⟨gN, j, none⟩ v) := by
 have hlt := h.lt
 exact ⟨blk_far h.hp (by show w.heap.size ≠ gN; omega) _, blk_far h.hs (by show bs ≠ gN; omega) _, Kd.V_far (p := ⟨gN, j, none⟩) h.vm (fun k hk => hk.2.1) v, Kd.V_far (p := ⟨gN, j, none⟩) h.vt (fun k hk => hk.2.1) v, Kd.R_set h.ro hc (fun q hq => by have hq' : q ∈ ([3] : List Nat) := hq; simp at hq'; rw [hq']; exact hty.symm) j v, below_set h.bel (by omega), h.lt⟩
/-- The row takes a number. -/
theorem CI.out_ {out' : List Int} {vo' : Value} (h : CI w P0 P1 bs gx mem ths A0 c0 A1 c1 out vo W) (hr : Kd.R (Kd.int .i64) 3 W w.heap.size (fun _ => True) vo' out') : CI w P0 P1 bs gx mem ths A0 c0 A1 c1 out' vo' W :=
 ⟨h.hp, h.hs, h.vm, h.vt, hr, h.bel, h.lt⟩
/-- What is known of what a step has handed back. -/
def NC (w : World) (bs gx : Nat) (o : Option (List Int × List S49)) (v0 v1 : Value) (W : World) : Prop := ∀ m' t', o = some (m', t') → Kd.V (Kd.int .i64) 3 W w.heap.size (okC w bs gx) v0 m' ∧ Kd.V k49 49 W w.heap.size (okC w bs gx) v1 t'
variable {o : Option (List Int × List S49)} {v0 v1 : Value}
theorem NC.of (hv : ∀ m' t', o = some (m', t') → Kd.V (Kd.int .i64) 3 W' W.heap.size (fun k_ => (W.heap.size ≤ k_)) v0 m' ∧ Kd.V k49 49 W' W.heap.size (fun k_ => (W.heap.size ≤ k_)) v1 t') (h1 : w.heap.size < bs) (h2 : bs < W.heap.size) (h3 : gx < W.heap.size) : NC w bs gx o v0 v1 W' := fun m t h =>
 ⟨Kd.V_lower (Kd.V_mono (hv m t h).1 (fun k hk => ⟨by omega, by omega, by omega⟩)) (by omega), Kd.V_lower (Kd.V_mono (hv m t h).2 (fun k hk => ⟨by omega, by omega, by omega⟩)) (by omega)⟩
theorem NC.below (h : NC w bs gx o v0 v1 W) (hb : Below W.heap.size W W') : NC w bs gx o v0 v1 W' := fun m t e => ⟨Kd.V_below (h m t e).1 hb, Kd.V_below (h m t e).2 hb⟩
theorem NC.box (h : NC w bs gx o v0 v1 W) (hg : gN = W.heap.size) (hb : Below W.heap.size W W') : NC w bs gN o v0 v1 W' := fun m t e =>
 ⟨Kd.V_below (Kd.V_mono (Kd.V_bound (h m t e).1) (fun k hk => ⟨hk.1.1, by have := hk.2; omega, hk.1.2.2⟩)) hb, Kd.V_below (Kd.V_mono (Kd.V_bound (h m t e).2) (fun k hk => ⟨hk.1.1, by have := hk.2; omega, hk.1.2.2⟩)) hb⟩
theorem NC.setBox (h : NC w bs gN o v0 v1 W) (j : Nat) (v : Value) : NC w bs gN o v0 v1 (W.setCell ⟨gN, j, none⟩ v) := fun m t e =>
 ⟨Kd.V_far (p := ⟨gN, j, none⟩) (h m t e).1 (fun k hk => hk.2.1) v, Kd.V_far (p := ⟨gN, j, none⟩) (h m t e).2 (fun k hk => hk.2.1) v⟩
/-- The variable takes what the step has handed back. -/
theorem CI.next {B0 B1 : Option Addr} {n0 n1 d0 d1 : Nat} {m : List Int} {t : List S49} (h : CI w P0 P1 bs gN mem ths A0 c0 A1 c1 out vo W) (hv : NC w bs gN o (.slice B0 n0 d0) (.slice B1 n1 d1) W) (e : o = some (m, t)) :
 CI w P0 P1 bs bs m t B0 d0 B1 d1 out vo ((W.setCell ⟨bs, 0, none⟩ (.slice B0 n0 d0)).setCell ⟨bs, 1, none⟩ (.slice B1 n1 d1)) := by
 obtain ⟨h0, h1⟩ := hv m t e
 obtain ⟨rfl, -, -⟩ := Kd.V_at h0
 obtain ⟨rfl, -, -⟩ := Kd.V_at h1
 have hlt := h.lt
 refine ⟨blk_far (blk_far h.hp (by show w.heap.size ≠ bs; omega) _) (by show w.heap.size ≠ bs; omega) _, blk_set (blk_set h.hs 0 _) 1 _, ?_, ?_, Kd.R_set (Kd.R_set h.ro h.hs (by decide) 0 _) (blk_set h.hs 0 _) (by decide) 1 _, below_set (below_set h.bel (by omega)) (by omega), hlt⟩
 ·exact Kd.V_mono (Kd.V_far (p := ⟨bs, 1, none⟩) (Kd.V_far (p := ⟨bs, 0, none⟩) h0 (fun k hk => hk.1) _) (fun k hk => hk.1) _) (fun k hk => ⟨hk.1, hk.1, hk.2.2⟩)
 ·exact Kd.V_mono (Kd.V_far (p := ⟨bs, 1, none⟩) (Kd.V_far (p := ⟨bs, 0, none⟩) h1 (fun k hk => hk.1) _) (fun k hk => hk.1) _) (fun k hk => ⟨hk.1, hk.1, hk.2.2⟩)
end
end Go.Proofs.Ytphklaajolpieaa.Print
