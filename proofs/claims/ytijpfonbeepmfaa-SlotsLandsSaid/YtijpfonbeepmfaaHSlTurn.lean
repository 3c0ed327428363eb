/- The functions that slots.Fence and slots.Erase hand to slots.lines. -/
import Derived.Test.YtijpfonbeepmfaaHSlKeys
import Derived.Lib.SliceRun
namespace Go.Proofs.Ytijpfonbeepmfaa.Print
open Go.RowKit Go.Maps Go.Proofs.YtijpfonbeepmfaaW.PrintWords Go.Proofs.YtijpfonbeepmfaaW.PrintLast Go.Proofs.YtijpfonbeepmfaaW.PrintMore
set_option linter.unusedVariables false
set_option linter.unusedSimpArgs false
/-- A row that was just made out of elements that lead to nothing. -/
theorem row_new {α : Type} (d : Kd α) (e : Nat) (W : World) (base : Nat) (hb : base ≤ W.heap.size) (xs : List α) (inner : List Value) (hrep : Reps (d.M W base (fun _ => False)) d.sz xs inner) (hm : xs.length ≤ 9223372036854775807) : d.R e (W.alloc (.cells inner.toArray e)) base (fun _ => True) (.slice (some ⟨W.heap.size, 0, none⟩) xs.length xs.length) xs := by
 refine ⟨fun _ _ => trivial, inner, ?_, ?_⟩
 ·have h2 := World.ownsRow_lit (base := base) (e := e) (size := d.sz) W inner.toArray xs.length hb (by simpa [maxLen] using hm) (by simpa using hrep.1)
  simpa using h2
 ·refine hrep.imp_ (fun p c hp => d.M_mono (fun k hk => hk.elim) (Kd.M_below hp (below_alloc (Below.refl _ _) _)))
theorem reps_sing {α : Type} {R : α → List Value → Prop} {size : Nat} {x : α} {c : List Value} (h : R x c) (hl : c.length = size) : Reps R size [x] c :=
  ⟨by simp [hl], fun j p hj => by
    cases j with
    | zero => simp at hj; subst hj; rw [Nat.zero_mul, List.drop_zero, List.take_of_length_le (by omega)]; exact h
    | succ j => simp at hj⟩
theorem grown_set (W : World) (b j : Nat) (u : Value) : W.grownBy (W.setCell ⟨b, j, none⟩ u) (some b) :=
 ⟨rfl, rfl, rfl, Nat.le_of_eq (World.size_setCell W ⟨b, j, none⟩ u).symm, fun k _ hk => Below.heap_setCell W ⟨b, j, none⟩ u k (fun e => hk (by rw [e]))⟩
def lineC (x : S60) : List Value := [.int .i64 x.f0, .string x.f1, .string x.f2, .string x.f3, .int .i64 x.f4]
def fenceL : S60 := ⟨6, ⟨#[]⟩, ⟨#[]⟩, ⟨#[]⟩, 0⟩
/-- What Fence's function makes of a line. -/
def fenceT (g : List Int) (x : S60) (n : Int) : List S60 := if n ∈ g then [fenceL, x] else [x]
/-- What Erase's function makes of a line, and of the slot whose fence was left out last. -/
def eraseT (g : List Int) (x : S60) (n : Int) (op : Int) : List S60 × Int × Int := if n ∈ g ∧ op ≠ n then ([], n, n) else ([x], n + 1, op)
set_option maxHeartbeats 4000000 in
set_option maxRecDepth 100000 in
theorem fence_turn (x : S60) (n : Int) (hb B nn : Nat) (g : List Int) (w : World) (hn : 0 ≤ n ∧ n ≤ 1000000000) (hc : w.cell? ⟨hb, 0, none⟩ = some (.map (some B))) (hM : MapIs w B nn (cntF g)) :
 Calls Try.prog 43 #[.agg (lineC x).toArray, .int .i64 n, .pointer (some ⟨hb, 0, none⟩)] w fun e w' => ∃ v, e = .returned (.tuple #[v, .int .i64 (n + 1)]) ∧ Kd.R k60 60 w' w.heap.size (fun _ => True) v (fenceT g x n) ∧ Below w.heap.size w w' := by
 have hu := Try.underlying60
 obtain ⟨y0, y1, y2, y3, y4⟩ := x
 unfold lineC fenceT
 have hlook := ((hM.below (below_alloc (Below.refl _ _) (.cells #[.int .i64 y0, .string y1, .string y2, .string y3, .int .i64 y4] 60))).look n (wf_i64_of (by omega) (by omega))).1
 have c1 : (w.alloc (.cells #[.int .i64 y0, .string y1, .string y2, .string y3, .int .i64 y4] 60)).cell? ⟨hb, 0, none⟩ = some (.map (some B)) := Lib.cell?_alloc_some _ hc
 have hpos := cnt_pos g n
 obtain ⟨W1, hW1⟩ : ∃ W1, W1 = w.alloc (.cells #[.int .i64 y0, .string y1, .string y2, .string y3, .int .i64 y4] 60) := ⟨_, rfl⟩
 have bX : W1.heap[w.heap.size]? = some (.cells #[.int .i64 y0, .string y1, .string y2, .string y3, .int .i64 y4] 60 (0, 0)) := by rw [hW1]; exact blk_new _ _
 have x0 : W1.cell? ⟨w.heap.size, 0, none⟩ = some (.int .i64 y0) := (blk_cell bX 0).trans rfl
 have x1 : W1.cell? ⟨w.heap.size, 1, none⟩ = some (.string y1) := (blk_cell bX 1).trans rfl
 have x2 : W1.cell? ⟨w.heap.size, 2, none⟩ = some (.string y2) := (blk_cell bX 2).trans rfl
 have x3 : W1.cell? ⟨w.heap.size, 3, none⟩ = some (.string y3) := (blk_cell bX 3).trans rfl
 have x4 : W1.cell? ⟨w.heap.size, 4, none⟩ = some (.int .i64 y4) := (blk_cell bX 4).trans rfl
 have hB1 : Below w.heap.size w W1 := by rw [hW1]; exact below_alloc (Below.refl _ _) _
 have HB1 := Aside0.mk hB1
 have HW1 := Aside0.mk hW1
 have hsz := hB1.size
 rw [← hW1] at hlook c1
 clear hW1 bX hB1 hM hc
 have s1 : n + 1 ≤ 9223372036854775807 := by omega
 have s2 : -9223372036854775808 ≤ n + 1 := by omega
 go_enter Try.func43, Try.ntmps43
 go_upto_region 1 with fail
 rw [← HW1.out]
 by_cases c : n ∈ g
 ·have p1 : (0 < cntF g n) = True := eq_true (hpos.2 c)
  go_wp2_with fail
  refine bodyPost_ret (v := .tuple #[.slice (some ⟨W1.heap.size, 0, none⟩) 2 2, .int .i64 (n + 1)]) (by simp [results, Try.results43, go_sem]) rfl ⟨_, rfl, ?_, below_alloc HB1.out _⟩
  exact row_new k60 60 W1 w.heap.size hsz [fenceL, ⟨y0, y1, y2, y3, y4⟩] _ (Kd.reps_append (reps_sing (k60_mkM W1 w.heap.size (fun _ => False) fenceL) rfl) (reps_sing (k60_mkM W1 w.heap.size (fun _ => False) ⟨y0, y1, y2, y3, y4⟩) rfl)) (by simp)
 ·have p1 : (0 < cntF g n) = False := eq_false (fun h => c (hpos.1 h))
  go_wp2_with fail
  refine bodyPost_ret (v := .tuple #[.slice (some ⟨W1.heap.size, 0, none⟩) 1 1, .int .i64 (n + 1)]) (by simp [results, Try.results43, go_sem]) rfl ⟨_, rfl, ?_, below_alloc HB1.out _⟩
  exact row_new k60 60 W1 w.heap.size hsz [⟨y0, y1, y2, y3, y4⟩] _ (reps_sing (k60_mkM W1 w.heap.size (fun _ => False) ⟨y0, y1, y2, y3, y4⟩) rfl) (by simp)
set_option maxHeartbeats 4000000 in
set_option maxRecDepth 100000 in
theorem erase_turn (x : S60) (n op : Int) (hb ob B nn : Nat) (g : List Int) (w : World) (hn : 0 ≤ n ∧ n ≤ 1000000000) (hc : w.cell? ⟨hb, 0, none⟩ = some (.map (some B))) (hM : MapIs w B nn (cntF g)) (ho : w.heap[ob]? = some (.cells #[.int .i64 op] 3 (0, 0))) :
 Calls Try.prog 37 #[.agg (lineC x).toArray, .int .i64 n, .pointer (some ⟨hb, 0, none⟩), .pointer (some ⟨ob, 0, none⟩)] w fun e w' => ∃ v, e = .returned (.tuple #[v, .int .i64 (eraseT g x n op).2.1]) ∧ Kd.R k60 60 w' w.heap.size (fun _ => True) v (eraseT g x n op).1 ∧ w'.heap[ob]? = some (.cells #[.int .i64 (eraseT g x n op).2.2] 3 (0, 0)) ∧ w.grownBy w' (some ob) := by
 have hu := Try.underlying60
 obtain ⟨y0, y1, y2, y3, y4⟩ := x
 unfold lineC eraseT
 have hlook := ((hM.below (below_alloc (Below.refl _ _) (.cells #[.int .i64 y0, .string y1, .string y2, .string y3, .int .i64 y4] 60))).look n (wf_i64_of (by omega) (by omega))).1
 have c1 : (w.alloc (.cells #[.int .i64 y0, .string y1, .string y2, .string y3, .int .i64 y4] 60)).cell? ⟨hb, 0, none⟩ = some (.map (some B)) := Lib.cell?_alloc_some _ hc
 have hpos := cnt_pos g n
 obtain ⟨W1, hW1⟩ : ∃ W1, W1 = w.alloc (.cells #[.int .i64 y0, .string y1, .string y2, .string y3, .int .i64 y4] 60) := ⟨_, rfl⟩
 have bX : W1.heap[w.heap.size]? = some (.cells #[.int .i64 y0, .string y1, .string y2, .string y3, .int .i64 y4] 60 (0, 0)) := by rw [hW1]; exact blk_new _ _
 have bO : W1.heap[ob]? = some (.cells #[.int .i64 op] 3 (0, 0)) := by rw [hW1]; exact blk_alloc ho _
 have x0 : W1.cell? ⟨w.heap.size, 0, none⟩ = some (.int .i64 y0) := (blk_cell bX 0).trans rfl
 have x1 : W1.cell? ⟨w.heap.size, 1, none⟩ = some (.string y1) := (blk_cell bX 1).trans rfl
 have x2 : W1.cell? ⟨w.heap.size, 2, none⟩ = some (.string y2) := (blk_cell bX 2).trans rfl
 have x3 : W1.cell? ⟨w.heap.size, 3, none⟩ = some (.string y3) := (blk_cell bX 3).trans rfl
 have x4 : W1.cell? ⟨w.heap.size, 4, none⟩ = some (.int .i64 y4) := (blk_cell bX 4).trans rfl
 have o0 : W1.cell? ⟨ob, 0, none⟩ = some (.int .i64 op) := (blk_cell bO 0).trans rfl
 have of := blk_frozen bO 0
 have BO := Aside0.mk bO
 have hB1 : Below w.heap.size w W1 := by rw [hW1]; exact below_alloc (Below.refl _ _) _
 have HB1 := Aside0.mk hB1
 have HW1 := Aside0.mk hW1
 have hsz := hB1.size
 have hlt := blk_lt ho
 rw [← hW1] at hlook c1
 clear hW1 bX bO hB1 hM hc ho
 have s1 : n + 1 ≤ 9223372036854775807 := by omega
 have s2 : -9223372036854775808 ≤ n + 1 := by omega
 go_enter Try.func37, Try.ntmps37
 go_upto_region 1 with fail
 rw [← HW1.out]
 have one := row_new k60 60 W1 w.heap.size hsz [⟨y0, y1, y2, y3, y4⟩] _ (reps_sing (k60_mkM W1 w.heap.size (fun _ => False) ⟨y0, y1, y2, y3, y4⟩) rfl) (by simp)
 have ONE := Aside0.mk one
 clear one
 by_cases c : n ∈ g
 ·have p1 : (0 < cntF g n) = True := eq_true (hpos.2 c)
  by_cases d : op = n
  ·have q1 : (op != n) = false := by simp [d]
   go_wp2_with fail
   refine bodyPost_ret (v := .tuple #[.slice (some ⟨W1.heap.size, 0, none⟩) 1 1, .int .i64 (n + 1)]) (by simp [results, Try.results37, go_sem]) rfl ⟨_, rfl, ONE.out, ?_, (grown_of_below (below_alloc HB1.out _) _)⟩
   rw [← d]; exact blk_alloc BO.out _
  ·have q1 : (op != n) = true := by simp [d]
   go_wp2_with fail
   refine bodyPost_ret (v := .tuple #[.slice none 0 0, .int .i64 n]) (by simp [results, Try.results37, go_sem]) rfl ⟨_, rfl, Kd.R_nil _ _ _ _ (fun _ => True), blk_set BO.out 0 _, ?_⟩
   exact (grown_of_below HB1.out (some ob)).trans (grown_set W1 ob 0 _)
 ·have p1 : (0 < cntF g n) = False := eq_false (fun h => c (hpos.1 h))
  go_wp2_with fail
  refine bodyPost_ret (v := .tuple #[.slice (some ⟨W1.heap.size, 0, none⟩) 1 1, .int .i64 (n + 1)]) (by simp [results, Try.results37, go_sem]) rfl ⟨_, rfl, ONE.out, blk_alloc BO.out _, (grown_of_below (below_alloc HB1.out _) _)⟩
end Go.Proofs.Ytijpfonbeepmfaa.Print
