/- taker.take: its contract, by walking its text: one theorem a kind of step. -/
import Derived.Test.YtdliojcpnkggnaaHScInv
import Derived.Lib.SliceRun
import Derived.StillTailTactics
import Derived.RegionTactic
import Derived.BigRegion
namespace Go.Proofs.Ytdliojcpnkggnaa.Print
open Go.RowKit Go.Proofs.YtdliojcpnkggnaaW.PrintWords Go.Proofs.YtdliojcpnkggnaaW.PrintLast Go.Proofs.YtdliojcpnkggnaaW.PrintMore
set_option linter.unusedVariables false
set_option linter.unusedSimpArgs false
/-- What take is given: a taker at block bt, its thread's cells at g from o on, its registers' row at gr, the locations' row. -/
structure Taken (bt g o gr cr : Nat) (Am : Option Addr) (nm cm : Nat) (at_ : Int) (eq_ : Bool) (W : World) : Prop where
  t0 : W.cell? ⟨bt, 0, none⟩ = some (.pointer (some ⟨g, o, none⟩))
  t1 : W.cell? ⟨bt, 1, none⟩ = some (.slice Am nm cm)
  c0 : W.cell? ⟨g, o, none⟩ = some (.int .i64 at_)
  c1 : W.cell? ⟨g, o + 1, none⟩ = some (.slice (some ⟨gr, 0, none⟩) 4 cr)
  c2 : W.cell? ⟨g, o + 2, none⟩ = some (.bool eq_)
  f0 : W.frozen? ⟨g, o, none⟩ = false
  f2 : W.frozen? ⟨g, o + 2, none⟩ = false
  n1 : g ≠ gr
  n2 : bt ≠ g
  n3 : bt ≠ gr
set_option maxRecDepth 100000 in
set_option maxHeartbeats 4000000 in
theorem take_imm (bt g o gr cr : Nat) (Am : Option Addr) (nm cm : Nat) (at_ : Int) (eq_ : Bool) (x : S39) (r : Nat) (rv : Int) (W : World) (h : Taken bt g o gr cr Am nm cm at_ eq_ W) (ha : 0 ≤ at_ ∧ at_ ≤ 1000000) (h1 : x.f0 = 1) (hr : x.f1 = (r : Int)) (hr4 : r < 4) (hc : W.cell? ⟨gr, r, none⟩ = some (.int .i64 rv)) (hf : W.frozen? ⟨gr, r, none⟩ = false) :
    Calls Try.prog 27 #[.pointer (some ⟨bt, 0, none⟩), .agg #[.int .i64 x.f0, .int .i64 x.f1, .int .i64 x.f2, .int .i64 x.f3, .int .i64 x.f4]] W fun e w' => e = .returned (.tuple #[]) ∧ ∃ W1 n, Below W.heap.size W W1 ∧ w' = ((W1.setCell ⟨gr, r, none⟩ (.int .i64 x.f3)).setCell ⟨g, o, none⟩ (.int .i64 (at_ + 1))).drewN n := by
  have hu1 := Try.underlying61
  have hu2 := Try.underlying45
  have hu3 := Try.underlying39
  obtain ⟨t0, t1, c0, c1, c2, f0, f2, n1, n2, n3⟩ := h
  obtain ⟨ha1, ha2⟩ := ha
  obtain ⟨y0, y1, y2, y3, y4⟩ := x
  simp only at h1 hr ⊢
  subst h1
  subst hr
  have p1 : ((r : Int) < 4) = True := eq_true (by omega)
  obtain ⟨W1, hW1⟩ : ∃ W1, W1 = W.alloc (.cells #[.int .i64 1, .int .i64 (r : Int), .int .i64 y2, .int .i64 y3, .int .i64 y4] 39) := ⟨_, rfl⟩
  have bX : W1.heap[W.heap.size]? = some (.cells #[.int .i64 1, .int .i64 (r : Int), .int .i64 y2, .int .i64 y3, .int .i64 y4] 39 (0, 0)) := by rw [hW1]; exact blk_new _ _
  have x0 : W1.cell? ⟨W.heap.size, 0, none⟩ = some (.int .i64 1) := (blk_cell bX 0).trans rfl
  have x1 : W1.cell? ⟨W.heap.size, 1, none⟩ = some (.int .i64 (r : Int)) := (blk_cell bX 1).trans rfl
  have x2 : W1.cell? ⟨W.heap.size, 2, none⟩ = some (.int .i64 y2) := (blk_cell bX 2).trans rfl
  have x3 : W1.cell? ⟨W.heap.size, 3, none⟩ = some (.int .i64 y3) := (blk_cell bX 3).trans rfl
  have x4 : W1.cell? ⟨W.heap.size, 4, none⟩ = some (.int .i64 y4) := (blk_cell bX 4).trans rfl
  have t0w : W1.cell? ⟨bt, 0, none⟩ = some (.pointer (some ⟨g, o, none⟩)) := by rw [hW1]; exact Lib.cell?_alloc_some _ t0
  have t1w : W1.cell? ⟨bt, 1, none⟩ = some (.slice Am nm cm) := by rw [hW1]; exact Lib.cell?_alloc_some _ t1
  have c0w : W1.cell? ⟨g, o, none⟩ = some (.int .i64 at_) := by rw [hW1]; exact Lib.cell?_alloc_some _ c0
  have c1w : W1.cell? ⟨g, o + 1, none⟩ = some (.slice (some ⟨gr, 0, none⟩) 4 cr) := by rw [hW1]; exact Lib.cell?_alloc_some _ c1
  have c2w : W1.cell? ⟨g, o + 2, none⟩ = some (.bool eq_) := by rw [hW1]; exact Lib.cell?_alloc_some _ c2
  have f0w : W1.frozen? ⟨g, o, none⟩ = false := by rw [hW1, frozen?_alloc_cells]; exact f0
  have f2w : W1.frozen? ⟨g, o + 2, none⟩ = false := by rw [hW1, frozen?_alloc_cells]; exact f2
  have xlt : W.heap.size < W1.heap.size := blk_lt bX
  have hcw : W1.cell? ⟨gr, r, none⟩ = some (.int .i64 rv) := by rw [hW1]; exact Lib.cell?_alloc_some _ hc
  have hfw : W1.frozen? ⟨gr, r, none⟩ = false := by rw [hW1, frozen?_alloc_cells]; exact hf
  clear hc hf
  have HW1 := Aside0.mk hW1
  have HB1 : Aside0 (Below W.heap.size W W1) := Aside0.mk (by rw [hW1]; exact below_alloc (Below.refl _ _) _)
  clear hW1 bX t0 t1 c0 c1 c2 f0 f2
  go_enter Try.func27, Try.ntmps27
  go_upto_region 1 with fail
  rw [← HW1.out]
  go_wp2_with fail
  go_still_tail 12, (by kernel_rfl)
  change wpList _ _ _ _ _ W1.drew
  go_wp2_with fail
  exact bodyPost_end (results_none rfl _ _ _) rfl ⟨rfl, W1, 1, HB1.out, rfl⟩
set_option maxRecDepth 100000 in
set_option maxHeartbeats 4000000 in
theorem take_cmp (bt g o gr cr : Nat) (Am : Option Addr) (nm cm : Nat) (at_ : Int) (eq_ : Bool) (x : S39) (r : Nat) (rv : Int) (W : World) (h : Taken bt g o gr cr Am nm cm at_ eq_ W) (ha : 0 ≤ at_ ∧ at_ ≤ 1000000) (h1 : x.f0 = 7) (hr : x.f1 = (r : Int)) (hr4 : r < 4) (hc : W.cell? ⟨gr, r, none⟩ = some (.int .i64 rv)) (hf : W.frozen? ⟨gr, r, none⟩ = false) :
    Calls Try.prog 27 #[.pointer (some ⟨bt, 0, none⟩), .agg #[.int .i64 x.f0, .int .i64 x.f1, .int .i64 x.f2, .int .i64 x.f3, .int .i64 x.f4]] W fun e w' => e = .returned (.tuple #[]) ∧ ∃ W1 n, Below W.heap.size W W1 ∧ w' = ((W1.setCell ⟨g, o + 2, none⟩ (.bool (rv == x.f3))).setCell ⟨g, o, none⟩ (.int .i64 (at_ + 1))).drewN n := by
  have hu1 := Try.underlying61
  have hu2 := Try.underlying45
  have hu3 := Try.underlying39
  obtain ⟨t0, t1, c0, c1, c2, f0, f2, n1, n2, n3⟩ := h
  obtain ⟨ha1, ha2⟩ := ha
  obtain ⟨y0, y1, y2, y3, y4⟩ := x
  simp only at h1 hr ⊢
  subst h1
  subst hr
  have p1 : ((r : Int) < 4) = True := eq_true (by omega)
  obtain ⟨W1, hW1⟩ : ∃ W1, W1 = W.alloc (.cells #[.int .i64 7, .int .i64 (r : Int), .int .i64 y2, .int .i64 y3, .int .i64 y4] 39) := ⟨_, rfl⟩
  have bX : W1.heap[W.heap.size]? = some (.cells #[.int .i64 7, .int .i64 (r : Int), .int .i64 y2, .int .i64 y3, .int .i64 y4] 39 (0, 0)) := by rw [hW1]; exact blk_new _ _
  have x0 : W1.cell? ⟨W.heap.size, 0, none⟩ = some (.int .i64 7) := (blk_cell bX 0).trans rfl
  have x1 : W1.cell? ⟨W.heap.size, 1, none⟩ = some (.int .i64 (r : Int)) := (blk_cell bX 1).trans rfl
  have x2 : W1.cell? ⟨W.heap.size, 2, none⟩ = some (.int .i64 y2) := (blk_cell bX 2).trans rfl
  have x3 : W1.cell? ⟨W.heap.size, 3, none⟩ = some (.int .i64 y3) := (blk_cell bX 3).trans rfl
  have x4 : W1.cell? ⟨W.heap.size, 4, none⟩ = some (.int .i64 y4) := (blk_cell bX 4).trans rfl
  have t0w : W1.cell? ⟨bt, 0, none⟩ = some (.pointer (some ⟨g, o, none⟩)) := by rw [hW1]; exact Lib.cell?_alloc_some _ t0
  have t1w : W1.cell? ⟨bt, 1, none⟩ = some (.slice Am nm cm) := by rw [hW1]; exact Lib.cell?_alloc_some _ t1
  have c0w : W1.cell? ⟨g, o, none⟩ = some (.int .i64 at_) := by rw [hW1]; exact Lib.cell?_alloc_some _ c0
  have c1w : W1.cell? ⟨g, o + 1, none⟩ = some (.slice (some ⟨gr, 0, none⟩) 4 cr) := by rw [hW1]; exact Lib.cell?_alloc_some _ c1
  have c2w : W1.cell? ⟨g, o + 2, none⟩ = some (.bool eq_) := by rw [hW1]; exact Lib.cell?_alloc_some _ c2
  have f0w : W1.frozen? ⟨g, o, none⟩ = false := by rw [hW1, frozen?_alloc_cells]; exact f0
  have f2w : W1.frozen? ⟨g, o + 2, none⟩ = false := by rw [hW1, frozen?_alloc_cells]; exact f2
  have xlt : W.heap.size < W1.heap.size := blk_lt bX
  have hcw : W1.cell? ⟨gr, r, none⟩ = some (.int .i64 rv) := by rw [hW1]; exact Lib.cell?_alloc_some _ hc
  have hfw : W1.frozen? ⟨gr, r, none⟩ = false := by rw [hW1, frozen?_alloc_cells]; exact hf
  clear hc hf
  have HW1 := Aside0.mk hW1
  have HB1 : Aside0 (Below W.heap.size W W1) := Aside0.mk (by rw [hW1]; exact below_alloc (Below.refl _ _) _)
  clear hW1 bX t0 t1 c0 c1 c2 f0 f2
  go_enter Try.func27, Try.ntmps27
  go_upto_region 1 with fail
  rw [← HW1.out]
  go_wp2_with fail
  go_still_tail 20, (by kernel_rfl)
  change wpList _ _ _ _ _ W1.drew
  go_wp2_with fail
  exact bodyPost_end (results_none rfl _ _ _) rfl ⟨rfl, W1, 1, HB1.out, rfl⟩
set_option maxRecDepth 100000 in
set_option maxHeartbeats 4000000 in
theorem take_put (bt g o gr cr : Nat) (Am : Option Addr) (nm cm : Nat) (at_ : Int) (eq_ : Bool) (x : S39) (l gm : Nat) (mv : Int) (W : World) (h : Taken bt g o gr cr Am nm cm at_ eq_ W) (ha : 0 ≤ at_ ∧ at_ ≤ 1000000) (h1 : x.f0 = 4) (hl : x.f2 = (l : Int)) (hln : l < nm) (hA : Am = some ⟨gm, 0, none⟩) (hm : W.cell? ⟨gm, l, none⟩ = some (.int .i64 mv)) (hg : W.frozen? ⟨gm, l, none⟩ = false) (m1 : gm ≠ g) (m2 : gm ≠ gr) (m3 : gm ≠ bt) :
    Calls Try.prog 27 #[.pointer (some ⟨bt, 0, none⟩), .agg #[.int .i64 x.f0, .int .i64 x.f1, .int .i64 x.f2, .int .i64 x.f3, .int .i64 x.f4]] W fun e w' => e = .returned (.tuple #[]) ∧ ∃ W1 n, Below W.heap.size W W1 ∧ w' = ((W1.setCell ⟨gm, l, none⟩ (.int .i64 x.f3)).setCell ⟨g, o, none⟩ (.int .i64 (at_ + 1))).drewN n := by
  have hu1 := Try.underlying61
  have hu2 := Try.underlying45
  have hu3 := Try.underlying39
  obtain ⟨t0, t1, c0, c1, c2, f0, f2, n1, n2, n3⟩ := h
  obtain ⟨ha1, ha2⟩ := ha
  obtain ⟨y0, y1, y2, y3, y4⟩ := x
  simp only at h1 hl ⊢
  subst h1
  subst hl
  have p2 : ((l : Int) < (nm : Int)) = True := eq_true (by omega)
  have p3 : (l < nm) = True := eq_true (by omega)
  obtain ⟨W1, hW1⟩ : ∃ W1, W1 = W.alloc (.cells #[.int .i64 4, .int .i64 y1, .int .i64 (l : Int), .int .i64 y3, .int .i64 y4] 39) := ⟨_, rfl⟩
  have bX : W1.heap[W.heap.size]? = some (.cells #[.int .i64 4, .int .i64 y1, .int .i64 (l : Int), .int .i64 y3, .int .i64 y4] 39 (0, 0)) := by rw [hW1]; exact blk_new _ _
  have x0 : W1.cell? ⟨W.heap.size, 0, none⟩ = some (.int .i64 4) := (blk_cell bX 0).trans rfl
  have x1 : W1.cell? ⟨W.heap.size, 1, none⟩ = some (.int .i64 y1) := (blk_cell bX 1).trans rfl
  have x2 : W1.cell? ⟨W.heap.size, 2, none⟩ = some (.int .i64 (l : Int)) := (blk_cell bX 2).trans rfl
  have x3 : W1.cell? ⟨W.heap.size, 3, none⟩ = some (.int .i64 y3) := (blk_cell bX 3).trans rfl
  have x4 : W1.cell? ⟨W.heap.size, 4, none⟩ = some (.int .i64 y4) := (blk_cell bX 4).trans rfl
  have t0w : W1.cell? ⟨bt, 0, none⟩ = some (.pointer (some ⟨g, o, none⟩)) := by rw [hW1]; exact Lib.cell?_alloc_some _ t0
  have t1w : W1.cell? ⟨bt, 1, none⟩ = some (.slice Am nm cm) := by rw [hW1]; exact Lib.cell?_alloc_some _ t1
  have c0w : W1.cell? ⟨g, o, none⟩ = some (.int .i64 at_) := by rw [hW1]; exact Lib.cell?_alloc_some _ c0
  have c1w : W1.cell? ⟨g, o + 1, none⟩ = some (.slice (some ⟨gr, 0, none⟩) 4 cr) := by rw [hW1]; exact Lib.cell?_alloc_some _ c1
  have c2w : W1.cell? ⟨g, o + 2, none⟩ = some (.bool eq_) := by rw [hW1]; exact Lib.cell?_alloc_some _ c2
  have f0w : W1.frozen? ⟨g, o, none⟩ = false := by rw [hW1, frozen?_alloc_cells]; exact f0
  have f2w : W1.frozen? ⟨g, o + 2, none⟩ = false := by rw [hW1, frozen?_alloc_cells]; exact f2
  have xlt : W.heap.size < W1.heap.size := blk_lt bX
  subst hA
  have hmw : W1.cell? ⟨gm, l, none⟩ = some (.int .i64 mv) := by rw [hW1]; exact Lib.cell?_alloc_some _ hm
  have hgw : W1.frozen? ⟨gm, l, none⟩ = false := by rw [hW1, frozen?_alloc_cells]; exact hg
  clear hm hg
  have HW1 := Aside0.mk hW1
  have HB1 : Aside0 (Below W.heap.size W W1) := Aside0.mk (by rw [hW1]; exact below_alloc (Below.refl _ _) _)
  clear hW1 bX t0 t1 c0 c1 c2 f0 f2
  go_enter Try.func27, Try.ntmps27
  go_upto_region 1 with fail
  rw [← HW1.out]
  go_wp2_with fail
  go_still_tail 9, (by kernel_rfl)
  change wpList _ _ _ _ _ W1.drew
  go_wp2_with fail
  exact bodyPost_end (results_none rfl _ _ _) rfl ⟨rfl, W1, 1, HB1.out, rfl⟩
set_option maxRecDepth 100000 in
set_option maxHeartbeats 4000000 in
theorem take_load (bt g o gr cr : Nat) (Am : Option Addr) (nm cm : Nat) (at_ : Int) (eq_ : Bool) (x : S39) (r : Nat) (rv : Int) (l gm : Nat) (mv : Int) (W : World) (h : Taken bt g o gr cr Am nm cm at_ eq_ W) (ha : 0 ≤ at_ ∧ at_ ≤ 1000000) (h1 : x.f0 = 2) (hr : x.f1 = (r : Int)) (hr4 : r < 4) (hc : W.cell? ⟨gr, r, none⟩ = some (.int .i64 rv)) (hf : W.frozen? ⟨gr, r, none⟩ = false) (hl : x.f2 = (l : Int)) (hln : l < nm) (hA : Am = some ⟨gm, 0, none⟩) (hm : W.cell? ⟨gm, l, none⟩ = some (.int .i64 mv)) (hg : W.frozen? ⟨gm, l, none⟩ = false) (m1 : gm ≠ g) (m2 : gm ≠ gr) (m3 : gm ≠ bt) :
    Calls Try.prog 27 #[.pointer (some ⟨bt, 0, none⟩), .agg #[.int .i64 x.f0, .int .i64 x.f1, .int .i64 x.f2, .int .i64 x.f3, .int .i64 x.f4]] W fun e w' => e = .returned (.tuple #[]) ∧ ∃ W1 n, Below W.heap.size W W1 ∧ w' = ((W1.setCell ⟨gr, r, none⟩ (.int .i64 mv)).setCell ⟨g, o, none⟩ (.int .i64 (at_ + 1))).drewN n := by
  have hu1 := Try.underlying61
  have hu2 := Try.underlying45
  have hu3 := Try.underlying39
  obtain ⟨t0, t1, c0, c1, c2, f0, f2, n1, n2, n3⟩ := h
  obtain ⟨ha1, ha2⟩ := ha
  obtain ⟨y0, y1, y2, y3, y4⟩ := x
  simp only at h1 hr hl ⊢
  subst h1
  subst hr
  have p1 : ((r : Int) < 4) = True := eq_true (by omega)
  subst hl
  have p2 : ((l : Int) < (nm : Int)) = True := eq_true (by omega)
  have p3 : (l < nm) = True := eq_true (by omega)
  obtain ⟨W1, hW1⟩ : ∃ W1, W1 = W.alloc (.cells #[.int .i64 2, .int .i64 (r : Int), .int .i64 (l : Int), .int .i64 y3, .int .i64 y4] 39) := ⟨_, rfl⟩
  have bX : W1.heap[W.heap.size]? = some (.cells #[.int .i64 2, .int .i64 (r : Int), .int .i64 (l : Int), .int .i64 y3, .int .i64 y4] 39 (0, 0)) := by rw [hW1]; exact blk_new _ _
  have x0 : W1.cell? ⟨W.heap.size, 0, none⟩ = some (.int .i64 2) := (blk_cell bX 0).trans rfl
  have x1 : W1.cell? ⟨W.heap.size, 1, none⟩ = some (.int .i64 (r : Int)) := (blk_cell bX 1).trans rfl
  have x2 : W1.cell? ⟨W.heap.size, 2, none⟩ = some (.int .i64 (l : Int)) := (blk_cell bX 2).trans rfl
  have x3 : W1.cell? ⟨W.heap.size, 3, none⟩ = some (.int .i64 y3) := (blk_cell bX 3).trans rfl
  have x4 : W1.cell? ⟨W.heap.size, 4, none⟩ = some (.int .i64 y4) := (blk_cell bX 4).trans rfl
  have t0w : W1.cell? ⟨bt, 0, none⟩ = some (.pointer (some ⟨g, o, none⟩)) := by rw [hW1]; exact Lib.cell?_alloc_some _ t0
  have t1w : W1.cell? ⟨bt, 1, none⟩ = some (.slice Am nm cm) := by rw [hW1]; exact Lib.cell?_alloc_some _ t1
  have c0w : W1.cell? ⟨g, o, none⟩ = some (.int .i64 at_) := by rw [hW1]; exact Lib.cell?_alloc_some _ c0
  have c1w : W1.cell? ⟨g, o + 1, none⟩ = some (.slice (some ⟨gr, 0, none⟩) 4 cr) := by rw [hW1]; exact Lib.cell?_alloc_some _ c1
  have c2w : W1.cell? ⟨g, o + 2, none⟩ = some (.bool eq_) := by rw [hW1]; exact Lib.cell?_alloc_some _ c2
  have f0w : W1.frozen? ⟨g, o, none⟩ = false := by rw [hW1, frozen?_alloc_cells]; exact f0
  have f2w : W1.frozen? ⟨g, o + 2, none⟩ = false := by rw [hW1, frozen?_alloc_cells]; exact f2
  have xlt : W.heap.size < W1.heap.size := blk_lt bX
  subst hA
  have NE : Aside0 (gm ≠ W.heap.size ∧ gr ≠ W.heap.size) := Aside0.mk ⟨Nat.ne_of_lt (World.block_lt_of_cell? W _ hm), Nat.ne_of_lt (World.block_lt_of_cell? W _ hc)⟩
  have hcw : W1.cell? ⟨gr, r, none⟩ = some (.int .i64 rv) := by rw [hW1]; exact Lib.cell?_alloc_some _ hc
  have hfw : W1.frozen? ⟨gr, r, none⟩ = false := by rw [hW1, frozen?_alloc_cells]; exact hf
  clear hc hf
  have hmw : W1.cell? ⟨gm, l, none⟩ = some (.int .i64 mv) := by rw [hW1]; exact Lib.cell?_alloc_some _ hm
  have hgw : W1.frozen? ⟨gm, l, none⟩ = false := by rw [hW1, frozen?_alloc_cells]; exact hg
  clear hm hg
  have HW1 := Aside0.mk hW1
  have HB1 : Aside0 (Below W.heap.size W W1) := Aside0.mk (by rw [hW1]; exact below_alloc (Below.refl _ _) _)
  clear hW1 bX t0 t1 c0 c1 c2 f0 f2
  go_enter Try.func27, Try.ntmps27
  go_upto_region 1 with fail
  rw [← HW1.out]
  go_wp2_with fail
  go_still_tail 18, (by kernel_rfl)
  change wpList _ _ _ _ _ W1.drew
  go_wp2_with fail
  exact bodyPost_end (results_none rfl _ _ _) rfl ⟨rfl, W1, 1, HB1.out, rfl⟩
set_option maxRecDepth 100000 in
set_option maxHeartbeats 4000000 in
theorem take_store (bt g o gr cr : Nat) (Am : Option Addr) (nm cm : Nat) (at_ : Int) (eq_ : Bool) (x : S39) (r : Nat) (rv : Int) (l gm : Nat) (mv : Int) (W : World) (h : Taken bt g o gr cr Am nm cm at_ eq_ W) (ha : 0 ≤ at_ ∧ at_ ≤ 1000000) (h1 : x.f0 = 3) (hr : x.f1 = (r : Int)) (hr4 : r < 4) (hc : W.cell? ⟨gr, r, none⟩ = some (.int .i64 rv)) (hf : W.frozen? ⟨gr, r, none⟩ = false) (hl : x.f2 = (l : Int)) (hln : l < nm) (hA : Am = some ⟨gm, 0, none⟩) (hm : W.cell? ⟨gm, l, none⟩ = some (.int .i64 mv)) (hg : W.frozen? ⟨gm, l, none⟩ = false) (m1 : gm ≠ g) (m2 : gm ≠ gr) (m3 : gm ≠ bt) :
    Calls Try.prog 27 #[.pointer (some ⟨bt, 0, none⟩), .agg #[.int .i64 x.f0, .int .i64 x.f1, .int .i64 x.f2, .int .i64 x.f3, .int .i64 x.f4]] W fun e w' => e = .returned (.tuple #[]) ∧ ∃ W1 n, Below W.heap.size W W1 ∧ w' = (((W1.setCell ⟨gm, l, none⟩ (.int .i64 rv)).setCell ⟨gr, r, none⟩ (.int .i64 rv)).setCell ⟨g, o, none⟩ (.int .i64 (at_ + 1))).drewN n := by
  have hu1 := Try.underlying61
  have hu2 := Try.underlying45
  have hu3 := Try.underlying39
  obtain ⟨t0, t1, c0, c1, c2, f0, f2, n1, n2, n3⟩ := h
  obtain ⟨ha1, ha2⟩ := ha
  obtain ⟨y0, y1, y2, y3, y4⟩ := x
  simp only at h1 hr hl ⊢
  subst h1
  subst hr
  have p1 : ((r : Int) < 4) = True := eq_true (by omega)
  subst hl
  have p2 : ((l : Int) < (nm : Int)) = True := eq_true (by omega)
  have p3 : (l < nm) = True := eq_true (by omega)
  obtain ⟨W1, hW1⟩ : ∃ W1, W1 = W.alloc (.cells #[.int .i64 3, .int .i64 (r : Int), .int .i64 (l : Int), .int .i64 y3, .int .i64 y4] 39) := ⟨_, rfl⟩
  have bX : W1.heap[W.heap.size]? = some (.cells #[.int .i64 3, .int .i64 (r : Int), .int .i64 (l : Int), .int .i64 y3, .int .i64 y4] 39 (0, 0)) := by rw [hW1]; exact blk_new _ _
  have x0 : W1.cell? ⟨W.heap.size, 0, none⟩ = some (.int .i64 3) := (blk_cell bX 0).trans rfl
  have x1 : W1.cell? ⟨W.heap.size, 1, none⟩ = some (.int .i64 (r : Int)) := (blk_cell bX 1).trans rfl
  have x2 : W1.cell? ⟨W.heap.size, 2, none⟩ = some (.int .i64 (l : Int)) := (blk_cell bX 2).trans rfl
  have x3 : W1.cell? ⟨W.heap.size, 3, none⟩ = some (.int .i64 y3) := (blk_cell bX 3).trans rfl
  have x4 : W1.cell? ⟨W.heap.size, 4, none⟩ = some (.int .i64 y4) := (blk_cell bX 4).trans rfl
  have t0w : W1.cell? ⟨bt, 0, none⟩ = some (.pointer (some ⟨g, o, none⟩)) := by rw [hW1]; exact Lib.cell?_alloc_some _ t0
  have t1w : W1.cell? ⟨bt, 1, none⟩ = some (.slice Am nm cm) := by rw [hW1]; exact Lib.cell?_alloc_some _ t1
  have c0w : W1.cell? ⟨g, o, none⟩ = some (.int .i64 at_) := by rw [hW1]; exact Lib.cell?_alloc_some _ c0
  have c1w : W1.cell? ⟨g, o + 1, none⟩ = some (.slice (some ⟨gr, 0, none⟩) 4 cr) := by rw [hW1]; exact Lib.cell?_alloc_some _ c1
  have c2w : W1.cell? ⟨g, o + 2, none⟩ = some (.bool eq_) := by rw [hW1]; exact Lib.cell?_alloc_some _ c2
  have f0w : W1.frozen? ⟨g, o, none⟩ = false := by rw [hW1, frozen?_alloc_cells]; exact f0
  have f2w : W1.frozen? ⟨g, o + 2, none⟩ = false := by rw [hW1, frozen?_alloc_cells]; exact f2
  have xlt : W.heap.size < W1.heap.size := blk_lt bX
  subst hA
  have NE : Aside0 (gm ≠ W.heap.size ∧ gr ≠ W.heap.size) := Aside0.mk ⟨Nat.ne_of_lt (World.block_lt_of_cell? W _ hm), Nat.ne_of_lt (World.block_lt_of_cell? W _ hc)⟩
  have hcw : W1.cell? ⟨gr, r, none⟩ = some (.int .i64 rv) := by rw [hW1]; exact Lib.cell?_alloc_some _ hc
  have hfw : W1.frozen? ⟨gr, r, none⟩ = false := by rw [hW1, frozen?_alloc_cells]; exact hf
  clear hc hf
  have hmw : W1.cell? ⟨gm, l, none⟩ = some (.int .i64 mv) := by rw [hW1]; exact Lib.cell?_alloc_some _ hm
  have hgw : W1.frozen? ⟨gm, l, none⟩ = false := by rw [hW1, frozen?_alloc_cells]; exact hg
  clear hm hg
  have HW1 := Aside0.mk hW1
  have HB1 : Aside0 (Below W.heap.size W W1) := Aside0.mk (by rw [hW1]; exact below_alloc (Below.refl _ _) _)
  clear hW1 bX t0 t1 c0 c1 c2 f0 f2
  go_enter Try.func27, Try.ntmps27
  go_upto_region 1 with fail
  rw [← HW1.out]
  go_wp2_with fail
  go_still_tail 18, (by kernel_rfl)
  change wpList _ _ _ _ _ W1.drew
  go_wp2_with fail
  obtain ⟨W2, hW2⟩ : ∃ W2, W2 = (W1.setCell ⟨gm, l, none⟩ (.int .i64 rv)).drew := ⟨_, rfl⟩
  rw [← hW2]
  have v0 : W2.cell? ⟨bt, 0, none⟩ = some (.pointer (some ⟨g, o, none⟩)) := by rw [hW2]; exact (World.cell?_setCell_far W1 ⟨gm, l, none⟩ ⟨bt, 0, none⟩ _ m3).trans t0w
  have v1 : W2.cell? ⟨bt, 1, none⟩ = some (.slice (some ⟨gm, 0, none⟩) nm cm) := by rw [hW2]; exact (World.cell?_setCell_far W1 ⟨gm, l, none⟩ ⟨bt, 1, none⟩ _ m3).trans t1w
  have v3 : W2.cell? ⟨g, o + 1, none⟩ = some (.slice (some ⟨gr, 0, none⟩) 4 cr) := by rw [hW2]; exact (World.cell?_setCell_far W1 ⟨gm, l, none⟩ ⟨g, o + 1, none⟩ _ m1).trans c1w
  have v4 : W2.cell? ⟨g, o, none⟩ = some (.int .i64 at_) := by rw [hW2]; exact (World.cell?_setCell_far W1 ⟨gm, l, none⟩ ⟨g, o, none⟩ _ m1).trans c0w
  have v5 : W2.cell? ⟨gr, r, none⟩ = some (.int .i64 rv) := by rw [hW2]; exact (World.cell?_setCell_far W1 ⟨gm, l, none⟩ ⟨gr, r, none⟩ _ m2).trans hcw
  have v6 : W2.cell? ⟨gm, l, none⟩ = some (.int .i64 rv) := by rw [hW2]; exact World.cell?_setCell_same _ _ _ hmw
  have v7 : W2.cell? ⟨W.heap.size, 1, none⟩ = some (.int .i64 (r : Int)) := by rw [hW2]; exact (World.cell?_setCell_far W1 ⟨gm, l, none⟩ ⟨W.heap.size, 1, none⟩ _ NE.out.1).trans x1
  have v8 : W2.cell? ⟨W.heap.size, 2, none⟩ = some (.int .i64 (l : Int)) := by rw [hW2]; exact (World.cell?_setCell_far W1 ⟨gm, l, none⟩ ⟨W.heap.size, 2, none⟩ _ NE.out.1).trans x2
  have v9 : W2.frozen? ⟨gr, r, none⟩ = false := by rw [hW2]; exact (World.frozen?_setCell _ _ _ _).trans hfw
  have v10 : W2.frozen? ⟨g, o, none⟩ = false := by rw [hW2]; exact (World.frozen?_setCell _ _ _ _).trans f0w
  have HW2 := Aside0.mk hW2
  clear hW2
  go_still_tail 18, (by kernel_rfl)
  change wpList _ _ _ _ _ W2.drew
  go_wp2_with fail
  exact bodyPost_end (results_none rfl _ _ _) rfl ⟨rfl, W1, 2, HB1.out, by rw [HW2.out]; rfl⟩
open Go.Proofs.YtdliojcpnkggnaaW.PrintLast in
theorem quiet_ {P : Program} {md : Region.Mode} {ops : Array Oper} {Q : Exit → Act → World → Prop} {S : World → Prop} {ds : List Nat} {i : Nat} {N : Option Tmp} {oi : Oper} {v : Value} {fuel : Nat} {l : Array Bool} {a : Act} {w : World} (l' : Array Bool) (hi : ops[i]? = some oi) (hN : oi.dst = N) (hc : readyB md ops l l' i = true)
    (hw : Region.wanted oi (yielded ops a.tmps) = true) (hrun : (execOp a.eval oi).run P w = .ok (.value v) w) (h : wpAnyLast P md ops Q S ds fuel l' (a.put N v) w) : wpAnyLast P md ops Q S ds (fuel + 1) l a w := by
  simp only [readyB, Bool.and_eq_true, beq_iff_eq] at hc
  obtain ⟨h1, h2⟩ := hc
  subst h2
  refine wpAnyLast_ready h1 (by simp) (fun j hj => ?_)
  obtain rfl := List.mem_singleton.1 hj
  refine wpOp_step hi (fun K' hK => ?_)
  have := value_ (K := K') (Q := Q) hw hN hrun (hK _ _ ⟨fun _ h => h, h⟩)
  rwa [← hN] at this
set_option maxRecDepth 100000 in
set_option maxHeartbeats 4000000 in
theorem take_xchg (bt g o gr cr : Nat) (Am : Option Addr) (nm cm : Nat) (at_ : Int) (eq_ : Bool) (x : S39) (r : Nat) (rv : Int) (l gm : Nat) (mv : Int) (W : World) (h : Taken bt g o gr cr Am nm cm at_ eq_ W) (ha : 0 ≤ at_ ∧ at_ ≤ 1000000) (h1 : x.f0 = 5) (hr : x.f1 = (r : Int)) (hr4 : r < 4) (hc : W.cell? ⟨gr, r, none⟩ = some (.int .i64 rv)) (hf : W.frozen? ⟨gr, r, none⟩ = false) (hl : x.f2 = (l : Int)) (hln : l < nm) (hA : Am = some ⟨gm, 0, none⟩) (hm : W.cell? ⟨gm, l, none⟩ = some (.int .i64 mv)) (hg : W.frozen? ⟨gm, l, none⟩ = false) (m1 : gm ≠ g) (m2 : gm ≠ gr) (m3 : gm ≠ bt) :
    Calls Try.prog 27 #[.pointer (some ⟨bt, 0, none⟩), .agg #[.int .i64 x.f0, .int .i64 x.f1, .int .i64 x.f2, .int .i64 x.f3, .int .i64 x.f4]] W fun e w' => e = .returned (.tuple #[]) ∧ ∃ W1 n, Below W.heap.size W W1 ∧ w' = (((W1.setCell ⟨gm, l, none⟩ (.int .i64 rv)).setCell ⟨gr, r, none⟩ (.int .i64 mv)).setCell ⟨g, o, none⟩ (.int .i64 (at_ + 1))).drewN n := by
  have hu1 := Try.underlying61
  have hu2 := Try.underlying45
  have hu3 := Try.underlying39
  obtain ⟨t0, t1, c0, c1, c2, f0, f2, n1, n2, n3⟩ := h
  obtain ⟨ha1, ha2⟩ := ha
  obtain ⟨y0, y1, y2, y3, y4⟩ := x
  simp only at h1 hr hl ⊢
  subst h1
  subst hr
  have p1 : ((r : Int) < 4) = True := eq_true (by omega)
  subst hl
  have p2 : ((l : Int) < (nm : Int)) = True := eq_true (by omega)
  have p3 : (l < nm) = True := eq_true (by omega)
  obtain ⟨W1, hW1⟩ : ∃ W1, W1 = W.alloc (.cells #[.int .i64 5, .int .i64 (r : Int), .int .i64 (l : Int), .int .i64 y3, .int .i64 y4] 39) := ⟨_, rfl⟩
  have bX : W1.heap[W.heap.size]? = some (.cells #[.int .i64 5, .int .i64 (r : Int), .int .i64 (l : Int), .int .i64 y3, .int .i64 y4] 39 (0, 0)) := by rw [hW1]; exact blk_new _ _
  have x0 : W1.cell? ⟨W.heap.size, 0, none⟩ = some (.int .i64 5) := (blk_cell bX 0).trans rfl
  have x1 : W1.cell? ⟨W.heap.size, 1, none⟩ = some (.int .i64 (r : Int)) := (blk_cell bX 1).trans rfl
  have x2 : W1.cell? ⟨W.heap.size, 2, none⟩ = some (.int .i64 (l : Int)) := (blk_cell bX 2).trans rfl
  have x3 : W1.cell? ⟨W.heap.size, 3, none⟩ = some (.int .i64 y3) := (blk_cell bX 3).trans rfl
  have x4 : W1.cell? ⟨W.heap.size, 4, none⟩ = some (.int .i64 y4) := (blk_cell bX 4).trans rfl
  have t0w : W1.cell? ⟨bt, 0, none⟩ = some (.pointer (some ⟨g, o, none⟩)) := by rw [hW1]; exact Lib.cell?_alloc_some _ t0
  have t1w : W1.cell? ⟨bt, 1, none⟩ = some (.slice Am nm cm) := by rw [hW1]; exact Lib.cell?_alloc_some _ t1
  have c0w : W1.cell? ⟨g, o, none⟩ = some (.int .i64 at_) := by rw [hW1]; exact Lib.cell?_alloc_some _ c0
  have c1w : W1.cell? ⟨g, o + 1, none⟩ = some (.slice (some ⟨gr, 0, none⟩) 4 cr) := by rw [hW1]; exact Lib.cell?_alloc_some _ c1
  have c2w : W1.cell? ⟨g, o + 2, none⟩ = some (.bool eq_) := by rw [hW1]; exact Lib.cell?_alloc_some _ c2
  have f0w : W1.frozen? ⟨g, o, none⟩ = false := by rw [hW1, frozen?_alloc_cells]; exact f0
  have f2w : W1.frozen? ⟨g, o + 2, none⟩ = false := by rw [hW1, frozen?_alloc_cells]; exact f2
  have xlt : W.heap.size < W1.heap.size := blk_lt bX
  subst hA
  have NE : Aside0 (gm ≠ W.heap.size ∧ gr ≠ W.heap.size) := Aside0.mk ⟨Nat.ne_of_lt (World.block_lt_of_cell? W _ hm), Nat.ne_of_lt (World.block_lt_of_cell? W _ hc)⟩
  have hcw : W1.cell? ⟨gr, r, none⟩ = some (.int .i64 rv) := by rw [hW1]; exact Lib.cell?_alloc_some _ hc
  have hfw : W1.frozen? ⟨gr, r, none⟩ = false := by rw [hW1, frozen?_alloc_cells]; exact hf
  clear hc hf
  have hmw : W1.cell? ⟨gm, l, none⟩ = some (.int .i64 mv) := by rw [hW1]; exact Lib.cell?_alloc_some _ hm
  have hgw : W1.frozen? ⟨gm, l, none⟩ = false := by rw [hW1, frozen?_alloc_cells]; exact hg
  clear hm hg
  have HW1 := Aside0.mk hW1
  have HB1 : Aside0 (Below W.heap.size W W1) := Aside0.mk (by rw [hW1]; exact below_alloc (Below.refl _ _) _)
  clear hW1 bX t0 t1 c0 c1 c2 f0 f2
  go_enter Try.func27, Try.ntmps27
  go_upto_region 1 with fail
  rw [← HW1.out]
  go_wp2_with fail
  refine start_ (n := 38) (S := fun w' => w'.cell? ⟨bt, 0, none⟩ = some (.pointer (some ⟨g, o, none⟩)) ∧ w'.cell? ⟨bt, 1, none⟩ = some (.slice (some ⟨gm, 0, none⟩) nm cm) ∧ w'.cell? ⟨g, o + 1, none⟩ = some (.slice (some ⟨gr, 0, none⟩) 4 cr) ∧ w'.cell? ⟨W.heap.size, 1, none⟩ = some (.int .i64 (r : Int)) ∧ w'.cell? ⟨W.heap.size, 2, none⟩ = some (.int .i64 (l : Int)) ∧ w'.cell? ⟨gr, r, none⟩ = some (.int .i64 rv) ∧ w'.cell? ⟨gm, l, none⟩ = some (.int .i64 mv)) (ds := [35, 37]) #[false, false, false, false, false, false, false, false, false, false, false, false, false, false, false, false, false, false, false, false, false, false, false, false, false, false, false, false, false, false, false, false, false, false, false, false, false, false] (by kernel_rfl) rfl rfl ⟨t0w, t1w, c1w, x1, x2, hcw, hmw⟩ (fun hHeld => ?_)
  have q1 := NE.out.1
  have q2 := NE.out.2
  have q3 : ((r : Int).toNat) = r := by omega
  have q4 : ((l : Int).toNat) = l := by omega
  refine pure_ (i := 0) (N := some 74) (v := ?_) (a' := ?_) #[true, false, false, false, false, false, false, false, false, false, false, false, false, false, false, false, false, false, false, false, false, false, false, false, false, false, false, false, false, false, false, false, false, false, false, false, false, false] rfl rfl (by kernel_rfl) (fun _ _ _ h => h) (Or.inl ⟨by rfl, ?_⟩) ?_ ?_
  rotate_left
  · intro w'
    go_simp
    with_reducible rfl
  rotate_left
  · simp only [Act.put, List.setIfInBounds_toArray, List.set_cons_zero, List.set_cons_succ, i64_w, i32_w]
    rfl
  refine pure_ (i := 1) (N := some 75) (v := ?_) (a' := ?_) #[true, true, false, false, false, false, false, false, false, false, false, false, false, false, false, false, false, false, false, false, false, false, false, false, false, false, false, false, false, false, false, false, false, false, false, false, false, false] rfl rfl (by kernel_rfl) (fun _ _ _ h => h) (Or.inl ⟨by rfl, ?_⟩) ?_ ?_
  rotate_left
  · intro w'
    go_simp
    with_reducible rfl
  rotate_left
  · simp only [Act.put, List.setIfInBounds_toArray, List.set_cons_zero, List.set_cons_succ, i64_w, i32_w]
    rfl
  refine pure_ (i := 2) (N := some 76) (v := ?_) (a' := ?_) #[true, true, true, false, false, false, false, false, false, false, false, false, false, false, false, false, false, false, false, false, false, false, false, false, false, false, false, false, false, false, false, false, false, false, false, false, false, false] rfl rfl (by kernel_rfl) (fun _ _ _ h => h) (Or.inl ⟨by rfl, ?_⟩) ?_ ?_
  rotate_left
  · intro w'
    go_simp
    with_reducible rfl
  rotate_left
  · simp only [Act.put, List.setIfInBounds_toArray, List.set_cons_zero, List.set_cons_succ, i64_w, i32_w]
    rfl
  refine take_ (i := 3) (N := some 77) (v := ?_) (a' := ?_) #[true, true, true, true, false, false, false, false, false, false, false, false, false, false, false, false, false, false, false, false, false, false, false, false, false, false, false, false, false, false, false, false, false, false, false, false, false, false] rfl rfl (by kernel_rfl) (fun _ _ _ h => h) (Or.inl ⟨by rfl, ?_⟩) hHeld ?_ ?_
  rotate_left
  · rintro w' ⟨s0, s1, s2, s3, s4, s5, s6⟩
    go_simp
    with_reducible rfl
  rotate_left
  · simp only [Act.put, List.setIfInBounds_toArray, List.set_cons_zero, List.set_cons_succ, i64_w, i32_w]
    rfl
  refine pure_ (i := 4) (N := some 78) (v := ?_) (a' := ?_) #[true, true, true, true, true, false, false, false, false, false, false, false, false, false, false, false, false, false, false, false, false, false, false, false, false, false, false, false, false, false, false, false, false, false, false, false, false, false] rfl rfl (by kernel_rfl) (fun _ _ _ h => h) (Or.inl ⟨by rfl, ?_⟩) ?_ ?_
  rotate_left
  · intro w'
    go_simp
    with_reducible rfl
  rotate_left
  · simp only [Act.put, List.setIfInBounds_toArray, List.set_cons_zero, List.set_cons_succ, i64_w, i32_w]
    rfl
  refine take_ (i := 5) (N := some 79) (v := ?_) (a' := ?_) #[true, true, true, true, true, true, false, false, false, false, false, false, false, false, false, false, false, false, false, false, false, false, false, false, false, false, false, false, false, false, false, false, false, false, false, false, false, false] rfl rfl (by kernel_rfl) (fun _ _ _ h => h) (Or.inl ⟨by rfl, ?_⟩) hHeld ?_ ?_
  rotate_left
  · rintro w' ⟨s0, s1, s2, s3, s4, s5, s6⟩
    go_simp
    with_reducible rfl
  rotate_left
  · simp only [Act.put, List.setIfInBounds_toArray, List.set_cons_zero, List.set_cons_succ, i64_w, i32_w]
    rfl
  refine pure_ (i := 6) (N := some 80) (v := ?_) (a' := ?_) #[true, true, true, true, true, true, true, false, false, false, false, false, false, false, false, false, false, false, false, false, false, false, false, false, false, false, false, false, false, false, false, false, false, false, false, false, false, false] rfl rfl (by kernel_rfl) (fun _ _ _ h => h) (Or.inl ⟨by rfl, ?_⟩) ?_ ?_
  rotate_left
  · intro w'
    go_simp
    with_reducible rfl
  rotate_left
  · simp only [Act.put, List.setIfInBounds_toArray, List.set_cons_zero, List.set_cons_succ, i64_w, i32_w]
    rfl
  refine pure_ (i := 7) (N := some 81) (v := ?_) (a' := ?_) #[true, true, true, true, true, true, true, true, false, false, false, false, false, false, false, false, false, false, false, false, false, false, false, false, false, false, false, false, false, false, false, false, false, false, false, false, false, false] rfl rfl (by kernel_rfl) (fun _ _ _ h => h) (Or.inl ⟨by rfl, ?_⟩) ?_ ?_
  rotate_left
  · intro w'
    go_simp
    with_reducible rfl
  rotate_left
  · simp only [Act.put, List.setIfInBounds_toArray, List.set_cons_zero, List.set_cons_succ, i64_w, i32_w]
    rfl
  refine pure_ (i := 8) (N := some 82) (v := ?_) (a' := ?_) #[true, true, true, true, true, true, true, true, true, false, false, false, false, false, false, false, false, false, false, false, false, false, false, false, false, false, false, false, false, false, false, false, false, false, false, false, false, false] rfl rfl (by kernel_rfl) (fun _ _ _ h => h) (Or.inl ⟨by rfl, ?_⟩) ?_ ?_
  rotate_left
  · intro w'
    go_simp
    with_reducible rfl
  rotate_left
  · simp only [Act.put, List.setIfInBounds_toArray, List.set_cons_zero, List.set_cons_succ, i64_w, i32_w]
    rfl
  refine take_ (i := 9) (N := some 83) (v := ?_) (a' := ?_) #[true, true, true, true, true, true, true, true, true, true, false, false, false, false, false, false, false, false, false, false, false, false, false, false, false, false, false, false, false, false, false, false, false, false, false, false, false, false] rfl rfl (by kernel_rfl) (fun _ _ _ h => h) (Or.inl ⟨by rfl, ?_⟩) hHeld ?_ ?_
  rotate_left
  · rintro w' ⟨s0, s1, s2, s3, s4, s5, s6⟩
    go_simp
    with_reducible rfl
  rotate_left
  · simp only [Act.put, List.setIfInBounds_toArray, List.set_cons_zero, List.set_cons_succ, i64_w, i32_w]
    rfl
  refine pure_ (i := 10) (N := some 84) (v := ?_) (a' := ?_) #[true, true, true, true, true, true, true, true, true, true, true, false, false, false, false, false, false, false, false, false, false, false, false, false, false, false, false, false, false, false, false, false, false, false, false, false, false, false] rfl rfl (by kernel_rfl) (fun _ _ _ h => h) (Or.inl ⟨by rfl, ?_⟩) ?_ ?_
  rotate_left
  · intro w'
    go_simp
    with_reducible rfl
  rotate_left
  · simp only [Act.put, List.setIfInBounds_toArray, List.set_cons_zero, List.set_cons_succ, i64_w, i32_w]
    rfl
  refine pure_ (i := 11) (N := some 85) (v := ?_) (a' := ?_) #[true, true, true, true, true, true, true, true, true, true, true, true, false, false, false, false, false, false, false, false, false, false, false, false, false, false, false, false, false, false, false, false, false, false, false, false, false, false] rfl rfl (by kernel_rfl) (fun _ _ _ h => h) (Or.inl ⟨by rfl, ?_⟩) ?_ ?_
  rotate_left
  · intro w'
    go_simp
    with_reducible rfl
  rotate_left
  · simp only [Act.put, List.setIfInBounds_toArray, List.set_cons_zero, List.set_cons_succ, i64_w, i32_w]
    rfl
  refine take_ (i := 12) (N := some 86) (v := ?_) (a' := ?_) #[true, true, true, true, true, true, true, true, true, true, true, true, true, false, false, false, false, false, false, false, false, false, false, false, false, false, false, false, false, false, false, false, false, false, false, false, false, false] rfl rfl (by kernel_rfl) (fun _ _ _ h => h) (Or.inl ⟨by rfl, ?_⟩) hHeld ?_ ?_
  rotate_left
  · rintro w' ⟨s0, s1, s2, s3, s4, s5, s6⟩
    go_simp
    with_reducible rfl
  rotate_left
  · simp only [Act.put, List.setIfInBounds_toArray, List.set_cons_zero, List.set_cons_succ, i64_w, i32_w]
    rfl
  refine pure_ (i := 13) (N := some 87) (v := ?_) (a' := ?_) #[true, true, true, true, true, true, true, true, true, true, true, true, true, true, false, false, false, false, false, false, false, false, false, false, false, false, false, false, false, false, false, false, false, false, false, false, false, false] rfl rfl (by kernel_rfl) (fun _ _ _ h => h) (Or.inl ⟨by rfl, ?_⟩) ?_ ?_
  rotate_left
  · intro w'
    go_simp
    with_reducible rfl
  rotate_left
  · simp only [Act.put, List.setIfInBounds_toArray, List.set_cons_zero, List.set_cons_succ, i64_w, i32_w]
    rfl
  refine pure_ (i := 15) (N := some 89) (v := ?_) (a' := ?_) #[true, true, true, true, true, true, true, true, true, true, true, true, true, true, false, true, false, false, false, false, false, false, false, false, false, false, false, false, false, false, false, false, false, false, false, false, false, false] rfl rfl (by kernel_rfl) (fun _ _ _ h => h) (Or.inl ⟨by rfl, ?_⟩) ?_ ?_
  rotate_left
  · intro w'
    go_simp
    with_reducible rfl
  rotate_left
  · simp only [Act.put, List.setIfInBounds_toArray, List.set_cons_zero, List.set_cons_succ, i64_w, i32_w]
    rfl
  refine pure_ (i := 16) (N := some 90) (v := ?_) (a' := ?_) #[true, true, true, true, true, true, true, true, true, true, true, true, true, true, false, true, true, false, false, false, false, false, false, false, false, false, false, false, false, false, false, false, false, false, false, false, false, false] rfl rfl (by kernel_rfl) (fun _ _ _ h => h) (Or.inl ⟨by rfl, ?_⟩) ?_ ?_
  rotate_left
  · intro w'
    go_simp
    with_reducible rfl
  rotate_left
  · simp only [Act.put, List.setIfInBounds_toArray, List.set_cons_zero, List.set_cons_succ, i64_w, i32_w]
    rfl
  refine pure_ (i := 17) (N := some 91) (v := ?_) (a' := ?_) #[true, true, true, true, true, true, true, true, true, true, true, true, true, true, false, true, true, true, false, false, false, false, false, false, false, false, false, false, false, false, false, false, false, false, false, false, false, false] rfl rfl (by kernel_rfl) (fun _ _ _ h => h) (Or.inl ⟨by rfl, ?_⟩) ?_ ?_
  rotate_left
  · intro w'
    go_simp
    with_reducible rfl
  rotate_left
  · simp only [Act.put, List.setIfInBounds_toArray, List.set_cons_zero, List.set_cons_succ, i64_w, i32_w]
    rfl
  refine take_ (i := 18) (N := some 92) (v := ?_) (a' := ?_) #[true, true, true, true, true, true, true, true, true, true, true, true, true, true, false, true, true, true, true, false, false, false, false, false, false, false, false, false, false, false, false, false, false, false, false, false, false, false] rfl rfl (by kernel_rfl) (fun _ _ _ h => h) (Or.inl ⟨by rfl, ?_⟩) hHeld ?_ ?_
  rotate_left
  · rintro w' ⟨s0, s1, s2, s3, s4, s5, s6⟩
    go_simp
    with_reducible rfl
  rotate_left
  · simp only [Act.put, List.setIfInBounds_toArray, List.set_cons_zero, List.set_cons_succ, i64_w, i32_w]
    rfl
  refine pure_ (i := 19) (N := some 93) (v := ?_) (a' := ?_) #[true, true, true, true, true, true, true, true, true, true, true, true, true, true, false, true, true, true, true, true, false, false, false, false, false, false, false, false, false, false, false, false, false, false, false, false, false, false] rfl rfl (by kernel_rfl) (fun _ _ _ h => h) (Or.inl ⟨by rfl, ?_⟩) ?_ ?_
  rotate_left
  · intro w'
    go_simp
    with_reducible rfl
  rotate_left
  · simp only [Act.put, List.setIfInBounds_toArray, List.set_cons_zero, List.set_cons_succ, i64_w, i32_w]
    rfl
  refine pure_ (i := 20) (N := some 94) (v := ?_) (a' := ?_) #[true, true, true, true, true, true, true, true, true, true, true, true, true, true, false, true, true, true, true, true, true, false, false, false, false, false, false, false, false, false, false, false, false, false, false, false, false, false] rfl rfl (by kernel_rfl) (fun _ _ _ h => h) (Or.inl ⟨by rfl, ?_⟩) ?_ ?_
  rotate_left
  · intro w'
    go_simp
    with_reducible rfl
  rotate_left
  · simp only [Act.put, List.setIfInBounds_toArray, List.set_cons_zero, List.set_cons_succ, i64_w, i32_w]
    rfl
  refine take_ (i := 21) (N := some 95) (v := ?_) (a' := ?_) #[true, true, true, true, true, true, true, true, true, true, true, true, true, true, false, true, true, true, true, true, true, true, false, false, false, false, false, false, false, false, false, false, false, false, false, false, false, false] rfl rfl (by kernel_rfl) (fun _ _ _ h => h) (Or.inl ⟨by rfl, ?_⟩) hHeld ?_ ?_
  rotate_left
  · rintro w' ⟨s0, s1, s2, s3, s4, s5, s6⟩
    go_simp
    with_reducible rfl
  rotate_left
  · simp only [Act.put, List.setIfInBounds_toArray, List.set_cons_zero, List.set_cons_succ, i64_w, i32_w]
    rfl
  refine pure_ (i := 22) (N := some 96) (v := ?_) (a' := ?_) #[true, true, true, true, true, true, true, true, true, true, true, true, true, true, false, true, true, true, true, true, true, true, true, false, false, false, false, false, false, false, false, false, false, false, false, false, false, false] rfl rfl (by kernel_rfl) (fun _ _ _ h => h) (Or.inl ⟨by rfl, ?_⟩) ?_ ?_
  rotate_left
  · intro w'
    go_simp
    with_reducible rfl
  rotate_left
  · simp only [Act.put, List.setIfInBounds_toArray, List.set_cons_zero, List.set_cons_succ, i64_w, i32_w]
    rfl
  refine take_ (i := 23) (N := some 97) (v := ?_) (a' := ?_) #[true, true, true, true, true, true, true, true, true, true, true, true, true, true, false, true, true, true, true, true, true, true, true, true, false, false, false, false, false, false, false, false, false, false, false, false, false, false] rfl rfl (by kernel_rfl) (fun _ _ _ h => h) (Or.inl ⟨by rfl, ?_⟩) hHeld ?_ ?_
  rotate_left
  · rintro w' ⟨s0, s1, s2, s3, s4, s5, s6⟩
    go_simp
    with_reducible rfl
  rotate_left
  · simp only [Act.put, List.setIfInBounds_toArray, List.set_cons_zero, List.set_cons_succ, i64_w, i32_w]
    rfl
  refine pure_ (i := 24) (N := some 98) (v := ?_) (a' := ?_) #[true, true, true, true, true, true, true, true, true, true, true, true, true, true, false, true, true, true, true, true, true, true, true, true, true, false, false, false, false, false, false, false, false, false, false, false, false, false] rfl rfl (by kernel_rfl) (fun _ _ _ h => h) (Or.inl ⟨by rfl, ?_⟩) ?_ ?_
  rotate_left
  · intro w'
    go_simp
    with_reducible rfl
  rotate_left
  · simp only [Act.put, List.setIfInBounds_toArray, List.set_cons_zero, List.set_cons_succ, i64_w, i32_w]
    rfl
  refine take_ (i := 25) (N := some 99) (v := ?_) (a' := ?_) #[true, true, true, true, true, true, true, true, true, true, true, true, true, true, false, true, true, true, true, true, true, true, true, true, true, true, false, false, false, false, false, false, false, false, false, false, false, false] rfl rfl (by kernel_rfl) (fun _ _ _ h => h) (Or.inl ⟨by rfl, ?_⟩) hHeld ?_ ?_
  rotate_left
  · rintro w' ⟨s0, s1, s2, s3, s4, s5, s6⟩
    go_simp
    with_reducible rfl
  rotate_left
  · simp only [Act.put, List.setIfInBounds_toArray, List.set_cons_zero, List.set_cons_succ, i64_w, i32_w]
    rfl
  refine pure_ (i := 26) (N := some 100) (v := ?_) (a' := ?_) #[true, true, true, true, true, true, true, true, true, true, true, true, true, true, false, true, true, true, true, true, true, true, true, true, true, true, true, false, false, false, false, false, false, false, false, false, false, false] rfl rfl (by kernel_rfl) (fun _ _ _ h => h) (Or.inl ⟨by rfl, ?_⟩) ?_ ?_
  rotate_left
  · intro w'
    go_simp
    with_reducible rfl
  rotate_left
  · simp only [Act.put, List.setIfInBounds_toArray, List.set_cons_zero, List.set_cons_succ, i64_w, i32_w]
    rfl
  refine pure_ (i := 27) (N := some 101) (v := ?_) (a' := ?_) #[true, true, true, true, true, true, true, true, true, true, true, true, true, true, false, true, true, true, true, true, true, true, true, true, true, true, true, true, false, false, false, false, false, false, false, false, false, false] rfl rfl (by kernel_rfl) (fun _ _ _ h => h) (Or.inl ⟨by rfl, ?_⟩) ?_ ?_
  rotate_left
  · intro w'
    go_simp
    with_reducible rfl
  rotate_left
  · simp only [Act.put, List.setIfInBounds_toArray, List.set_cons_zero, List.set_cons_succ, i64_w, i32_w]
    rfl
  refine pure_ (i := 28) (N := some 102) (v := ?_) (a' := ?_) #[true, true, true, true, true, true, true, true, true, true, true, true, true, true, false, true, true, true, true, true, true, true, true, true, true, true, true, true, true, false, false, false, false, false, false, false, false, false] rfl rfl (by kernel_rfl) (fun _ _ _ h => h) (Or.inl ⟨by rfl, ?_⟩) ?_ ?_
  rotate_left
  · intro w'
    go_simp
    with_reducible rfl
  rotate_left
  · simp only [Act.put, List.setIfInBounds_toArray, List.set_cons_zero, List.set_cons_succ, i64_w, i32_w]
    rfl
  refine take_ (i := 29) (N := some 103) (v := ?_) (a' := ?_) #[true, true, true, true, true, true, true, true, true, true, true, true, true, true, false, true, true, true, true, true, true, true, true, true, true, true, true, true, true, true, false, false, false, false, false, false, false, false] rfl rfl (by kernel_rfl) (fun _ _ _ h => h) (Or.inl ⟨by rfl, ?_⟩) hHeld ?_ ?_
  rotate_left
  · rintro w' ⟨s0, s1, s2, s3, s4, s5, s6⟩
    go_simp
    with_reducible rfl
  rotate_left
  · simp only [Act.put, List.setIfInBounds_toArray, List.set_cons_zero, List.set_cons_succ, i64_w, i32_w]
    rfl
  refine pure_ (i := 30) (N := some 104) (v := ?_) (a' := ?_) #[true, true, true, true, true, true, true, true, true, true, true, true, true, true, false, true, true, true, true, true, true, true, true, true, true, true, true, true, true, true, true, false, false, false, false, false, false, false] rfl rfl (by kernel_rfl) (fun _ _ _ h => h) (Or.inl ⟨by rfl, ?_⟩) ?_ ?_
  rotate_left
  · intro w'
    go_simp
    with_reducible rfl
  rotate_left
  · simp only [Act.put, List.setIfInBounds_toArray, List.set_cons_zero, List.set_cons_succ, i64_w, i32_w]
    rfl
  refine take_ (i := 31) (N := some 105) (v := ?_) (a' := ?_) #[true, true, true, true, true, true, true, true, true, true, true, true, true, true, false, true, true, true, true, true, true, true, true, true, true, true, true, true, true, true, true, true, false, false, false, false, false, false] rfl rfl (by kernel_rfl) (fun _ _ _ h => h) (Or.inl ⟨by rfl, ?_⟩) hHeld ?_ ?_
  rotate_left
  · rintro w' ⟨s0, s1, s2, s3, s4, s5, s6⟩
    go_simp
    with_reducible rfl
  rotate_left
  · simp only [Act.put, List.setIfInBounds_toArray, List.set_cons_zero, List.set_cons_succ, i64_w, i32_w]
    rfl
  refine pure_ (i := 32) (N := some 106) (v := ?_) (a' := ?_) #[true, true, true, true, true, true, true, true, true, true, true, true, true, true, false, true, true, true, true, true, true, true, true, true, true, true, true, true, true, true, true, true, true, false, false, false, false, false] rfl rfl (by kernel_rfl) (fun _ _ _ h => h) (Or.inl ⟨by rfl, ?_⟩) ?_ ?_
  rotate_left
  · intro w'
    go_simp
    with_reducible rfl
  rotate_left
  · simp only [Act.put, List.setIfInBounds_toArray, List.set_cons_zero, List.set_cons_succ, i64_w, i32_w]
    rfl
  refine take_ (i := 33) (N := some 107) (v := ?_) (a' := ?_) #[true, true, true, true, true, true, true, true, true, true, true, true, true, true, false, true, true, true, true, true, true, true, true, true, true, true, true, true, true, true, true, true, true, true, false, false, false, false] rfl rfl (by kernel_rfl) (fun _ _ _ h => h) (Or.inl ⟨by rfl, ?_⟩) hHeld ?_ ?_
  rotate_left
  · rintro w' ⟨s0, s1, s2, s3, s4, s5, s6⟩
    go_simp
    with_reducible rfl
  rotate_left
  · simp only [Act.put, List.setIfInBounds_toArray, List.set_cons_zero, List.set_cons_succ, i64_w, i32_w]
    rfl
  refine pure_ (i := 34) (N := some 108) (v := ?_) (a' := ?_) #[true, true, true, true, true, true, true, true, true, true, true, true, true, true, false, true, true, true, true, true, true, true, true, true, true, true, true, true, true, true, true, true, true, true, true, false, false, false] rfl rfl (by kernel_rfl) (fun _ _ _ h => h) (Or.inl ⟨by rfl, ?_⟩) ?_ ?_
  rotate_left
  · intro w'
    go_simp
    with_reducible rfl
  rotate_left
  · simp only [Act.put, List.setIfInBounds_toArray, List.set_cons_zero, List.set_cons_succ, i64_w, i32_w]
    rfl
  refine wpAnyLast_ready (rs := [14, 35]) (by kernel_rfl) (by simp) (AllReadyL.cons rfl (by decide) (fun K hK => ?_) (AllReadyL.cons_last rfl (by decide) (fun K hK => ?_) AllReadyL.nil))
  · obtain ⟨s0, s1, s2, s3, s4, s5, s6⟩ := hHeld
    refine value_ (v := .int .i64 (r : Int)) (w1 := W1.drew) (N := some 88) (by rfl) rfl (by go_simp) ?_
    refine hK.out _ _ ⟨s0, s1, s2, s3, s4, s5, s6⟩ (fun hHeld => ?_)
    clear hK K
    refine norm_ (a' := ?_) ?_ ?_
    rotate_left
    · show Act.put _ (some 88) _ = _
      simp only [Act.put, List.setIfInBounds_toArray, List.set_cons_zero, List.set_cons_succ, i64_w, i32_w]
      rfl
    refine last_ (i := 35) (N := none) #[true, true, true, true, true, true, true, true, true, true, true, true, true, true, true, true, true, true, true, true, true, true, true, true, true, true, true, true, true, true, true, true, true, true, true, true, false, false] rfl rfl (by kernel_rfl) (by decide) (fun K hK => ?_)
    refine skip_ (w1 := ?_) (by rfl) rfl ?_ ?_
    rotate_left
    · go_simp
      rfl
    refine hK.out _ _ ?_
    clear hK K
    refine pure_ (i := 36) (N := some 109) (v := ?_) (a' := ?_) #[true, true, true, true, true, true, true, true, true, true, true, true, true, true, true, true, true, true, true, true, true, true, true, true, true, true, true, true, true, true, true, true, true, true, true, true, true, false] rfl rfl (by kernel_rfl) (fun _ _ _ h => h) (Or.inl ⟨by rfl, ?_⟩) ?_ ?_
    rotate_left
    · intro w'
      go_simp
      with_reducible rfl
    rotate_left
    · simp only [Act.put, List.setIfInBounds_toArray, List.set_cons_zero, List.set_cons_succ, i64_w, i32_w]
      rfl
    refine last_ (i := 37) (N := none) #[true, true, true, true, true, true, true, true, true, true, true, true, true, true, true, true, true, true, true, true, true, true, true, true, true, true, true, true, true, true, true, true, true, true, true, true, true, true] rfl rfl (by kernel_rfl) (by decide) (fun K hK => ?_)
    refine skip_ (w1 := ?_) (by rfl) rfl ?_ ?_
    rotate_left
    · go_simp
      rfl
    refine hK.out _ _ ?_
    clear hK K
    refine done_ (by kernel_rfl) ?_
    go_wp2_with fail
    exact bodyPost_end (results_none rfl _ _ _) rfl ⟨rfl, W1, 1, HB1.out, rfl⟩
  · obtain ⟨s0, s1, s2, s3, s4, s5, s6⟩ := hHeld
    refine skip_ (w1 := ?_) (by rfl) rfl ?_ ?_
    rotate_left
    · go_simp
      rfl
    refine hK.out _ _ ?_
    clear hK K
    refine quiet_ (i := 14) (N := some 88) (v := .int .i64 (r : Int)) #[true, true, true, true, true, true, true, true, true, true, true, true, true, true, true, true, true, true, true, true, true, true, true, true, true, true, true, true, true, true, true, true, true, true, true, true, false, false] rfl rfl (by kernel_rfl) (by rfl) (by go_simp) ?_
    refine norm_ (a' := ?_) ?_ ?_
    rotate_left
    · show Act.put _ (some 88) _ = _
      simp only [Act.put, List.setIfInBounds_toArray, List.set_cons_zero, List.set_cons_succ, i64_w, i32_w]
      rfl
    refine pure_ (i := 36) (N := some 109) (v := ?_) (a' := ?_) #[true, true, true, true, true, true, true, true, true, true, true, true, true, true, true, true, true, true, true, true, true, true, true, true, true, true, true, true, true, true, true, true, true, true, true, true, true, false] rfl rfl (by kernel_rfl) (fun _ _ _ h => h) (Or.inl ⟨by rfl, ?_⟩) ?_ ?_
    rotate_left
    · intro w'
      go_simp
      with_reducible rfl
    rotate_left
    · simp only [Act.put, List.setIfInBounds_toArray, List.set_cons_zero, List.set_cons_succ, i64_w, i32_w]
      rfl
    refine last_ (i := 37) (N := none) #[true, true, true, true, true, true, true, true, true, true, true, true, true, true, true, true, true, true, true, true, true, true, true, true, true, true, true, true, true, true, true, true, true, true, true, true, true, true] rfl rfl (by kernel_rfl) (by decide) (fun K hK => ?_)
    refine skip_ (w1 := ?_) (by rfl) rfl ?_ ?_
    rotate_left
    · go_simp
      rfl
    refine hK.out _ _ ?_
    clear hK K
    refine done_ (by kernel_rfl) ?_
    go_wp2_with fail
    exact bodyPost_end (results_none rfl _ _ _) rfl ⟨rfl, W1, 1, HB1.out, rfl⟩
set_option maxRecDepth 100000 in
set_option maxHeartbeats 4000000 in
theorem take_fence (bt g o gr cr : Nat) (Am : Option Addr) (nm cm : Nat) (at_ : Int) (eq_ : Bool) (x : S39) (W : World) (h : Taken bt g o gr cr Am nm cm at_ eq_ W) (ha : 0 ≤ at_ ∧ at_ ≤ 1000000) (h1 : x.f0 = 6) :
    Calls Try.prog 27 #[.pointer (some ⟨bt, 0, none⟩), .agg #[.int .i64 x.f0, .int .i64 x.f1, .int .i64 x.f2, .int .i64 x.f3, .int .i64 x.f4]] W fun e w' => e = .returned (.tuple #[]) ∧ ∃ W1 n, Below W.heap.size W W1 ∧ w' = (W1.setCell ⟨g, o, none⟩ (.int .i64 (at_ + 1))).drewN n := by
  have hu1 := Try.underlying61
  have hu2 := Try.underlying45
  have hu3 := Try.underlying39
  obtain ⟨t0, t1, c0, c1, c2, f0, f2, n1, n2, n3⟩ := h
  obtain ⟨ha1, ha2⟩ := ha
  obtain ⟨y0, y1, y2, y3, y4⟩ := x
  simp only at h1 ⊢
  subst h1
  obtain ⟨W1, hW1⟩ : ∃ W1, W1 = W.alloc (.cells #[.int .i64 6, .int .i64 y1, .int .i64 y2, .int .i64 y3, .int .i64 y4] 39) := ⟨_, rfl⟩
  have bX : W1.heap[W.heap.size]? = some (.cells #[.int .i64 6, .int .i64 y1, .int .i64 y2, .int .i64 y3, .int .i64 y4] 39 (0, 0)) := by rw [hW1]; exact blk_new _ _
  have x0 : W1.cell? ⟨W.heap.size, 0, none⟩ = some (.int .i64 6) := (blk_cell bX 0).trans rfl
  have x1 : W1.cell? ⟨W.heap.size, 1, none⟩ = some (.int .i64 y1) := (blk_cell bX 1).trans rfl
  have x2 : W1.cell? ⟨W.heap.size, 2, none⟩ = some (.int .i64 y2) := (blk_cell bX 2).trans rfl
  have x3 : W1.cell? ⟨W.heap.size, 3, none⟩ = some (.int .i64 y3) := (blk_cell bX 3).trans rfl
  have x4 : W1.cell? ⟨W.heap.size, 4, none⟩ = some (.int .i64 y4) := (blk_cell bX 4).trans rfl
  have t0w : W1.cell? ⟨bt, 0, none⟩ = some (.pointer (some ⟨g, o, none⟩)) := by rw [hW1]; exact Lib.cell?_alloc_some _ t0
  have t1w : W1.cell? ⟨bt, 1, none⟩ = some (.slice Am nm cm) := by rw [hW1]; exact Lib.cell?_alloc_some _ t1
  have c0w : W1.cell? ⟨g, o, none⟩ = some (.int .i64 at_) := by rw [hW1]; exact Lib.cell?_alloc_some _ c0
  have c1w : W1.cell? ⟨g, o + 1, none⟩ = some (.slice (some ⟨gr, 0, none⟩) 4 cr) := by rw [hW1]; exact Lib.cell?_alloc_some _ c1
  have c2w : W1.cell? ⟨g, o + 2, none⟩ = some (.bool eq_) := by rw [hW1]; exact Lib.cell?_alloc_some _ c2
  have f0w : W1.frozen? ⟨g, o, none⟩ = false := by rw [hW1, frozen?_alloc_cells]; exact f0
  have f2w : W1.frozen? ⟨g, o + 2, none⟩ = false := by rw [hW1, frozen?_alloc_cells]; exact f2
  have xlt : W.heap.size < W1.heap.size := blk_lt bX
  have HW1 := Aside0.mk hW1
  have HB1 : Aside0 (Below W.heap.size W W1) := Aside0.mk (by rw [hW1]; exact below_alloc (Below.refl _ _) _)
  clear hW1 bX t0 t1 c0 c1 c2 f0 f2
  go_enter Try.func27, Try.ntmps27
  go_upto_region 1 with fail
  rw [← HW1.out]
  go_wp2_with fail
  exact bodyPost_end (results_none rfl _ _ _) rfl ⟨rfl, W1, 0, HB1.out, rfl⟩
set_option maxRecDepth 100000 in
set_option maxHeartbeats 4000000 in
theorem take_jmp (bt g o gr cr : Nat) (Am : Option Addr) (nm cm : Nat) (at_ : Int) (eq_ : Bool) (x : S39) (W : World) (h : Taken bt g o gr cr Am nm cm at_ eq_ W) (ha : 0 ≤ at_ ∧ at_ ≤ 1000000) (h1 : x.f0 = 8) :
    Calls Try.prog 27 #[.pointer (some ⟨bt, 0, none⟩), .agg #[.int .i64 x.f0, .int .i64 x.f1, .int .i64 x.f2, .int .i64 x.f3, .int .i64 x.f4]] W fun e w' => e = .returned (.tuple #[]) ∧ ∃ W1 n, Below W.heap.size W W1 ∧ w' = (W1.setCell ⟨g, o, none⟩ (.int .i64 x.f4)).drewN n := by
  have hu1 := Try.underlying61
  have hu2 := Try.underlying45
  have hu3 := Try.underlying39
  obtain ⟨t0, t1, c0, c1, c2, f0, f2, n1, n2, n3⟩ := h
  obtain ⟨ha1, ha2⟩ := ha
  obtain ⟨y0, y1, y2, y3, y4⟩ := x
  simp only at h1 ⊢
  subst h1
  obtain ⟨W1, hW1⟩ : ∃ W1, W1 = W.alloc (.cells #[.int .i64 8, .int .i64 y1, .int .i64 y2, .int .i64 y3, .int .i64 y4] 39) := ⟨_, rfl⟩
  have bX : W1.heap[W.heap.size]? = some (.cells #[.int .i64 8, .int .i64 y1, .int .i64 y2, .int .i64 y3, .int .i64 y4] 39 (0, 0)) := by rw [hW1]; exact blk_new _ _
  have x0 : W1.cell? ⟨W.heap.size, 0, none⟩ = some (.int .i64 8) := (blk_cell bX 0).trans rfl
  have x1 : W1.cell? ⟨W.heap.size, 1, none⟩ = some (.int .i64 y1) := (blk_cell bX 1).trans rfl
  have x2 : W1.cell? ⟨W.heap.size, 2, none⟩ = some (.int .i64 y2) := (blk_cell bX 2).trans rfl
  have x3 : W1.cell? ⟨W.heap.size, 3, none⟩ = some (.int .i64 y3) := (blk_cell bX 3).trans rfl
  have x4 : W1.cell? ⟨W.heap.size, 4, none⟩ = some (.int .i64 y4) := (blk_cell bX 4).trans rfl
  have t0w : W1.cell? ⟨bt, 0, none⟩ = some (.pointer (some ⟨g, o, none⟩)) := by rw [hW1]; exact Lib.cell?_alloc_some _ t0
  have t1w : W1.cell? ⟨bt, 1, none⟩ = some (.slice Am nm cm) := by rw [hW1]; exact Lib.cell?_alloc_some _ t1
  have c0w : W1.cell? ⟨g, o, none⟩ = some (.int .i64 at_) := by rw [hW1]; exact Lib.cell?_alloc_some _ c0
  have c1w : W1.cell? ⟨g, o + 1, none⟩ = some (.slice (some ⟨gr, 0, none⟩) 4 cr) := by rw [hW1]; exact Lib.cell?_alloc_some _ c1
  have c2w : W1.cell? ⟨g, o + 2, none⟩ = some (.bool eq_) := by rw [hW1]; exact Lib.cell?_alloc_some _ c2
  have f0w : W1.frozen? ⟨g, o, none⟩ = false := by rw [hW1, frozen?_alloc_cells]; exact f0
  have f2w : W1.frozen? ⟨g, o + 2, none⟩ = false := by rw [hW1, frozen?_alloc_cells]; exact f2
  have xlt : W.heap.size < W1.heap.size := blk_lt bX
  have HW1 := Aside0.mk hW1
  have HB1 : Aside0 (Below W.heap.size W W1) := Aside0.mk (by rw [hW1]; exact below_alloc (Below.refl _ _) _)
  clear hW1 bX t0 t1 c0 c1 c2 f0 f2
  go_enter Try.func27, Try.ntmps27
  go_upto_region 1 with fail
  rw [← HW1.out]
  go_wp2_with fail
  exact bodyPost_end (results_none rfl _ _ _) rfl ⟨rfl, W1, 0, HB1.out, rfl⟩
set_option maxRecDepth 100000 in
set_option maxHeartbeats 4000000 in
theorem take_je_t (bt g o gr cr : Nat) (Am : Option Addr) (nm cm : Nat) (at_ : Int) (x : S39) (W : World) (h : Taken bt g o gr cr Am nm cm at_ true W) (ha : 0 ≤ at_ ∧ at_ ≤ 1000000) (h1 : x.f0 = 9) :
    Calls Try.prog 27 #[.pointer (some ⟨bt, 0, none⟩), .agg #[.int .i64 x.f0, .int .i64 x.f1, .int .i64 x.f2, .int .i64 x.f3, .int .i64 x.f4]] W fun e w' => e = .returned (.tuple #[]) ∧ ∃ W1 n, Below W.heap.size W W1 ∧ w' = (W1.setCell ⟨g, o, none⟩ (.int .i64 x.f4)).drewN n := by
  have hu1 := Try.underlying61
  have hu2 := Try.underlying45
  have hu3 := Try.underlying39
  obtain ⟨t0, t1, c0, c1, c2, f0, f2, n1, n2, n3⟩ := h
  obtain ⟨ha1, ha2⟩ := ha
  obtain ⟨y0, y1, y2, y3, y4⟩ := x
  simp only at h1 ⊢
  subst h1
  obtain ⟨W1, hW1⟩ : ∃ W1, W1 = W.alloc (.cells #[.int .i64 9, .int .i64 y1, .int .i64 y2, .int .i64 y3, .int .i64 y4] 39) := ⟨_, rfl⟩
  have bX : W1.heap[W.heap.size]? = some (.cells #[.int .i64 9, .int .i64 y1, .int .i64 y2, .int .i64 y3, .int .i64 y4] 39 (0, 0)) := by rw [hW1]; exact blk_new _ _
  have x0 : W1.cell? ⟨W.heap.size, 0, none⟩ = some (.int .i64 9) := (blk_cell bX 0).trans rfl
  have x1 : W1.cell? ⟨W.heap.size, 1, none⟩ = some (.int .i64 y1) := (blk_cell bX 1).trans rfl
  have x2 : W1.cell? ⟨W.heap.size, 2, none⟩ = some (.int .i64 y2) := (blk_cell bX 2).trans rfl
  have x3 : W1.cell? ⟨W.heap.size, 3, none⟩ = some (.int .i64 y3) := (blk_cell bX 3).trans rfl
  have x4 : W1.cell? ⟨W.heap.size, 4, none⟩ = some (.int .i64 y4) := (blk_cell bX 4).trans rfl
  have t0w : W1.cell? ⟨bt, 0, none⟩ = some (.pointer (some ⟨g, o, none⟩)) := by rw [hW1]; exact Lib.cell?_alloc_some _ t0
  have t1w : W1.cell? ⟨bt, 1, none⟩ = some (.slice Am nm cm) := by rw [hW1]; exact Lib.cell?_alloc_some _ t1
  have c0w : W1.cell? ⟨g, o, none⟩ = some (.int .i64 at_) := by rw [hW1]; exact Lib.cell?_alloc_some _ c0
  have c1w : W1.cell? ⟨g, o + 1, none⟩ = some (.slice (some ⟨gr, 0, none⟩) 4 cr) := by rw [hW1]; exact Lib.cell?_alloc_some _ c1
  have c2w : W1.cell? ⟨g, o + 2, none⟩ = some (.bool true) := by rw [hW1]; exact Lib.cell?_alloc_some _ c2
  have f0w : W1.frozen? ⟨g, o, none⟩ = false := by rw [hW1, frozen?_alloc_cells]; exact f0
  have f2w : W1.frozen? ⟨g, o + 2, none⟩ = false := by rw [hW1, frozen?_alloc_cells]; exact f2
  have xlt : W.heap.size < W1.heap.size := blk_lt bX
  have HW1 := Aside0.mk hW1
  have HB1 : Aside0 (Below W.heap.size W W1) := Aside0.mk (by rw [hW1]; exact below_alloc (Below.refl _ _) _)
  clear hW1 bX t0 t1 c0 c1 c2 f0 f2
  go_enter Try.func27, Try.ntmps27
  go_upto_region 1 with fail
  rw [← HW1.out]
  go_wp2_with fail
  exact bodyPost_end (results_none rfl _ _ _) rfl ⟨rfl, W1, 0, HB1.out, rfl⟩
set_option maxRecDepth 100000 in
set_option maxHeartbeats 4000000 in
theorem take_je_f (bt g o gr cr : Nat) (Am : Option Addr) (nm cm : Nat) (at_ : Int) (x : S39) (W : World) (h : Taken bt g o gr cr Am nm cm at_ false W) (ha : 0 ≤ at_ ∧ at_ ≤ 1000000) (h1 : x.f0 = 9) :
    Calls Try.prog 27 #[.pointer (some ⟨bt, 0, none⟩), .agg #[.int .i64 x.f0, .int .i64 x.f1, .int .i64 x.f2, .int .i64 x.f3, .int .i64 x.f4]] W fun e w' => e = .returned (.tuple #[]) ∧ ∃ W1 n, Below W.heap.size W W1 ∧ w' = (W1.setCell ⟨g, o, none⟩ (.int .i64 (at_ + 1))).drewN n := by
  have hu1 := Try.underlying61
  have hu2 := Try.underlying45
  have hu3 := Try.underlying39
  obtain ⟨t0, t1, c0, c1, c2, f0, f2, n1, n2, n3⟩ := h
  obtain ⟨ha1, ha2⟩ := ha
  obtain ⟨y0, y1, y2, y3, y4⟩ := x
  simp only at h1 ⊢
  subst h1
  obtain ⟨W1, hW1⟩ : ∃ W1, W1 = W.alloc (.cells #[.int .i64 9, .int .i64 y1, .int .i64 y2, .int .i64 y3, .int .i64 y4] 39) := ⟨_, rfl⟩
  have bX : W1.heap[W.heap.size]? = some (.cells #[.int .i64 9, .int .i64 y1, .int .i64 y2, .int .i64 y3, .int .i64 y4] 39 (0, 0)) := by rw [hW1]; exact blk_new _ _
  have x0 : W1.cell? ⟨W.heap.size, 0, none⟩ = some (.int .i64 9) := (blk_cell bX 0).trans rfl
  have x1 : W1.cell? ⟨W.heap.size, 1, none⟩ = some (.int .i64 y1) := (blk_cell bX 1).trans rfl
  have x2 : W1.cell? ⟨W.heap.size, 2, none⟩ = some (.int .i64 y2) := (blk_cell bX 2).trans rfl
  have x3 : W1.cell? ⟨W.heap.size, 3, none⟩ = some (.int .i64 y3) := (blk_cell bX 3).trans rfl
  have x4 : W1.cell? ⟨W.heap.size, 4, none⟩ = some (.int .i64 y4) := (blk_cell bX 4).trans rfl
  have t0w : W1.cell? ⟨bt, 0, none⟩ = some (.pointer (some ⟨g, o, none⟩)) := by rw [hW1]; exact Lib.cell?_alloc_some _ t0
  have t1w : W1.cell? ⟨bt, 1, none⟩ = some (.slice Am nm cm) := by rw [hW1]; exact Lib.cell?_alloc_some _ t1
  have c0w : W1.cell? ⟨g, o, none⟩ = some (.int .i64 at_) := by rw [hW1]; exact Lib.cell?_alloc_some _ c0
  have c1w : W1.cell? ⟨g, o + 1, none⟩ = some (.slice (some ⟨gr, 0, none⟩) 4 cr) := by rw [hW1]; exact Lib.cell?_alloc_some _ c1
  have c2w : W1.cell? ⟨g, o + 2, none⟩ = some (.bool false) := by rw [hW1]; exact Lib.cell?_alloc_some _ c2
  have f0w : W1.frozen? ⟨g, o, none⟩ = false := by rw [hW1, frozen?_alloc_cells]; exact f0
  have f2w : W1.frozen? ⟨g, o + 2, none⟩ = false := by rw [hW1, frozen?_alloc_cells]; exact f2
  have xlt : W.heap.size < W1.heap.size := blk_lt bX
  have HW1 := Aside0.mk hW1
  have HB1 : Aside0 (Below W.heap.size W W1) := Aside0.mk (by rw [hW1]; exact below_alloc (Below.refl _ _) _)
  clear hW1 bX t0 t1 c0 c1 c2 f0 f2
  go_enter Try.func27, Try.ntmps27
  go_upto_region 1 with fail
  rw [← HW1.out]
  go_wp2_with fail
  exact bodyPost_end (results_none rfl _ _ _) rfl ⟨rfl, W1, 0, HB1.out, rfl⟩
set_option maxRecDepth 100000 in
set_option maxHeartbeats 4000000 in
theorem take_jne_t (bt g o gr cr : Nat) (Am : Option Addr) (nm cm : Nat) (at_ : Int) (x : S39) (W : World) (h : Taken bt g o gr cr Am nm cm at_ true W) (ha : 0 ≤ at_ ∧ at_ ≤ 1000000) (h1 : x.f0 = 10) :
    Calls Try.prog 27 #[.pointer (some ⟨bt, 0, none⟩), .agg #[.int .i64 x.f0, .int .i64 x.f1, .int .i64 x.f2, .int .i64 x.f3, .int .i64 x.f4]] W fun e w' => e = .returned (.tuple #[]) ∧ ∃ W1 n, Below W.heap.size W W1 ∧ w' = (W1.setCell ⟨g, o, none⟩ (.int .i64 (at_ + 1))).drewN n := by
  have hu1 := Try.underlying61
  have hu2 := Try.underlying45
  have hu3 := Try.underlying39
  obtain ⟨t0, t1, c0, c1, c2, f0, f2, n1, n2, n3⟩ := h
  obtain ⟨ha1, ha2⟩ := ha
  obtain ⟨y0, y1, y2, y3, y4⟩ := x
  simp only at h1 ⊢
  subst h1
  obtain ⟨W1, hW1⟩ : ∃ W1, W1 = W.alloc (.cells #[.int .i64 10, .int .i64 y1, .int .i64 y2, .int .i64 y3, .int .i64 y4] 39) := ⟨_, rfl⟩
  have bX : W1.heap[W.heap.size]? = some (.cells #[.int .i64 10, .int .i64 y1, .int .i64 y2, .int .i64 y3, .int .i64 y4] 39 (0, 0)) := by rw [hW1]; exact blk_new _ _
  have x0 : W1.cell? ⟨W.heap.size, 0, none⟩ = some (.int .i64 10) := (blk_cell bX 0).trans rfl
  have x1 : W1.cell? ⟨W.heap.size, 1, none⟩ = some (.int .i64 y1) := (blk_cell bX 1).trans rfl
  have x2 : W1.cell? ⟨W.heap.size, 2, none⟩ = some (.int .i64 y2) := (blk_cell bX 2).trans rfl
  have x3 : W1.cell? ⟨W.heap.size, 3, none⟩ = some (.int .i64 y3) := (blk_cell bX 3).trans rfl
  have x4 : W1.cell? ⟨W.heap.size, 4, none⟩ = some (.int .i64 y4) := (blk_cell bX 4).trans rfl
  have t0w : W1.cell? ⟨bt, 0, none⟩ = some (.pointer (some ⟨g, o, none⟩)) := by rw [hW1]; exact Lib.cell?_alloc_some _ t0
  have t1w : W1.cell? ⟨bt, 1, none⟩ = some (.slice Am nm cm) := by rw [hW1]; exact Lib.cell?_alloc_some _ t1
  have c0w : W1.cell? ⟨g, o, none⟩ = some (.int .i64 at_) := by rw [hW1]; exact Lib.cell?_alloc_some _ c0
  have c1w : W1.cell? ⟨g, o + 1, none⟩ = some (.slice (some ⟨gr, 0, none⟩) 4 cr) := by rw [hW1]; exact Lib.cell?_alloc_some _ c1
  have c2w : W1.cell? ⟨g, o + 2, none⟩ = some (.bool true) := by rw [hW1]; exact Lib.cell?_alloc_some _ c2
  have f0w : W1.frozen? ⟨g, o, none⟩ = false := by rw [hW1, frozen?_alloc_cells]; exact f0
  have f2w : W1.frozen? ⟨g, o + 2, none⟩ = false := by rw [hW1, frozen?_alloc_cells]; exact f2
  have xlt : W.heap.size < W1.heap.size := blk_lt bX
  have HW1 := Aside0.mk hW1
  have HB1 : Aside0 (Below W.heap.size W W1) := Aside0.mk (by rw [hW1]; exact below_alloc (Below.refl _ _) _)
  clear hW1 bX t0 t1 c0 c1 c2 f0 f2
  go_enter Try.func27, Try.ntmps27
  go_upto_region 1 with fail
  rw [← HW1.out]
  go_wp2_with fail
  exact bodyPost_end (results_none rfl _ _ _) rfl ⟨rfl, W1, 0, HB1.out, rfl⟩
set_option maxRecDepth 100000 in
set_option maxHeartbeats 4000000 in
theorem take_jne_f (bt g o gr cr : Nat) (Am : Option Addr) (nm cm : Nat) (at_ : Int) (x : S39) (W : World) (h : Taken bt g o gr cr Am nm cm at_ false W) (ha : 0 ≤ at_ ∧ at_ ≤ 1000000) (h1 : x.f0 = 10) :
    Calls Try.prog 27 #[.pointer (some ⟨bt, 0, none⟩), .agg #[.int .i64 x.f0, .int .i64 x.f1, .int .i64 x.f2, .int .i64 x.f3, .int .i64 x.f4]] W fun e w' => e = .returned (.tuple #[]) ∧ ∃ W1 n, Below W.heap.size W W1 ∧ w' = (W1.setCell ⟨g, o, none⟩ (.int .i64 x.f4)).drewN n := by
  have hu1 := Try.underlying61
  have hu2 := Try.underlying45
  have hu3 := Try.underlying39
  obtain ⟨t0, t1, c0, c1, c2, f0, f2, n1, n2, n3⟩ := h
  obtain ⟨ha1, ha2⟩ := ha
  obtain ⟨y0, y1, y2, y3, y4⟩ := x
  simp only at h1 ⊢
  subst h1
  obtain ⟨W1, hW1⟩ : ∃ W1, W1 = W.alloc (.cells #[.int .i64 10, .int .i64 y1, .int .i64 y2, .int .i64 y3, .int .i64 y4] 39) := ⟨_, rfl⟩
  have bX : W1.heap[W.heap.size]? = some (.cells #[.int .i64 10, .int .i64 y1, .int .i64 y2, .int .i64 y3, .int .i64 y4] 39 (0, 0)) := by rw [hW1]; exact blk_new _ _
  have x0 : W1.cell? ⟨W.heap.size, 0, none⟩ = some (.int .i64 10) := (blk_cell bX 0).trans rfl
  have x1 : W1.cell? ⟨W.heap.size, 1, none⟩ = some (.int .i64 y1) := (blk_cell bX 1).trans rfl
  have x2 : W1.cell? ⟨W.heap.size, 2, none⟩ = some (.int .i64 y2) := (blk_cell bX 2).trans rfl
  have x3 : W1.cell? ⟨W.heap.size, 3, none⟩ = some (.int .i64 y3) := (blk_cell bX 3).trans rfl
  have x4 : W1.cell? ⟨W.heap.size, 4, none⟩ = some (.int .i64 y4) := (blk_cell bX 4).trans rfl
  have t0w : W1.cell? ⟨bt, 0, none⟩ = some (.pointer (some ⟨g, o, none⟩)) := by rw [hW1]; exact Lib.cell?_alloc_some _ t0
  have t1w : W1.cell? ⟨bt, 1, none⟩ = some (.slice Am nm cm) := by rw [hW1]; exact Lib.cell?_alloc_some _ t1
  have c0w : W1.cell? ⟨g, o, none⟩ = some (.int .i64 at_) := by rw [hW1]; exact Lib.cell?_alloc_some _ c0
  have c1w : W1.cell? ⟨g, o + 1, none⟩ = some (.slice (some ⟨gr, 0, none⟩) 4 cr) := by rw [hW1]; exact Lib.cell?_alloc_some _ c1
  have c2w : W1.cell? ⟨g, o + 2, none⟩ = some (.bool false) := by rw [hW1]; exact Lib.cell?_alloc_some _ c2
  have f0w : W1.frozen? ⟨g, o, none⟩ = false := by rw [hW1, frozen?_alloc_cells]; exact f0
  have f2w : W1.frozen? ⟨g, o + 2, none⟩ = false := by rw [hW1, frozen?_alloc_cells]; exact f2
  have xlt : W.heap.size < W1.heap.size := blk_lt bX
  have HW1 := Aside0.mk hW1
  have HB1 : Aside0 (Below W.heap.size W W1) := Aside0.mk (by rw [hW1]; exact below_alloc (Below.refl _ _) _)
  clear hW1 bX t0 t1 c0 c1 c2 f0 f2
  go_enter Try.func27, Try.ntmps27
  go_upto_region 1 with fail
  rw [← HW1.out]
  go_wp2_with fail
  exact bodyPost_end (results_none rfl _ _ _) rfl ⟨rfl, W1, 0, HB1.out, rfl⟩
end Go.Proofs.Ytdliojcpnkggnaa.Print
