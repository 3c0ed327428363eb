/- ref10.Step: its contract, by walking its text: one theorem a kind of step. -/
import Derived.Test.YtphklaajolpieaaHRjSt
import Derived.Test.YtphklaajolpieaaPrint6
import Derived.Test.YtphklaajolpieaaPrint4
import Derived.Test.YtphklaajolpieaaPrint7
import Derived.StillTailTactics
import Derived.RegionTactic
import Derived.BigRegion
namespace Go.Proofs.Ytphklaajolpieaa.Print
open Go.RowKit Go.Proofs.YtphklaajolpieaaW.PrintWords Go.Proofs.YtphklaajolpieaaW.PrintLast Go.Proofs.YtphklaajolpieaaW.PrintMore
set_option linter.unusedVariables false
set_option linter.unusedSimpArgs false
/-- What ref10.Step makes of what locations have, and of its thread. -/
def refF (x : S36) (mem : List Int) (th : S49) : List Int × S49 :=
 if x.f0 = 1 then (mem, ⟨th.f0 + 1, th.f1.set x.f1.toNat x.f3, th.f2, th.f3⟩)
 else if x.f0 = 2 then (mem, ⟨th.f0 + 1, th.f1.set x.f1.toNat (rd mem x.f2), th.f2, th.f3⟩)
 else if x.f0 = 3 then (mem.set x.f2.toNat (rd th.f1 x.f1), ⟨th.f0 + 1, th.f1, th.f2, th.f3⟩)
 else if x.f0 = 4 then (mem.set x.f2.toNat x.f3, ⟨th.f0 + 1, th.f1, th.f2, th.f3⟩)
 else if x.f0 = 5 then (mem.set x.f2.toNat (rd th.f1 x.f1), ⟨th.f0 + 1, th.f1.set x.f1.toNat (rd mem x.f2), th.f2, th.f3⟩)
 else if x.f0 = 7 then (mem, ⟨th.f0 + 1, th.f1, rd th.f1 x.f1 == x.f3, th.f3⟩)
 else if x.f0 = 8 then (mem, ⟨x.f4, th.f1, th.f2, th.f3⟩)
 else if x.f0 = 9 then (mem, ⟨if th.f2 = true then x.f4 else th.f0 + 1, th.f1, th.f2, th.f3⟩)
 else if x.f0 = 10 then (mem, ⟨if th.f2 = true then th.f0 + 1 else x.f4, th.f1, th.f2, th.f3⟩)
 else (mem, ⟨th.f0 + 1, th.f1, th.f2, th.f3⟩)
/-- A state of one's own, whose threads' blocks are such as Q says. -/
structure SQ (base : Nat) (Q : Nat → Prop) (vm vt : Value) (mem : List Int) (ths : List S49) (W : World) : Prop where
 mem : Kd.R (Kd.int .i64) 3 W base (fun _ => True) vm mem
 ths : Kd.S k49 49 W base (fun k => some k ≠ vm.ownBlock ∧ Q k) vt ths
section
variable {base g n cap t : Nat} {Q : Nat → Prop} {vm vt : Value} {mem : List Int} {ths : List S49} {W W' : World}
theorem SQ.toSJ (h : SQ base Q vm vt mem ths W) : SJ base vm vt mem ths W := ⟨h.mem, Kd.S_mono h.ths (fun _ hk => hk.1)⟩
theorem SQ.of (h : SJ base vm vt mem ths W) : SQ base (fun k => k ≠ W.heap.size) vm vt mem ths W := ⟨h.mem, Kd.S_elderB h.ths _ (Nat.le_refl _)⟩
theorem SQ.below (h : SQ base Q vm vt mem ths W) (hb : Below W.heap.size W W') : SQ base Q vm vt mem ths W' := ⟨Kd.R_below h.mem hb, Kd.S_below h.ths hb⟩
/-- A block that is none of its own is written. -/
theorem SQ.far (h : SQ base Q vm vt mem ths W) {b ty j : Nat} {cells : Array Value} (hb : W.heap[b]? = some (.cells cells ty (0, 0))) (h1 : ty ≠ 3) (hQ : ∀ k, Q k → k ≠ b) (u : Value) : SQ base Q vm vt mem ths (W.setCell ⟨b, j, none⟩ u) :=
 ⟨Kd.R_set h.mem hb (fun q hq => by have hq' : q ∈ ([3] : List Nat) := hq; simp at hq'; rw [hq']; exact h1.symm) j u, Kd.S_far (p := ⟨b, j, none⟩) h.ths (fun k hk => hQ k hk.2) u⟩
theorem SQ.setMem {gm nm cm l : Nat} (h : SQ base Q (.slice (some ⟨gm, 0, none⟩) nm cm) vt mem ths W) (hl : l < nm) (u : Int) : SQ base Q (.slice (some ⟨gm, 0, none⟩) nm cm) vt (mem.set l u) ths (W.setCell ⟨gm, l, none⟩ (.int .i64 u)) :=
 ⟨(row_set h.mem hl u).1, Kd.S_far (p := ⟨gm, l, none⟩) h.ths (fun k hk e => hk.1 (by rw [e]; simp [Value.ownBlock])) _⟩
/-- A thread's cells, all four. -/
theorem SQ.cells (h : SQ base Q vm (.slice (some ⟨g, 0, none⟩) n cap) mem ths W) (x : S49) (hx : ths[t]? = some x) (hr : 0 < x.f1.length) :
 ∃ gr cr A3 c3, (W.cell? ⟨g, t * 4, none⟩ = some (.int .i64 x.f0) ∧ W.cell? ⟨g, t * 4 + 1, none⟩ = some (.slice (some ⟨gr, 0, none⟩) x.f1.length cr) ∧ W.cell? ⟨g, t * 4 + 2, none⟩ = some (.bool x.f2) ∧ W.cell? ⟨g, t * 4 + 3, none⟩ = some (.slice A3 x.f3.length c3)) ∧ (∀ j, W.frozen? ⟨g, t * 4 + j, none⟩ = false) ∧
  (∀ r, r < x.f1.length → W.cell? ⟨gr, r, none⟩ = some (.int .i64 (rd x.f1 (r : Int))) ∧ W.frozen? ⟨gr, r, none⟩ = false) ∧ ((∃ cells, W.heap[g]? = some (.cells cells 49 (0, 0))) ∧ ∃ cells, W.heap[gr]? = some (.cells cells 3 (0, 0))) ∧ (base ≤ g ∧ base ≤ gr ∧ Q gr ∧ Q g) ∧ some gr ≠ vm.ownBlock ∧
  (∀ (r : Nat) (u : Int), r < x.f1.length → SQ base Q vm (.slice (some ⟨g, 0, none⟩) n cap) mem (ths.set t ⟨x.f0, x.f1.set r u, x.f2, x.f3⟩) (W.setCell ⟨gr, r, none⟩ (.int .i64 u))) ∧
  (∀ (a : Int) (b : Bool), SQ base Q vm (.slice (some ⟨g, 0, none⟩) n cap) mem (ths.set t ⟨a, x.f1, b, x.f3⟩) (W.setCells g (t * 4) [.int .i64 a, .slice (some ⟨gr, 0, none⟩) x.f1.length cr, .bool b, .slice A3 x.f3.length c3])) := by
 have hn := (Kd.S_reads' h.ths).1
 have htl : t < ths.length := (List.getElem?_eq_some_iff.1 hx).1
 have hgd : ths.getD (t : Int).toNat z49 = x := by rw [List.getD_eq_getElem?_getD, show ((t : Int)).toNat = t by omega, hx]; rfl
 obtain ⟨oki, c, hcl, hM, hcc, hfr, hoki, hH⟩ := Kd.S_elem (Kd.S_mono (ok' := fun k => (some k ≠ vm.ownBlock ∧ Q k) ∧ ¬ False) h.ths (fun k hk => ⟨hk, not_false⟩)) z49 (t : Int) (by omega) (by omega)
 rw [hgd] at hM
 have hg : (Value.slice (some ⟨g, 0, none⟩) n cap).ownBlock = some g := by simp [Value.ownBlock]
 obtain ⟨v1, v3, rfl, g1, g3⟩ := k49_openM hM
 obtain ⟨gr, cr, rfl, hgrb, hgrl, cgr, hcgr⟩ := Kd.R_form g1 hr
 obtain ⟨A3, c3, rfl⟩ := Kd.R_slice g3
 have hgo : (Value.slice (some ⟨gr, 0, none⟩) x.f1.length cr).ownBlock = some gr := by simp [Value.ownBlock]
 have okgr := g1.1 gr hgo
 obtain ⟨okgr1, okgr2⟩ := hoki gr okgr
 obtain ⟨cg, hcg⟩ := Kd.S_typed h.ths g hg
 have e0 : (t : Int).toNat * k49.sz = t * 4 := by show (t : Int).toNat * 4 = _; omega
 have cc : ∀ (j : Nat) (u : Value), ([.int .i64 x.f0, .slice (some ⟨gr, 0, none⟩) x.f1.length cr, .bool x.f2, .slice A3 x.f3.length c3] : List Value)[j]? = some u → W.cell? ⟨g, t * 4 + j, none⟩ = some u := fun j u hu => by have := hcc j u hu; rwa [e0] at this
 have ff : ∀ j, W.frozen? ⟨g, t * 4 + j, none⟩ = false := fun j => by have := hfr j; rwa [e0] at this
 refine ⟨gr, cr, A3, c3, ⟨cc 0 _ rfl, cc 1 _ rfl, cc 2 _ rfl, cc 3 _ rfl⟩, ff, fun r hr => row_cell g1 hr, ⟨⟨cg, hcg⟩, ⟨cgr, hcgr⟩⟩, ⟨Kd.S_base h.ths g hg, hgrb, okgr1.1.2, ((Kd.S_R h.ths).1 g hg).2⟩, okgr1.1.1, fun r u hr => ⟨?_, ?_⟩, fun a b => ⟨?_, ?_⟩⟩
 ·refine Kd.R_mono (Kd.R_far (p := ⟨gr, r, none⟩) (Kd.R_tight rfl h.mem) (fun k hk e => okgr1.1.1 (by have e' : k = gr := e; rw [← e']; exact hk)) _) (fun _ _ => trivial)
 ·obtain ⟨hr1, hgw⟩ := row_set g1 hr u
  have hS := Kd.H_back (Kd.H_grown hH hgw (fun k hk => by injection hk with hk; rw [← hk]; exact okgr)) (x' := ⟨x.f0, x.f1.set r u, x.f2, x.f3⟩) (okp := oki) (by
   have := k49_mkM (W.setCell ⟨gr, r, none⟩ (.int .i64 u)) base oki ⟨x.f0, x.f1.set r u, x.f2, x.f3⟩ (v1 := .slice (some ⟨gr, 0, none⟩) x.f1.length cr) (v3 := .slice A3 x.f3.length c3) hr1 (Kd.R_set g3 hcgr (by decide) r _)
   exact this) (fun _ hk => hk)
  rw [show ((t : Int)).toNat = t by omega] at hS
  exact Kd.S_mono hS (fun k hk => hk.1)
 ·refine Kd.R_mono (Kd.R_step (Kd.R_tight rfl h.mem) (fun k hk _ => setCells_far _ _ k (fun e => ?_))) (fun _ _ => trivial)
  subst e
  exact ((Kd.S_R h.ths).1 k hg).1 hk
 ·have hS := (Kd.S_seg (okg := fun _ => False) hH (by omega) (by omega) (seg := [.int .i64 a, .slice (some ⟨gr, 0, none⟩) x.f1.length cr, .bool b, .slice A3 x.f3.length c3]) (j := 0) (show 0 + 4 ≤ 4 by decide) (x' := ⟨a, x.f1, b, x.f3⟩) (okp := oki) (k49_mkM W base oki ⟨a, x.f1, b, x.f3⟩ g1 g3) (fun k hk => .inl hk) (fun k hk => hk.elim)).1
  rw [e0, show ((t : Int)).toNat = t by omega] at hS
  exact hS
theorem SQ.put (h : SQ base Q vm (.slice (some ⟨g, 0, none⟩) n cap) mem ths W) {x : S49} (hx : ths[t]? = some x) (hr : 0 < x.f1.length) {v1 v3 : Value} (h1 : W.cell? ⟨g, t * 4 + 1, none⟩ = some v1) (h3 : W.cell? ⟨g, t * 4 + 3, none⟩ = some v3) (a : Int) (b : Bool) : SQ base Q vm (.slice (some ⟨g, 0, none⟩) n cap) mem (ths.set t ⟨a, x.f1, b, x.f3⟩) (W.setCells g (t * 4) [.int .i64 a, v1, .bool b, v3]) := by
 obtain ⟨gr, cr, A3, c3, ⟨_, d1, _, d3⟩, _, _, _, _, _, _, hput⟩ := h.cells x hx hr
 obtain rfl := Option.some.inj (d1.symm.trans h1)
 obtain rfl := Option.some.inj (d3.symm.trans h3)
 exact hput a b
theorem SQ.setReg {gr m cr : Nat} (h : SQ base Q vm (.slice (some ⟨g, 0, none⟩) n cap) mem ths W) {x : S49} (hx : ths[t]? = some x) (hr : 0 < x.f1.length) (h1 : W.cell? ⟨g, t * 4 + 1, none⟩ = some (.slice (some ⟨gr, 0, none⟩) m cr)) {r : Nat} (hl : r < x.f1.length) (u : Int) : SQ base Q vm (.slice (some ⟨g, 0, none⟩) n cap) mem (ths.set t ⟨x.f0, x.f1.set r u, x.f2, x.f3⟩) (W.setCell ⟨gr, r, none⟩ (.int .i64 u)) := by
 obtain ⟨gr', cr', A3, c3, ⟨_, d1, _, d3⟩, _, _, _, _, _, hset, _⟩ := h.cells x hx hr
 have e := Option.some.inj (d1.symm.trans h1)
 injection e with e _ _
 injection e with e
 injection e with e
 subst e
 exact hset r u hl
theorem SQ.reg {gr m cr : Nat} (h : SQ base Q vm (.slice (some ⟨g, 0, none⟩) n cap) mem ths W) {x : S49} (hx : ths[t]? = some x) (hr : 0 < x.f1.length) (h1 : W.cell? ⟨g, t * 4 + 1, none⟩ = some (.slice (some ⟨gr, 0, none⟩) m cr)) {r : Nat} (hl : r < x.f1.length) : W.cell? ⟨gr, r, none⟩ = some (.int .i64 (rd x.f1 (r : Int))) ∧ W.frozen? ⟨gr, r, none⟩ = false := by
 obtain ⟨gr', cr', A3, c3, ⟨_, d1, _, d3⟩, _, hreg, _⟩ := h.cells x hx hr
 have e := Option.some.inj (d1.symm.trans h1)
 injection e with e _ _
 injection e with e
 injection e with e
 subst e
 exact hreg r hl
end
/-- Whether a step jumps. -/
theorem jumps_any (y0 y1 y2 y3 y4 : Int) (q : Bool) : ∃ jb, fencepostref10_Jumps.f y0 y1 y2 y3 y4 q = some jb ∧ (jb = true ↔ y0 = 8 ∨ (y0 = 9 ∧ q = true) ∨ (y0 = 10 ∧ q = false)) := by
 unfold fencepostref10_Jumps.f
 repeat' split
 all_goals refine ⟨_, rfl, ?_⟩
 all_goals first | (simp; omega) | (cases q <;> simp <;> omega) | (cases q <;> simp_all)
set_option maxRecDepth 100000 in
set_option maxHeartbeats 20000000 in
theorem refStep_any (A0_0 : Option Addr) (c0_0 : Nat) (l0_0 : List Int) (A0_1 : Option Addr) (c0_1 : Nat) (l0_1 : List (List S36)) (A1_0 : Option Addr) (c1_0 : Nat) (l1_0 : List Int) (A1_1 : Option Addr) (c1_1 : Nat) (l1_1 : List S49) (t : Nat) (x : S49) (s : S36) (kk r : Nat) (w : World)
 (hr0_0 : Kd.C (Kd.int .i64) w A0_0 l0_0.length l0_0) (hc0_0 : l0_0.length ≤ c0_0) (hr0_1 : Kd.C (Kd.slice 36 k36) w A0_1 l0_1.length l0_1) (hc0_1 : l0_1.length ≤ c0_1) (hr1_0 : Kd.C (Kd.int .i64) w A1_0 l1_0.length l1_0) (hc1_0 : l1_0.length ≤ c1_0) (hr1_1 : Kd.C k49 w A1_1 l1_1.length l1_1) (hc1_1 : l1_1.length ≤ c1_1)
 (hx : l1_1[t]? = some x) (hx1 : x.f1.length = 4) (hx0 : 0 ≤ x.f0) (hx9 : x.f0 ≤ 1000000) (hown : fencepostref10_Own.f kk l1_0 l1_1 = some (l1_0, l1_1)) (hat : fencepostref10_At.f l0_0 l0_1 l1_0 l1_1 (t : Int) = some (s.f0, s.f1, s.f2, s.f3, s.f4, true))
 (hop : 1 ≤ s.f0 ∧ s.f0 ≤ 10) (hr : s.f1 = (r : Int)) (hr4 : r < 4) (hlm : (s.f0 = 2 ∨ s.f0 = 3 ∨ s.f0 = 4 ∨ s.f0 = 5) → 0 ≤ s.f2 ∧ s.f2 < (l1_0.length : Int)) :
 Calls Try.prog 25 #[.agg #[.slice A0_0 l0_0.length c0_0, .slice A0_1 l0_1.length c0_1], .agg #[.slice A1_0 l1_0.length c1_0, .slice A1_1 l1_1.length c1_1], .int .i64 (t : Int)] w fun e w' => ∃ v0_ v1_ : Value, e = .returned (.tuple #[.agg #[v0_, v1_], .bool true]) ∧ SJ w.heap.size v0_ v1_ (refF s l1_0 x).1 (l1_1.set t (refF s l1_0 x).2) w' ∧ Below w.heap.size w w' := by
 have hu1 := Try.underlying41
 have hu2 := Try.underlying25
 have hu3 := Try.underlying49
 have hu4 := Try.underlying36
 have ht : t < l1_1.length := (List.getElem?_eq_some_iff.1 hx).1
 obtain ⟨y0, y1, y2, y3, y4⟩ := s
 simp only at hop hat hr hlm ⊢
 subst hr
 have p1 : ((r : Int) < 4) = True := eq_true (by omega)
 have HOP := Aside0.mk hop
 have HLM := Aside0.mk hlm
 clear hop hlm
 have HR00 := Aside0.mk hr0_0
 have HR01 := Aside0.mk hr0_1
 have HR10 := Aside0.mk hr1_0
 have HR11 := Aside0.mk hr1_1
 have HC00 := Aside0.mk hc0_0
 have HC01 := Aside0.mk hc0_1
 have HC10 := Aside0.mk hc1_0
 have HC11 := Aside0.mk hc1_1
 have HX := Aside0.mk hx
 have HX1 := Aside0.mk hx1
 have HOWN := Aside0.mk hown
 have HAT := Aside0.mk hat
 clear hr0_0 hc0_0 hr0_1 hc0_1 hr1_0 hc1_0 hr1_1 hc1_1 hx hx1 hown hat
 obtain ⟨W1, hW1⟩ : ∃ W1, W1 = ((w.alloc (.cells #[.slice A0_0 l0_0.length c0_0, .slice A0_1 l0_1.length c0_1] 25)).alloc (.cells #[.slice A1_0 l1_0.length c1_0, .slice A1_1 l1_1.length c1_1] 41)).alloc (.cells #[.slice none 0 0, .slice none 0 0] 41) := ⟨_, rfl⟩
 have bP : W1.heap[w.heap.size]? = some (.cells #[.slice A0_0 l0_0.length c0_0, .slice A0_1 l0_1.length c0_1] 25 (0, 0)) := by rw [hW1]; exact blk_alloc (blk_alloc (blk_new w _) _) _
 have bS : W1.heap[w.heap.size + 1]? = some (.cells #[.slice A1_0 l1_0.length c1_0, .slice A1_1 l1_1.length c1_1] 41 (0, 0)) := by
  have := blk_alloc (blk_new (w.alloc (.cells #[.slice A0_0 l0_0.length c0_0, .slice A0_1 l0_1.length c0_1] 25)) (.cells #[.slice A1_0 l1_0.length c1_0, .slice A1_1 l1_1.length c1_1] 41)) (.cells #[.slice none 0 0, .slice none 0 0] 41)
  rw [World.size_alloc] at this; rw [hW1]; exact this
 have bR : W1.heap[w.heap.size + 1 + 1]? = some (.cells #[.slice none 0 0, .slice none 0 0] 41 (0, 0)) := by
  have := blk_new ((w.alloc (.cells #[.slice A0_0 l0_0.length c0_0, .slice A0_1 l0_1.length c0_1] 25)).alloc (.cells #[.slice A1_0 l1_0.length c1_0, .slice A1_1 l1_1.length c1_1] 41)) (.cells #[.slice none 0 0, .slice none 0 0] 41)
  rw [World.size_alloc, World.size_alloc] at this; rw [hW1]; exact this
 have hB1 : Below w.heap.size w W1 := by rw [hW1]; exact below_alloc (below_alloc (below_alloc (Below.refl _ _) _) _) _
 have es0 : W1.cell? ⟨w.heap.size + 1, 0, none⟩ = some (.slice A1_0 l1_0.length c1_0) := (blk_cell bS 0).trans rfl
 have es1 : W1.cell? ⟨w.heap.size + 1, 1, none⟩ = some (.slice A1_1 l1_1.length c1_1) := (blk_cell bS 1).trans rfl
 have HW1 := Aside0.mk hW1
 have BP := Aside0.mk bP
 have BS := Aside0.mk bS
 have BR := Aside0.mk bR
 have HBW := Aside0.mk hB1
 clear hW1 bP bS bR hB1
 go_enter Try.func25, Try.ntmps25
 (try simp only [List.append_eq, List.cons_append, List.nil_append])
 go_upto_region 1 with fail
 rw [← HW1.out]
 go_upto_region 2 with (go_at_call 22; refine (fencepostref10_Own.calls kk A1_0 c1_0 l1_0 A1_1 c1_1 l1_1 l1_0 l1_1 W1 (Kd.C_below HR10.out HBW.out) HC10.out (Kd.C_below HR11.out HBW.out) HC11.out HOWN.out).mono ?_; rintro e w2 ⟨vm, vt, rfl, hRm, hSt, hb2⟩; obtain ⟨Am, cm, rfl⟩ := Kd.R_slice hRm; obtain ⟨At, ct, rfl⟩ := Kd.S_slice hSt; have HRM := Aside0.mk hRm; have HST := Aside0.mk hSt; have HB2' := Aside0.mk hb2; clear hRm hSt hb2)
 obtain ⟨W3, hW3⟩ : ∃ W3, W3 = w2.alloc (.cells #[.slice Am l1_0.length cm, .slice At l1_1.length ct] 41) := ⟨_, rfl⟩
 have hb23 : Below w2.heap.size w2 W3 := by rw [hW3]; exact below_alloc (Below.refl _ _) _
 have bO : W3.heap[w2.heap.size]? = some (.cells #[.slice Am l1_0.length cm, .slice At l1_1.length ct] 41 (0, 0)) := by rw [hW3]; exact blk_new w2 _
 have BP3 := Aside0.mk (blk_below (blk_below BP.out HB2'.out) hb23)
 have BS3 := Aside0.mk (blk_below (blk_below BS.out HB2'.out) hb23)
 have BR3 := Aside0.mk (blk_below (blk_below BR.out HB2'.out) hb23)
 have HB3 := Aside0.mk (below_step (below_step HBW.out HB2'.out) hb23)
 have HJ3 : Aside0 (SJ w.heap.size (.slice Am l1_0.length cm) (.slice At l1_1.length ct) l1_0 l1_1 W3) := Aside0.mk (SJ.below ⟨Kd.R_lower HRM.out HBW.out.size, Kd.S_lower HST.out HBW.out.size⟩ hb23)
 have BO := Aside0.mk bO
 have HO2 : Aside0 (w.heap.size + 1 + 1 < w2.heap.size) := Aside0.mk (Nat.lt_of_lt_of_le (blk_lt BR.out) HB2'.out.size)
 have ep0 : W3.cell? ⟨w.heap.size, 0, none⟩ = some (.slice A0_0 l0_0.length c0_0) := (blk_cell BP3.out 0).trans rfl
 have ep1 : W3.cell? ⟨w.heap.size, 1, none⟩ = some (.slice A0_1 l0_1.length c0_1) := (blk_cell BP3.out 1).trans rfl
 have eq0 : W3.cell? ⟨w.heap.size + 1, 0, none⟩ = some (.slice A1_0 l1_0.length c1_0) := (blk_cell BS3.out 0).trans rfl
 have eq1 : W3.cell? ⟨w.heap.size + 1, 1, none⟩ = some (.slice A1_1 l1_1.length c1_1) := (blk_cell BS3.out 1).trans rfl
 rw [← hW3]
 clear BP BS BR HBW HRM HST HB2' es0 es1 hb23 hW3 bO
 go_upto_region 3 with (go_at_call 24; refine (fencepostref10_At.calls A0_0 c0_0 l0_0 A0_1 c0_1 l0_1 A1_0 c1_0 l1_0 A1_1 c1_1 l1_1 (t : Int) _ _ _ _ _ _ W3 (Kd.C_below HR00.out HB3.out) HC00.out (Kd.C_below HR01.out HB3.out) HC01.out (Kd.C_below HR10.out HB3.out) HC10.out (Kd.C_below HR11.out HB3.out) HC11.out HAT.out).mono ?_; rintro e w4 ⟨rfl, hb4⟩; have HB4 := Aside0.mk hb4; clear hb4)
 obtain ⟨W5, hW5⟩ : ∃ W5, W5 = w4.alloc (.cells #[.int .i64 y0, .int .i64 (r : Int), .int .i64 y2, .int .i64 y3, .int .i64 y4] 36) := ⟨_, rfl⟩
 have hb45 : Below w4.heap.size w4 W5 := by rw [hW5]; exact below_alloc (Below.refl _ _) _
 have BX5 : Aside0 (W5.heap[w4.heap.size]? = some (.cells #[.int .i64 y0, .int .i64 (r : Int), .int .i64 y2, .int .i64 y3, .int .i64 y4] 36 (0, 0))) := Aside0.mk (by rw [hW5]; exact blk_new w4 _)
 have BO5 := Aside0.mk (blk_below (blk_below BO.out HB4.out) hb45)
 have BR5 := Aside0.mk (blk_below (blk_below BR3.out HB4.out) hb45)
 have HB5 := Aside0.mk (below_step (below_step HB3.out HB4.out) hb45)
 have HQ5 := Aside0.mk (SQ.of ((HJ3.out.below HB4.out).below hb45))
 have hox : w2.heap.size < w4.heap.size := Nat.lt_of_lt_of_le (blk_lt BO.out) HB4.out.size
 have hro : w.heap.size + 1 + 1 < w2.heap.size := HO2.out
 have hxb : w4.heap.size < W5.heap.size := blk_lt BX5.out
 rw [← hW5]
 clear hW5 hb45 BO BR3 BP3 BS3 HB4 HJ3 ep0 ep1 eq0 eq1 HO2
 generalize w4.heap.size = bx at BX5 hox hxb ⊢
 generalize w2.heap.size = bo at BO5 hox hro ⊢
 have hn := (Kd.S_reads' HQ5.out.ths).1
 obtain ⟨g, ctt, hform, hgb, hglt, cg, hcg⟩ := Kd.R_form (Kd.S_R HQ5.out.ths) (by omega)
 obtain rfl : At = some ⟨g, 0, none⟩ := by injection hform
 obtain rfl : ct = ctt := by injection hform
 obtain ⟨gr, cr, A3, c3, ⟨d0, d1, d2, d3⟩, hfz, hreg, ⟨⟨cg', hcg'⟩, ⟨cgr, hcgr⟩⟩, ⟨hgb', hgrb, hQr, hQg⟩, hgrm, hset, hput⟩ := HQ5.out.cells x HX.out (by have := HX1.out; omega)
 have hxl : x.f1.length = 4 := HX1.out
 have b1 : W5.cell? ⟨bo, 1, none⟩ = some (.slice (some ⟨g, 0, none⟩) l1_1.length ct) := (blk_cell BO5.out 1).trans rfl
 have q1 : ((t : Int) < (l1_1.length : Int)) = True := eq_true (by omega)
 have q2 : (0 ≤ (t : Int)) = True := eq_true (by omega)
 have q3 : (t < l1_1.length) = True := eq_true ht
 rw [hxl] at d1
 have hglt2 : g < W5.heap.size := blk_lt hcg'
 have hgrlt : gr < W5.heap.size := blk_lt hcgr
 have hggr : g ≠ gr := types_ne hcg' hcgr (by decide)
 have hgbo : g ≠ bo := types_ne hcg' BO5.out (by decide)
 have hgbx : g ≠ bx := types_ne hcg' BX5.out (by decide)
 have hrbo : gr ≠ bo := types_ne hcgr BO5.out (by decide)
 have hrbx : gr ≠ bx := types_ne hcgr BX5.out (by decide)
 have hrR : gr ≠ w.heap.size + 1 + 1 := types_ne hcgr BR5.out (by decide)
 have hgR : g ≠ w.heap.size + 1 + 1 := types_ne hcg' BR5.out (by decide)
 have HD1 := Aside0.mk d1
 have HD3 := Aside0.mk d3
 clear hput hset hform hn hfz hreg
 go_upto_region 6 with fail
 obtain ⟨W6, hW6⟩ : ∃ W6, W6 = W5.alloc (.cells #[.int .i64 x.f0, .slice (some ⟨gr, 0, none⟩) 4 cr, .bool x.f2, .slice A3 x.f3.length c3] 49) := ⟨_, rfl⟩
 have hb56 : Below W5.heap.size W5 W6 := by rw [hW6]; exact below_alloc (Below.refl _ _) _
 have bT : W6.heap[W5.heap.size]? = some (.cells #[.int .i64 x.f0, .slice (some ⟨gr, 0, none⟩) 4 cr, .bool x.f2, .slice A3 x.f3.length c3] 49 (0, 0)) := by rw [hW6]; exact blk_new W5 _
 have BX6 := Aside0.mk (blk_below BX5.out hb56)
 have BO6 := Aside0.mk (blk_below BO5.out hb56)
 have BR6 := Aside0.mk (blk_below BR5.out hb56)
 have HB6 := Aside0.mk (below_step HB5.out hb56)
 have HQ6 := Aside0.mk (HQ5.out.below hb56)
 have HD16 := Aside0.mk (pw_cell_below hb56 HD1.out)
 have HD36 := Aside0.mk (pw_cell_below hb56 HD3.out)
 have hw5 : w.heap.size ≤ W5.heap.size := HB5.out.size
 have t0 : W6.cell? ⟨W5.heap.size, 0, none⟩ = some (.int .i64 x.f0) := (blk_cell bT 0).trans rfl
 have tf := blk_frozen bT 0
 have s1 : x.f0 + 1 ≤ 9223372036854775807 := by omega
 have s2 : -9223372036854775808 ≤ x.f0 + 1 := by omega
 rw [← hW6]
 have BT6 := Aside0.mk bT
 clear hW6 hb56 bT BX5 BO5 BR5 HB5 HQ5 HD1 HD3 d0 d1 d2 d3 b1
 have hQdef : Aside0 ((fun k => k ≠ W5.heap.size) = (fun k => k ≠ W5.heap.size)) := Aside0.mk rfl
 generalize W5.heap.size = bt at *
 go_upto_region 7 with fail
 obtain ⟨W7, hW7⟩ : ∃ W7, W7 = W6.setCell ⟨bt, 0, none⟩ (.int .i64 (x.f0 + 1)) := ⟨_, rfl⟩
 have BT7 : Aside0 (W7.heap[bt]? = some (.cells #[.int .i64 (x.f0 + 1), .slice (some ⟨gr, 0, none⟩) 4 cr, .bool x.f2, .slice A3 x.f3.length c3] 49 (0, 0))) := Aside0.mk (by rw [hW7]; exact blk_set BT6.out 0 _)
 have BX7 : Aside0 (W7.heap[bx]? = some (.cells #[.int .i64 y0, .int .i64 (r : Int), .int .i64 y2, .int .i64 y3, .int .i64 y4] 36 (0, 0))) := Aside0.mk (by rw [hW7]; exact blk_far BX6.out (by show bx ≠ bt; omega) _)
 have BO7 : Aside0 (W7.heap[bo]? = some (.cells #[.slice Am l1_0.length cm, .slice (some ⟨g, 0, none⟩) l1_1.length ct] 41 (0, 0))) := Aside0.mk (by rw [hW7]; exact blk_far BO6.out (by show bo ≠ bt; omega) _)
 have BR7 : Aside0 (W7.heap[w.heap.size + 1 + 1]? = some (.cells #[.slice none 0 0, .slice none 0 0] 41 (0, 0))) := Aside0.mk (by rw [hW7]; exact blk_far BR6.out (by show w.heap.size + 1 + 1 ≠ bt; omega) _)
 have HB7 := Aside0.mk (show Below w.heap.size w W7 by rw [hW7]; exact below_set HB6.out hw5)
 have HQ7 := Aside0.mk (show SQ w.heap.size (fun k => k ≠ bt) (.slice Am l1_0.length cm) (.slice (some ⟨g, 0, none⟩) l1_1.length ct) l1_0 l1_1 W7 by rw [hW7]; exact HQ6.out.far BT6.out (by decide) (fun k hk => hk) _)
 have HD17 : Aside0 (W7.cell? ⟨g, t * 4 + 1, none⟩ = some (.slice (some ⟨gr, 0, none⟩) 4 cr)) := Aside0.mk (by rw [hW7]; exact (World.cell?_setCell_far W6 ⟨bt, 0, none⟩ ⟨g, t * 4 + 1, none⟩ _ (by show bt ≠ g; omega)).trans HD16.out)
 have HD37 : Aside0 (W7.cell? ⟨g, t * 4 + 3, none⟩ = some (.slice A3 x.f3.length c3)) := Aside0.mk (by rw [hW7]; exact (World.cell?_setCell_far W6 ⟨bt, 0, none⟩ ⟨g, t * 4 + 3, none⟩ _ (by show bt ≠ g; omega)).trans HD36.out)
 rw [← hW7]
 clear hW7 t0 tf BX6 BO6 BR6 HB6 HQ6 BT6 HD16 HD36
 have cy0 : W7.cell? ⟨bx, 0, none⟩ = some (.int .i64 y0) := (blk_cell BX7.out 0).trans rfl
 have cy1 : W7.cell? ⟨bx, 1, none⟩ = some (.int .i64 (r : Int)) := (blk_cell BX7.out 1).trans rfl
 have cy2 : W7.cell? ⟨bx, 2, none⟩ = some (.int .i64 y2) := (blk_cell BX7.out 2).trans rfl
 have cy3 : W7.cell? ⟨bx, 3, none⟩ = some (.int .i64 y3) := (blk_cell BX7.out 3).trans rfl
 have cy4 : W7.cell? ⟨bx, 4, none⟩ = some (.int .i64 y4) := (blk_cell BX7.out 4).trans rfl
 have t2 : W7.cell? ⟨bt, 2, none⟩ = some (.bool x.f2) := (blk_cell BT7.out 2).trans rfl
 obtain ⟨jb, hj, hji⟩ := jumps_any y0 (r : Int) y2 y3 y4 x.f2
 have HJ := Aside0.mk hj
 have HJI := Aside0.mk hji
 clear hj hji
 go_wp2_with fail
 refine (fencepostref10_Jumps.calls y0 (r : Int) y2 y3 y4 x.f2 jb W7 HJ.out).mono ?_
 rintro e w8 ⟨rfl, hb8⟩
 have BT8 := Aside0.mk (blk_below BT7.out hb8)
 have BX8 := Aside0.mk (blk_below BX7.out hb8)
 have BO8 := Aside0.mk (blk_below BO7.out hb8)
 have BR8 := Aside0.mk (blk_below BR7.out hb8)
 have HB8 := Aside0.mk (below_step HB7.out hb8)
 have HQ8 := Aside0.mk (HQ7.out.below hb8)
 have HD18 := Aside0.mk (pw_cell_below hb8 HD17.out)
 have HD38 := Aside0.mk (pw_cell_below hb8 HD37.out)
 clear hb8 cy0 cy1 cy2 cy3 cy4 t2 BT7 BX7 BO7 BR7 HB7 HQ7 HD17 HD37 HJ
 cases jb with
 | true =>
  have hji := HJI.out.1 rfl
  have HJT := Aside0.mk hji
  have cy0 : w8.cell? ⟨bx, 0, none⟩ = some (.int .i64 y0) := (blk_cell BX8.out 0).trans rfl
  have cy1 : w8.cell? ⟨bx, 1, none⟩ = some (.int .i64 (r : Int)) := (blk_cell BX8.out 1).trans rfl
  have cy2 : w8.cell? ⟨bx, 2, none⟩ = some (.int .i64 y2) := (blk_cell BX8.out 2).trans rfl
  have cy3 : w8.cell? ⟨bx, 3, none⟩ = some (.int .i64 y3) := (blk_cell BX8.out 3).trans rfl
  have cy4 : w8.cell? ⟨bx, 4, none⟩ = some (.int .i64 y4) := (blk_cell BX8.out 4).trans rfl
  have t0 : w8.cell? ⟨bt, 0, none⟩ = some (.int .i64 (x.f0 + 1)) := (blk_cell BT8.out 0).trans rfl
  have tf := blk_frozen BT8.out 0
  go_upto_region 9 with fail
  obtain ⟨w9, hw9⟩ : ∃ w9, w9 = w8.setCell ⟨bt, 0, none⟩ (.int .i64 y4) := ⟨_, rfl⟩
  have BT9 : Aside0 (w9.heap[bt]? = some (.cells #[.int .i64 y4, .slice (some ⟨gr, 0, none⟩) 4 cr, .bool x.f2, .slice A3 x.f3.length c3] 49 (0, 0))) := Aside0.mk (by rw [hw9]; exact blk_set BT8.out 0 _)
  have BX9 : Aside0 (w9.heap[bx]? = some (.cells #[.int .i64 y0, .int .i64 (r : Int), .int .i64 y2, .int .i64 y3, .int .i64 y4] 36 (0, 0))) := Aside0.mk (by rw [hw9]; exact blk_far BX8.out (by show bx ≠ bt; omega) _)
  have BO9 : Aside0 (w9.heap[bo]? = some (.cells #[.slice Am l1_0.length cm, .slice (some ⟨g, 0, none⟩) l1_1.length ct] 41 (0, 0))) := Aside0.mk (by rw [hw9]; exact blk_far BO8.out (by show bo ≠ bt; omega) _)
  have BR9 : Aside0 (w9.heap[w.heap.size + 1 + 1]? = some (.cells #[.slice none 0 0, .slice none 0 0] 41 (0, 0))) := Aside0.mk (by rw [hw9]; exact blk_far BR8.out (by show w.heap.size + 1 + 1 ≠ bt; omega) _)
  have HB9 := Aside0.mk (show Below w.heap.size w w9 by rw [hw9]; exact below_set HB8.out hw5)
  have HQ9 := Aside0.mk (show SQ w.heap.size (fun k => k ≠ bt) (.slice Am l1_0.length cm) (.slice (some ⟨g, 0, none⟩) l1_1.length ct) l1_0 l1_1 w9 by rw [hw9]; exact HQ8.out.far BT8.out (by decide) (fun k hk => hk) _)
  have HD19 : Aside0 (w9.cell? ⟨g, t * 4 + 1, none⟩ = some (.slice (some ⟨gr, 0, none⟩) 4 cr)) := Aside0.mk (by rw [hw9]; exact (World.cell?_setCell_far w8 ⟨bt, 0, none⟩ ⟨g, t * 4 + 1, none⟩ _ (by show bt ≠ g; omega)).trans HD18.out)
  have HD39 : Aside0 (w9.cell? ⟨g, t * 4 + 3, none⟩ = some (.slice A3 x.f3.length c3)) := Aside0.mk (by rw [hw9]; exact (World.cell?_setCell_far w8 ⟨bt, 0, none⟩ ⟨g, t * 4 + 3, none⟩ _ (by show bt ≠ g; omega)).trans HD38.out)
  rw [← hw9]
  clear hw9 cy0 cy1 cy2 cy3 cy4 t0 tf BT8 BX8 BO8 BR8 HB8 HQ8 HD18 HD38
  have nc1 : (y0 == 1) = false := beq_eq_false_iff_ne.2 (by omega)
  have nc2 : (y0 == 2) = false := beq_eq_false_iff_ne.2 (by omega)
  have nc3 : (y0 == 3) = false := beq_eq_false_iff_ne.2 (by omega)
  have nc4 : (y0 == 4) = false := beq_eq_false_iff_ne.2 (by omega)
  have nc5 : (y0 == 5) = false := beq_eq_false_iff_ne.2 (by omega)
  have nc7 : (y0 == 7) = false := beq_eq_false_iff_ne.2 (by omega)
  clear hji
  have cy0 : w9.cell? ⟨bx, 0, none⟩ = some (.int .i64 y0) := (blk_cell BX9.out 0).trans rfl
  have cy1 : w9.cell? ⟨bx, 1, none⟩ = some (.int .i64 (r : Int)) := (blk_cell BX9.out 1).trans rfl
  have cy2 : w9.cell? ⟨bx, 2, none⟩ = some (.int .i64 y2) := (blk_cell BX9.out 2).trans rfl
  have cy3 : w9.cell? ⟨bx, 3, none⟩ = some (.int .i64 y3) := (blk_cell BX9.out 3).trans rfl
  have cy4 : w9.cell? ⟨bx, 4, none⟩ = some (.int .i64 y4) := (blk_cell BX9.out 4).trans rfl
  go_upto_region 24 with fail
  clear cy0 cy1 cy2 cy3 cy4
  obtain ⟨gr', cr', A3', c3', ⟨d0, d1, d2, d3⟩, hfz, hreg', hty', hba', hne', hset', hput'⟩ := HQ9.out.cells _ HX.out (by omega)
  have z0 := hfz 0
  have z1 := hfz 1
  have z2 := hfz 2
  have z3 := hfz 3
  rw [Nat.add_zero] at z0
  clear hfz hreg' hty' hba' hne' hset' hput'
  have tb0 : w9.cell? ⟨bt, 0, none⟩ = some (.int .i64 (y4)) := (blk_cell BT9.out 0).trans rfl
  have tb1 : w9.cell? ⟨bt, 1, none⟩ = some (.slice (some ⟨gr, 0, none⟩) 4 cr) := (blk_cell BT9.out 1).trans rfl
  have tb2 : w9.cell? ⟨bt, 2, none⟩ = some (.bool (x.f2)) := (blk_cell BT9.out 2).trans rfl
  have tb3 : w9.cell? ⟨bt, 3, none⟩ = some (.slice A3 x.f3.length c3) := (blk_cell BT9.out 3).trans rfl
  have ob1 : w9.cell? ⟨bo, 1, none⟩ = some (.slice (some ⟨g, 0, none⟩) l1_1.length ct) := (blk_cell BO9.out 1).trans rfl
  go_upto_region 25 with fail
  obtain ⟨wf, hwf⟩ : ∃ wf, wf = w9.setCells g (t * 4) [.int .i64 (y4), .slice (some ⟨gr, 0, none⟩) 4 cr, .bool (x.f2), .slice A3 x.f3.length c3] := ⟨_, rfl⟩
  have hq := HQ9.out.put HX.out (by omega) HD19.out HD39.out (y4) (x.f2)
  have BOf : Aside0 (wf.heap[bo]? = some (.cells #[.slice Am l1_0.length cm, .slice (some ⟨g, 0, none⟩) l1_1.length ct] 41 (0, 0))) := Aside0.mk (by rw [hwf]; exact (setCells_far _ _ bo (fun e => hgbo e.symm)).trans BO9.out)
  have BRf : Aside0 (wf.heap[w.heap.size + 1 + 1]? = some (.cells #[.slice none 0 0, .slice none 0 0] 41 (0, 0))) := Aside0.mk (by rw [hwf]; exact (setCells_far _ _ _ (fun e => hgR e.symm)).trans BR9.out)
  have HBf : Aside0 (Below w.heap.size w wf) := Aside0.mk (by rw [hwf]; exact below_set (below_set (below_set (below_set HB9.out hgb) hgb) hgb) hgb)
  rw [← hwf] at hq
  change Code.wp _ _ _ _ (w9.setCells g (t * 4) [.int .i64 (y4), .slice (some ⟨gr, 0, none⟩) 4 cr, .bool (x.f2), .slice A3 x.f3.length c3])
  rw [← hwf]
  have HQf := Aside0.mk hq
  clear hq hwf z0 z1 z2 z3 d0 d1 d2 d3 tb0 tb1 tb2 tb3 ob1
  have o0 : wf.cell? ⟨bo, 0, none⟩ = some (.slice Am l1_0.length cm) := (blk_cell BOf.out 0).trans rfl
  have o1 : wf.cell? ⟨bo, 1, none⟩ = some (.slice (some ⟨g, 0, none⟩) l1_1.length ct) := (blk_cell BOf.out 1).trans rfl
  have rz0 : wf.cell? ⟨w.heap.size + 1 + 1, 0, none⟩ = some (.slice none 0 0) := (blk_cell BRf.out 0).trans rfl
  have rz1 : wf.cell? ⟨w.heap.size + 1 + 1, 1, none⟩ = some (.slice none 0 0) := (blk_cell BRf.out 1).trans rfl
  have rf0 := blk_frozen BRf.out 0
  have rf1 := blk_frozen BRf.out 1
  go_wp2_with fail
  have eb0 : ((wf.setCell ⟨w.heap.size + 1 + 1, 0, none⟩ (.slice Am l1_0.length cm)).setCell ⟨w.heap.size + 1 + 1, 1, none⟩ (.slice (some ⟨g, 0, none⟩) l1_1.length ct)).cell? ⟨w.heap.size + 1 + 1, 0, none⟩ = some (.slice Am l1_0.length cm) := (blk_cell (blk_set (blk_set BRf.out 0 _) 1 _) 0).trans rfl
  have eb1 : ((wf.setCell ⟨w.heap.size + 1 + 1, 0, none⟩ (.slice Am l1_0.length cm)).setCell ⟨w.heap.size + 1 + 1, 1, none⟩ (.slice (some ⟨g, 0, none⟩) l1_1.length ct)).cell? ⟨w.heap.size + 1 + 1, 1, none⟩ = some (.slice (some ⟨g, 0, none⟩) l1_1.length ct) := (blk_cell (blk_set (blk_set BRf.out 0 _) 1 _) 1).trans rfl
  have hJf := (HQf.out.toSJ.other BRf.out (j := 0) (by decide) (by decide) (by decide) (.slice Am l1_0.length cm)).other (blk_set BRf.out 0 _) (j := 1) (by decide) (by decide) (by decide) (.slice (some ⟨g, 0, none⟩) l1_1.length ct)
  have hR : refF (⟨y0, (r : Int), y2, y3, y4⟩ : S36) l1_0 x = (l1_0, ⟨y4, x.f1, x.f2, x.f3⟩) := by unfold refF; rcases HJT.out with e | ⟨e, e'⟩ | ⟨e, e'⟩ <;> simp [*]
  refine bodyPost_ret (v := .tuple #[.agg #[.slice Am l1_0.length cm, .slice (some ⟨g, 0, none⟩) l1_1.length ct], .bool true]) (by simp [results, Try.results25, go_sem, eb0, eb1]) rfl ⟨_, _, rfl, ?_, below_set (below_set HBf.out (by omega)) (by omega)⟩
  rw [hR]
  (try simp only [List.set_set] at hJf)
  exact hJf
 | false =>
  have hjf : ¬ (y0 = 8 ∨ (y0 = 9 ∧ x.f2 = true) ∨ (y0 = 10 ∧ x.f2 = false)) := fun h => by have := HJI.out.2 h; simp at this
  have HJF := Aside0.mk hjf
  clear hjf HJI
  have BT9 := BT8
  have BX9 := BX8
  have BO9 := BO8
  have BR9 := BR8
  have HB9 := HB8
  have HQ9 := HQ8
  have HD19 := HD18
  have HD39 := HD38
  clear BT8 BX8 BO8 BR8 HB8 HQ8 HD18 HD38
  generalize w8 = w9 at BT9 BX9 BO9 BR9 HB9 HQ9 HD19 HD39 ⊢
  have hreg := HQ9.out.reg HX.out (by omega) HD19.out (r := r) (by omega)
  have hrc := hreg.1
  have hrf := hreg.2
  have tb1 : w9.cell? ⟨bt, 1, none⟩ = some (.slice (some ⟨gr, 0, none⟩) 4 cr) := (blk_cell BT9.out 1).trans rfl
  by_cases k1 : y0 = 1
  ·subst k1
   have cy0 : w9.cell? ⟨bx, 0, none⟩ = some (.int .i64 1) := (blk_cell BX9.out 0).trans rfl
   have cy1 : w9.cell? ⟨bx, 1, none⟩ = some (.int .i64 (r : Int)) := (blk_cell BX9.out 1).trans rfl
   have cy2 : w9.cell? ⟨bx, 2, none⟩ = some (.int .i64 y2) := (blk_cell BX9.out 2).trans rfl
   have cy3 : w9.cell? ⟨bx, 3, none⟩ = some (.int .i64 y3) := (blk_cell BX9.out 3).trans rfl
   have cy4 : w9.cell? ⟨bx, 4, none⟩ = some (.int .i64 y4) := (blk_cell BX9.out 4).trans rfl
   go_upto_region 24 with fail
   (try clear cy0 cy1 cy2 cy3 cy4)
   clear hreg hrc hrf tb1
   obtain ⟨w10, hw10⟩ : ∃ w10, w10 = w9.setCell ⟨gr, r, none⟩ (.int .i64 (y3)) := ⟨_, rfl⟩
   have BT10 : Aside0 (w10.heap[bt]? = some (.cells #[.int .i64 (x.f0 + 1), .slice (some ⟨gr, 0, none⟩) 4 cr, .bool (x.f2), .slice A3 x.f3.length c3] 49 (0, 0))) := Aside0.mk (by rw [hw10]; exact blk_far BT9.out (fun e => hQr e.symm) _)
   have BX10 : Aside0 (w10.heap[bx]? = some (.cells #[.int .i64 1, .int .i64 (r : Int), .int .i64 y2, .int .i64 y3, .int .i64 y4] 36 (0, 0))) := Aside0.mk (by rw [hw10]; exact blk_far BX9.out (fun e => hrbx e.symm) _)
   have BO10 : Aside0 (w10.heap[bo]? = some (.cells #[.slice Am l1_0.length cm, .slice (some ⟨g, 0, none⟩) l1_1.length ct] 41 (0, 0))) := Aside0.mk (by rw [hw10]; exact blk_far BO9.out (fun e => hrbo e.symm) _)
   have BR10 : Aside0 (w10.heap[w.heap.size + 1 + 1]? = some (.cells #[.slice none 0 0, .slice none 0 0] 41 (0, 0))) := Aside0.mk (by rw [hw10]; exact blk_far BR9.out (fun e => hrR e.symm) _)
   have HB10 := Aside0.mk (show Below w.heap.size w w10 by rw [hw10]; exact below_set HB9.out hgrb)
   have HQ10 := Aside0.mk (show SQ w.heap.size (fun k => k ≠ bt) (.slice Am l1_0.length cm) (.slice (some ⟨g, 0, none⟩) l1_1.length ct) (l1_0) (l1_1.set t (⟨x.f0, x.f1.set r (y3), x.f2, x.f3⟩ : S49)) w10 by rw [hw10]; exact HQ9.out.setReg HX.out (by omega) HD19.out (r := r) (by omega) _)
   have HD110 : Aside0 (w10.cell? ⟨g, t * 4 + 1, none⟩ = some (.slice (some ⟨gr, 0, none⟩) 4 cr)) := Aside0.mk (by rw [hw10]; exact (World.cell?_setCell_far w9 ⟨gr, r, none⟩ ⟨g, t * 4 + 1, none⟩ _ (fun e => hggr e.symm)).trans HD19.out)
   have HD310 : Aside0 (w10.cell? ⟨g, t * 4 + 3, none⟩ = some (.slice A3 x.f3.length c3)) := Aside0.mk (by rw [hw10]; exact (World.cell?_setCell_far w9 ⟨gr, r, none⟩ ⟨g, t * 4 + 3, none⟩ _ (fun e => hggr e.symm)).trans HD39.out)
   rw [← hw10]
   clear hw10 BT9 BX9 BO9 BR9 HB9 HQ9 HD19 HD39
   obtain ⟨gr', cr', A3', c3', ⟨d0, d1, d2, d3⟩, hfz, hreg', hty', hba', hne', hset', hput'⟩ := HQ10.out.cells _ (set_get HX.out) (by simp only [List.length_set]; omega)
   have z0 := hfz 0
   have z1 := hfz 1
   have z2 := hfz 2
   have z3 := hfz 3
   rw [Nat.add_zero] at z0
   clear hfz hreg' hty' hba' hne' hset' hput'
   have tb0 : w10.cell? ⟨bt, 0, none⟩ = some (.int .i64 (x.f0 + 1)) := (blk_cell BT10.out 0).trans rfl
   have tb1 : w10.cell? ⟨bt, 1, none⟩ = some (.slice (some ⟨gr, 0, none⟩) 4 cr) := (blk_cell BT10.out 1).trans rfl
   have tb2 : w10.cell? ⟨bt, 2, none⟩ = some (.bool (x.f2)) := (blk_cell BT10.out 2).trans rfl
   have tb3 : w10.cell? ⟨bt, 3, none⟩ = some (.slice A3 x.f3.length c3) := (blk_cell BT10.out 3).trans rfl
   have ob1 : w10.cell? ⟨bo, 1, none⟩ = some (.slice (some ⟨g, 0, none⟩) l1_1.length ct) := (blk_cell BO10.out 1).trans rfl
   go_upto_region 25 with fail
   obtain ⟨wf, hwf⟩ : ∃ wf, wf = w10.setCells g (t * 4) [.int .i64 (x.f0 + 1), .slice (some ⟨gr, 0, none⟩) 4 cr, .bool (x.f2), .slice A3 x.f3.length c3] := ⟨_, rfl⟩
   have hq := HQ10.out.put (set_get HX.out) (by simp only [List.length_set]; omega) HD110.out HD310.out (x.f0 + 1) (x.f2)
   have BOf : Aside0 (wf.heap[bo]? = some (.cells #[.slice Am l1_0.length cm, .slice (some ⟨g, 0, none⟩) l1_1.length ct] 41 (0, 0))) := Aside0.mk (by rw [hwf]; exact (setCells_far _ _ bo (fun e => hgbo e.symm)).trans BO10.out)
   have BRf : Aside0 (wf.heap[w.heap.size + 1 + 1]? = some (.cells #[.slice none 0 0, .slice none 0 0] 41 (0, 0))) := Aside0.mk (by rw [hwf]; exact (setCells_far _ _ _ (fun e => hgR e.symm)).trans BR10.out)
   have HBf : Aside0 (Below w.heap.size w wf) := Aside0.mk (by rw [hwf]; exact below_set (below_set (below_set (below_set HB10.out hgb) hgb) hgb) hgb)
   rw [← hwf] at hq
   change Code.wp _ _ _ _ (w10.setCells g (t * 4) [.int .i64 (x.f0 + 1), .slice (some ⟨gr, 0, none⟩) 4 cr, .bool (x.f2), .slice A3 x.f3.length c3])
   rw [← hwf]
   have HQf := Aside0.mk hq
   clear hq hwf z0 z1 z2 z3 d0 d1 d2 d3 tb0 tb1 tb2 tb3 ob1
   have o0 : wf.cell? ⟨bo, 0, none⟩ = some (.slice Am l1_0.length cm) := (blk_cell BOf.out 0).trans rfl
   have o1 : wf.cell? ⟨bo, 1, none⟩ = some (.slice (some ⟨g, 0, none⟩) l1_1.length ct) := (blk_cell BOf.out 1).trans rfl
   have rz0 : wf.cell? ⟨w.heap.size + 1 + 1, 0, none⟩ = some (.slice none 0 0) := (blk_cell BRf.out 0).trans rfl
   have rz1 : wf.cell? ⟨w.heap.size + 1 + 1, 1, none⟩ = some (.slice none 0 0) := (blk_cell BRf.out 1).trans rfl
   have rf0 := blk_frozen BRf.out 0
   have rf1 := blk_frozen BRf.out 1
   go_wp2_with fail
   have eb0 : ((wf.setCell ⟨w.heap.size + 1 + 1, 0, none⟩ (.slice Am l1_0.length cm)).setCell ⟨w.heap.size + 1 + 1, 1, none⟩ (.slice (some ⟨g, 0, none⟩) l1_1.length ct)).cell? ⟨w.heap.size + 1 + 1, 0, none⟩ = some (.slice Am l1_0.length cm) := (blk_cell (blk_set (blk_set BRf.out 0 _) 1 _) 0).trans rfl
   have eb1 : ((wf.setCell ⟨w.heap.size + 1 + 1, 0, none⟩ (.slice Am l1_0.length cm)).setCell ⟨w.heap.size + 1 + 1, 1, none⟩ (.slice (some ⟨g, 0, none⟩) l1_1.length ct)).cell? ⟨w.heap.size + 1 + 1, 1, none⟩ = some (.slice (some ⟨g, 0, none⟩) l1_1.length ct) := (blk_cell (blk_set (blk_set BRf.out 0 _) 1 _) 1).trans rfl
   have hJf := (HQf.out.toSJ.other BRf.out (j := 0) (by decide) (by decide) (by decide) (.slice Am l1_0.length cm)).other (blk_set BRf.out 0 _) (j := 1) (by decide) (by decide) (by decide) (.slice (some ⟨g, 0, none⟩) l1_1.length ct)
   have hR : refF (⟨1, (r : Int), y2, y3, y4⟩ : S36) l1_0 x = (l1_0, ⟨x.f0 + 1, (⟨x.f0, x.f1.set r (y3), x.f2, x.f3⟩ : S49).f1, x.f2, x.f3⟩) := by unfold refF; simp
   refine bodyPost_ret (v := .tuple #[.agg #[.slice Am l1_0.length cm, .slice (some ⟨g, 0, none⟩) l1_1.length ct], .bool true]) (by simp [results, Try.results25, go_sem, eb0, eb1]) rfl ⟨_, _, rfl, ?_, below_set (below_set HBf.out (by omega)) (by omega)⟩
   rw [hR]
   (try simp only [List.set_set] at hJf)
   exact hJf
  by_cases k2 : y0 = 2
  ·subst k2
   obtain ⟨hl0, hl1⟩ := HLM.out (by omega)
   obtain ⟨l, rfl⟩ : ∃ l : Nat, y2 = (l : Int) := ⟨y2.toNat, by omega⟩
   have hln : l < l1_0.length := by omega
   have p2 : ((l : Int) < (l1_0.length : Int)) = True := eq_true hl1
   have p3 : (l < l1_0.length) = True := eq_true hln
   obtain ⟨gm, cp, hv, hmb, hmlt, cmm, hcm⟩ := Kd.R_form HQ9.out.mem (by omega)
   obtain rfl : Am = some ⟨gm, 0, none⟩ := by injection hv
   have hmem := row_cell HQ9.out.mem hln
   have hmc := hmem.1
   have hmf := hmem.2
   obtain ⟨cg9, hcg9⟩ := Kd.S_typed HQ9.out.ths g (by simp [Value.ownBlock])
   have hmg : gm ≠ g := types_ne hcm hcg9 (by decide)
   have hmo : gm ≠ bo := types_ne hcm BO9.out (by decide)
   have hmx : gm ≠ bx := types_ne hcm BX9.out (by decide)
   have hmt : gm ≠ bt := types_ne hcm BT9.out (by decide)
   have hmR : gm ≠ w.heap.size + 1 + 1 := types_ne hcm BR9.out (by decide)
   have hmr : gm ≠ gr := fun e => hgrm (by rw [← e]; simp [Value.ownBlock])
   have ob0 : w9.cell? ⟨bo, 0, none⟩ = some (.slice (some ⟨gm, 0, none⟩) l1_0.length cm) := (blk_cell BO9.out 0).trans rfl
   clear hv hmem
   have cy0 : w9.cell? ⟨bx, 0, none⟩ = some (.int .i64 2) := (blk_cell BX9.out 0).trans rfl
   have cy1 : w9.cell? ⟨bx, 1, none⟩ = some (.int .i64 (r : Int)) := (blk_cell BX9.out 1).trans rfl
   have cy2 : w9.cell? ⟨bx, 2, none⟩ = some (.int .i64 (l : Int)) := (blk_cell BX9.out 2).trans rfl
   have cy3 : w9.cell? ⟨bx, 3, none⟩ = some (.int .i64 y3) := (blk_cell BX9.out 3).trans rfl
   have cy4 : w9.cell? ⟨bx, 4, none⟩ = some (.int .i64 y4) := (blk_cell BX9.out 4).trans rfl
   go_upto_region 13 with fail
   go_still_tail 11, (by kernel_rfl)
   change wpList _ _ _ _ _ w9.drew
   go_upto_region 24 with fail
   change Code.wp _ _ _ _ (w9.drew.setCell ⟨gr, r, none⟩ (.int .i64 (rd l1_0 (l : Int))))
   (try clear cy0 cy1 cy2 cy3 cy4)
   clear hreg hrc hrf tb1
   clear hmc hmf ob0
   obtain ⟨w10, hw10⟩ : ∃ w10, w10 = w9.drew := ⟨_, rfl⟩
   have BT10 : Aside0 (w10.heap[bt]? = some (.cells #[.int .i64 (x.f0 + 1), .slice (some ⟨gr, 0, none⟩) 4 cr, .bool (x.f2), .slice A3 x.f3.length c3] 49 (0, 0))) := Aside0.mk (by rw [hw10]; exact blk_drewN BT9.out 1)
   have BX10 : Aside0 (w10.heap[bx]? = some (.cells #[.int .i64 2, .int .i64 (r : Int), .int .i64 (l : Int), .int .i64 y3, .int .i64 y4] 36 (0, 0))) := Aside0.mk (by rw [hw10]; exact blk_drewN BX9.out 1)
   have BO10 : Aside0 (w10.heap[bo]? = some (.cells #[.slice (some ⟨gm, 0, none⟩) l1_0.length cm, .slice (some ⟨g, 0, none⟩) l1_1.length ct] 41 (0, 0))) := Aside0.mk (by rw [hw10]; exact blk_drewN BO9.out 1)
   have BR10 : Aside0 (w10.heap[w.heap.size + 1 + 1]? = some (.cells #[.slice none 0 0, .slice none 0 0] 41 (0, 0))) := Aside0.mk (by rw [hw10]; exact blk_drewN BR9.out 1)
   have HB10 := Aside0.mk (show Below w.heap.size w w10 by rw [hw10]; exact below_drew1 HB9.out)
   have HQ10 := Aside0.mk (show SQ w.heap.size (fun k => k ≠ bt) (.slice (some ⟨gm, 0, none⟩) l1_0.length cm) (.slice (some ⟨g, 0, none⟩) l1_1.length ct) (l1_0) (l1_1) w10 by rw [hw10]; exact ⟨Kd.R_drewN HQ9.out.mem 1, Kd.S_drewN HQ9.out.ths 1⟩)
   have HD110 : Aside0 (w10.cell? ⟨g, t * 4 + 1, none⟩ = some (.slice (some ⟨gr, 0, none⟩) 4 cr)) := Aside0.mk (by rw [hw10]; exact HD19.out)
   have HD310 : Aside0 (w10.cell? ⟨g, t * 4 + 3, none⟩ = some (.slice A3 x.f3.length c3)) := Aside0.mk (by rw [hw10]; exact HD39.out)
   rw [← hw10]
   clear hw10 BT9 BX9 BO9 BR9 HB9 HQ9 HD19 HD39
   obtain ⟨w11, hw11⟩ : ∃ w11, w11 = w10.setCell ⟨gr, r, none⟩ (.int .i64 (rd l1_0 (l : Int))) := ⟨_, rfl⟩
   have BT11 : Aside0 (w11.heap[bt]? = some (.cells #[.int .i64 (x.f0 + 1), .slice (some ⟨gr, 0, none⟩) 4 cr, .bool (x.f2), .slice A3 x.f3.length c3] 49 (0, 0))) := Aside0.mk (by rw [hw11]; exact blk_far BT10.out (fun e => hQr e.symm) _)
   have BX11 : Aside0 (w11.heap[bx]? = some (.cells #[.int .i64 2, .int .i64 (r : Int), .int .i64 (l : Int), .int .i64 y3, .int .i64 y4] 36 (0, 0))) := Aside0.mk (by rw [hw11]; exact blk_far BX10.out (fun e => hrbx e.symm) _)
   have BO11 : Aside0 (w11.heap[bo]? = some (.cells #[.slice (some ⟨gm, 0, none⟩) l1_0.length cm, .slice (some ⟨g, 0, none⟩) l1_1.length ct] 41 (0, 0))) := Aside0.mk (by rw [hw11]; exact blk_far BO10.out (fun e => hrbo e.symm) _)
   have BR11 : Aside0 (w11.heap[w.heap.size + 1 + 1]? = some (.cells #[.slice none 0 0, .slice none 0 0] 41 (0, 0))) := Aside0.mk (by rw [hw11]; exact blk_far BR10.out (fun e => hrR e.symm) _)
   have HB11 := Aside0.mk (show Below w.heap.size w w11 by rw [hw11]; exact below_set HB10.out hgrb)
   have HQ11 := Aside0.mk (show SQ w.heap.size (fun k => k ≠ bt) (.slice (some ⟨gm, 0, none⟩) l1_0.length cm) (.slice (some ⟨g, 0, none⟩) l1_1.length ct) (l1_0) (l1_1.set t (⟨x.f0, x.f1.set r (rd l1_0 (l : Int)), x.f2, x.f3⟩ : S49)) w11 by rw [hw11]; exact HQ10.out.setReg HX.out (by omega) HD110.out (r := r) (by omega) _)
   have HD111 : Aside0 (w11.cell? ⟨g, t * 4 + 1, none⟩ = some (.slice (some ⟨gr, 0, none⟩) 4 cr)) := Aside0.mk (by rw [hw11]; exact (World.cell?_setCell_far w10 ⟨gr, r, none⟩ ⟨g, t * 4 + 1, none⟩ _ (fun e => hggr e.symm)).trans HD110.out)
   have HD311 : Aside0 (w11.cell? ⟨g, t * 4 + 3, none⟩ = some (.slice A3 x.f3.length c3)) := Aside0.mk (by rw [hw11]; exact (World.cell?_setCell_far w10 ⟨gr, r, none⟩ ⟨g, t * 4 + 3, none⟩ _ (fun e => hggr e.symm)).trans HD310.out)
   rw [← hw11]
   clear hw11 BT10 BX10 BO10 BR10 HB10 HQ10 HD110 HD310
   obtain ⟨gr', cr', A3', c3', ⟨d0, d1, d2, d3⟩, hfz, hreg', hty', hba', hne', hset', hput'⟩ := HQ11.out.cells _ (set_get HX.out) (by simp only [List.length_set]; omega)
   have z0 := hfz 0
   have z1 := hfz 1
   have z2 := hfz 2
   have z3 := hfz 3
   rw [Nat.add_zero] at z0
   clear hfz hreg' hty' hba' hne' hset' hput'
   have tb0 : w11.cell? ⟨bt, 0, none⟩ = some (.int .i64 (x.f0 + 1)) := (blk_cell BT11.out 0).trans rfl
   have tb1 : w11.cell? ⟨bt, 1, none⟩ = some (.slice (some ⟨gr, 0, none⟩) 4 cr) := (blk_cell BT11.out 1).trans rfl
   have tb2 : w11.cell? ⟨bt, 2, none⟩ = some (.bool (x.f2)) := (blk_cell BT11.out 2).trans rfl
   have tb3 : w11.cell? ⟨bt, 3, none⟩ = some (.slice A3 x.f3.length c3) := (blk_cell BT11.out 3).trans rfl
   have ob1 : w11.cell? ⟨bo, 1, none⟩ = some (.slice (some ⟨g, 0, none⟩) l1_1.length ct) := (blk_cell BO11.out 1).trans rfl
   go_upto_region 25 with fail
   obtain ⟨wf, hwf⟩ : ∃ wf, wf = w11.setCells g (t * 4) [.int .i64 (x.f0 + 1), .slice (some ⟨gr, 0, none⟩) 4 cr, .bool (x.f2), .slice A3 x.f3.length c3] := ⟨_, rfl⟩
   have hq := HQ11.out.put (set_get HX.out) (by simp only [List.length_set]; omega) HD111.out HD311.out (x.f0 + 1) (x.f2)
   have BOf : Aside0 (wf.heap[bo]? = some (.cells #[.slice (some ⟨gm, 0, none⟩) l1_0.length cm, .slice (some ⟨g, 0, none⟩) l1_1.length ct] 41 (0, 0))) := Aside0.mk (by rw [hwf]; exact (setCells_far _ _ bo (fun e => hgbo e.symm)).trans BO11.out)
   have BRf : Aside0 (wf.heap[w.heap.size + 1 + 1]? = some (.cells #[.slice none 0 0, .slice none 0 0] 41 (0, 0))) := Aside0.mk (by rw [hwf]; exact (setCells_far _ _ _ (fun e => hgR e.symm)).trans BR11.out)
   have HBf : Aside0 (Below w.heap.size w wf) := Aside0.mk (by rw [hwf]; exact below_set (below_set (below_set (below_set HB11.out hgb) hgb) hgb) hgb)
   rw [← hwf] at hq
   change Code.wp _ _ _ _ (w11.setCells g (t * 4) [.int .i64 (x.f0 + 1), .slice (some ⟨gr, 0, none⟩) 4 cr, .bool (x.f2), .slice A3 x.f3.length c3])
   rw [← hwf]
   have HQf := Aside0.mk hq
   clear hq hwf z0 z1 z2 z3 d0 d1 d2 d3 tb0 tb1 tb2 tb3 ob1
   have o0 : wf.cell? ⟨bo, 0, none⟩ = some (.slice (some ⟨gm, 0, none⟩) l1_0.length cm) := (blk_cell BOf.out 0).trans rfl
   have o1 : wf.cell? ⟨bo, 1, none⟩ = some (.slice (some ⟨g, 0, none⟩) l1_1.length ct) := (blk_cell BOf.out 1).trans rfl
   have rz0 : wf.cell? ⟨w.heap.size + 1 + 1, 0, none⟩ = some (.slice none 0 0) := (blk_cell BRf.out 0).trans rfl
   have rz1 : wf.cell? ⟨w.heap.size + 1 + 1, 1, none⟩ = some (.slice none 0 0) := (blk_cell BRf.out 1).trans rfl
   have rf0 := blk_frozen BRf.out 0
   have rf1 := blk_frozen BRf.out 1
   go_wp2_with fail
   have eb0 : ((wf.setCell ⟨w.heap.size + 1 + 1, 0, none⟩ (.slice (some ⟨gm, 0, none⟩) l1_0.length cm)).setCell ⟨w.heap.size + 1 + 1, 1, none⟩ (.slice (some ⟨g, 0, none⟩) l1_1.length ct)).cell? ⟨w.heap.size + 1 + 1, 0, none⟩ = some (.slice (some ⟨gm, 0, none⟩) l1_0.length cm) := (blk_cell (blk_set (blk_set BRf.out 0 _) 1 _) 0).trans rfl
   have eb1 : ((wf.setCell ⟨w.heap.size + 1 + 1, 0, none⟩ (.slice (some ⟨gm, 0, none⟩) l1_0.length cm)).setCell ⟨w.heap.size + 1 + 1, 1, none⟩ (.slice (some ⟨g, 0, none⟩) l1_1.length ct)).cell? ⟨w.heap.size + 1 + 1, 1, none⟩ = some (.slice (some ⟨g, 0, none⟩) l1_1.length ct) := (blk_cell (blk_set (blk_set BRf.out 0 _) 1 _) 1).trans rfl
   have hJf := (HQf.out.toSJ.other BRf.out (j := 0) (by decide) (by decide) (by decide) (.slice (some ⟨gm, 0, none⟩) l1_0.length cm)).other (blk_set BRf.out 0 _) (j := 1) (by decide) (by decide) (by decide) (.slice (some ⟨g, 0, none⟩) l1_1.length ct)
   have hR : refF (⟨2, (r : Int), (l : Int), y3, y4⟩ : S36) l1_0 x = (l1_0, ⟨x.f0 + 1, (⟨x.f0, x.f1.set r (rd l1_0 (l : Int)), x.f2, x.f3⟩ : S49).f1, x.f2, x.f3⟩) := by unfold refF; simp
   refine bodyPost_ret (v := .tuple #[.agg #[.slice (some ⟨gm, 0, none⟩) l1_0.length cm, .slice (some ⟨g, 0, none⟩) l1_1.length ct], .bool true]) (by simp [results, Try.results25, go_sem, eb0, eb1]) rfl ⟨_, _, rfl, ?_, below_set (below_set HBf.out (by omega)) (by omega)⟩
   rw [hR]
   (try simp only [List.set_set] at hJf)
   exact hJf
  by_cases k3 : y0 = 3
  ·subst k3
   obtain ⟨hl0, hl1⟩ := HLM.out (by omega)
   obtain ⟨l, rfl⟩ : ∃ l : Nat, y2 = (l : Int) := ⟨y2.toNat, by omega⟩
   have hln : l < l1_0.length := by omega
   have p2 : ((l : Int) < (l1_0.length : Int)) = True := eq_true hl1
   have p3 : (l < l1_0.length) = True := eq_true hln
   obtain ⟨gm, cp, hv, hmb, hmlt, cmm, hcm⟩ := Kd.R_form HQ9.out.mem (by omega)
   obtain rfl : Am = some ⟨gm, 0, none⟩ := by injection hv
   have hmem := row_cell HQ9.out.mem hln
   have hmc := hmem.1
   have hmf := hmem.2
   obtain ⟨cg9, hcg9⟩ := Kd.S_typed HQ9.out.ths g (by simp [Value.ownBlock])
   have hmg : gm ≠ g := types_ne hcm hcg9 (by decide)
   have hmo : gm ≠ bo := types_ne hcm BO9.out (by decide)
   have hmx : gm ≠ bx := types_ne hcm BX9.out (by decide)
   have hmt : gm ≠ bt := types_ne hcm BT9.out (by decide)
   have hmR : gm ≠ w.heap.size + 1 + 1 := types_ne hcm BR9.out (by decide)
   have hmr : gm ≠ gr := fun e => hgrm (by rw [← e]; simp [Value.ownBlock])
   have ob0 : w9.cell? ⟨bo, 0, none⟩ = some (.slice (some ⟨gm, 0, none⟩) l1_0.length cm) := (blk_cell BO9.out 0).trans rfl
   clear hv hmem
   have cy0 : w9.cell? ⟨bx, 0, none⟩ = some (.int .i64 3) := (blk_cell BX9.out 0).trans rfl
   have cy1 : w9.cell? ⟨bx, 1, none⟩ = some (.int .i64 (r : Int)) := (blk_cell BX9.out 1).trans rfl
   have cy2 : w9.cell? ⟨bx, 2, none⟩ = some (.int .i64 (l : Int)) := (blk_cell BX9.out 2).trans rfl
   have cy3 : w9.cell? ⟨bx, 3, none⟩ = some (.int .i64 y3) := (blk_cell BX9.out 3).trans rfl
   have cy4 : w9.cell? ⟨bx, 4, none⟩ = some (.int .i64 y4) := (blk_cell BX9.out 4).trans rfl
   go_upto_region 15 with fail
   go_still_tail 11, (by kernel_rfl)
   change wpList _ _ _ _ _ w9.drew
   go_upto_region 24 with fail
   change Code.wp _ _ _ _ (w9.drew.setCell ⟨gm, l, none⟩ (.int .i64 (rd x.f1 (r : Int))))
   (try clear cy0 cy1 cy2 cy3 cy4)
   clear hreg hrc hrf tb1
   clear hmc hmf ob0
   obtain ⟨w10, hw10⟩ : ∃ w10, w10 = w9.drew := ⟨_, rfl⟩
   have BT10 : Aside0 (w10.heap[bt]? = some (.cells #[.int .i64 (x.f0 + 1), .slice (some ⟨gr, 0, none⟩) 4 cr, .bool (x.f2), .slice A3 x.f3.length c3] 49 (0, 0))) := Aside0.mk (by rw [hw10]; exact blk_drewN BT9.out 1)
   have BX10 : Aside0 (w10.heap[bx]? = some (.cells #[.int .i64 3, .int .i64 (r : Int), .int .i64 (l : Int), .int .i64 y3, .int .i64 y4] 36 (0, 0))) := Aside0.mk (by rw [hw10]; exact blk_drewN BX9.out 1)
   have BO10 : Aside0 (w10.heap[bo]? = some (.cells #[.slice (some ⟨gm, 0, none⟩) l1_0.length cm, .slice (some ⟨g, 0, none⟩) l1_1.length ct] 41 (0, 0))) := Aside0.mk (by rw [hw10]; exact blk_drewN BO9.out 1)
   have BR10 : Aside0 (w10.heap[w.heap.size + 1 + 1]? = some (.cells #[.slice none 0 0, .slice none 0 0] 41 (0, 0))) := Aside0.mk (by rw [hw10]; exact blk_drewN BR9.out 1)
   have HB10 := Aside0.mk (show Below w.heap.size w w10 by rw [hw10]; exact below_drew1 HB9.out)
   have HQ10 := Aside0.mk (show SQ w.heap.size (fun k => k ≠ bt) (.slice (some ⟨gm, 0, none⟩) l1_0.length cm) (.slice (some ⟨g, 0, none⟩) l1_1.length ct) (l1_0) (l1_1) w10 by rw [hw10]; exact ⟨Kd.R_drewN HQ9.out.mem 1, Kd.S_drewN HQ9.out.ths 1⟩)
   have HD110 : Aside0 (w10.cell? ⟨g, t * 4 + 1, none⟩ = some (.slice (some ⟨gr, 0, none⟩) 4 cr)) := Aside0.mk (by rw [hw10]; exact HD19.out)
   have HD310 : Aside0 (w10.cell? ⟨g, t * 4 + 3, none⟩ = some (.slice A3 x.f3.length c3)) := Aside0.mk (by rw [hw10]; exact HD39.out)
   rw [← hw10]
   clear hw10 BT9 BX9 BO9 BR9 HB9 HQ9 HD19 HD39
   obtain ⟨w11, hw11⟩ : ∃ w11, w11 = w10.setCell ⟨gm, l, none⟩ (.int .i64 (rd x.f1 (r : Int))) := ⟨_, rfl⟩
   have BT11 : Aside0 (w11.heap[bt]? = some (.cells #[.int .i64 (x.f0 + 1), .slice (some ⟨gr, 0, none⟩) 4 cr, .bool (x.f2), .slice A3 x.f3.length c3] 49 (0, 0))) := Aside0.mk (by rw [hw11]; exact blk_far BT10.out (fun e => hmt e.symm) _)
   have BX11 : Aside0 (w11.heap[bx]? = some (.cells #[.int .i64 3, .int .i64 (r : Int), .int .i64 (l : Int), .int .i64 y3, .int .i64 y4] 36 (0, 0))) := Aside0.mk (by rw [hw11]; exact blk_far BX10.out (fun e => hmx e.symm) _)
   have BO11 : Aside0 (w11.heap[bo]? = some (.cells #[.slice (some ⟨gm, 0, none⟩) l1_0.length cm, .slice (some ⟨g, 0, none⟩) l1_1.length ct] 41 (0, 0))) := Aside0.mk (by rw [hw11]; exact blk_far BO10.out (fun e => hmo e.symm) _)
   have BR11 : Aside0 (w11.heap[w.heap.size + 1 + 1]? = some (.cells #[.slice none 0 0, .slice none 0 0] 41 (0, 0))) := Aside0.mk (by rw [hw11]; exact blk_far BR10.out (fun e => hmR e.symm) _)
   have HB11 := Aside0.mk (show Below w.heap.size w w11 by rw [hw11]; exact below_set HB10.out hmb)
   have HQ11 := Aside0.mk (show SQ w.heap.size (fun k => k ≠ bt) (.slice (some ⟨gm, 0, none⟩) l1_0.length cm) (.slice (some ⟨g, 0, none⟩) l1_1.length ct) (l1_0.set l (rd x.f1 (r : Int))) (l1_1) w11 by rw [hw11]; exact HQ10.out.setMem hln _)
   have HD111 : Aside0 (w11.cell? ⟨g, t * 4 + 1, none⟩ = some (.slice (some ⟨gr, 0, none⟩) 4 cr)) := Aside0.mk (by rw [hw11]; exact (World.cell?_setCell_far w10 ⟨gm, l, none⟩ ⟨g, t * 4 + 1, none⟩ _ (hmg)).trans HD110.out)
   have HD311 : Aside0 (w11.cell? ⟨g, t * 4 + 3, none⟩ = some (.slice A3 x.f3.length c3)) := Aside0.mk (by rw [hw11]; exact (World.cell?_setCell_far w10 ⟨gm, l, none⟩ ⟨g, t * 4 + 3, none⟩ _ (hmg)).trans HD310.out)
   rw [← hw11]
   clear hw11 BT10 BX10 BO10 BR10 HB10 HQ10 HD110 HD310
   obtain ⟨gr', cr', A3', c3', ⟨d0, d1, d2, d3⟩, hfz, hreg', hty', hba', hne', hset', hput'⟩ := HQ11.out.cells _ HX.out (by omega)
   have z0 := hfz 0
   have z1 := hfz 1
   have z2 := hfz 2
   have z3 := hfz 3
   rw [Nat.add_zero] at z0
   clear hfz hreg' hty' hba' hne' hset' hput'
   have tb0 : w11.cell? ⟨bt, 0, none⟩ = some (.int .i64 (x.f0 + 1)) := (blk_cell BT11.out 0).trans rfl
   have tb1 : w11.cell? ⟨bt, 1, none⟩ = some (.slice (some ⟨gr, 0, none⟩) 4 cr) := (blk_cell BT11.out 1).trans rfl
   have tb2 : w11.cell? ⟨bt, 2, none⟩ = some (.bool (x.f2)) := (blk_cell BT11.out 2).trans rfl
   have tb3 : w11.cell? ⟨bt, 3, none⟩ = some (.slice A3 x.f3.length c3) := (blk_cell BT11.out 3).trans rfl
   have ob1 : w11.cell? ⟨bo, 1, none⟩ = some (.slice (some ⟨g, 0, none⟩) l1_1.length ct) := (blk_cell BO11.out 1).trans rfl
   go_upto_region 25 with fail
   obtain ⟨wf, hwf⟩ : ∃ wf, wf = w11.setCells g (t * 4) [.int .i64 (x.f0 + 1), .slice (some ⟨gr, 0, none⟩) 4 cr, .bool (x.f2), .slice A3 x.f3.length c3] := ⟨_, rfl⟩
   have hq := HQ11.out.put HX.out (by omega) HD111.out HD311.out (x.f0 + 1) (x.f2)
   have BOf : Aside0 (wf.heap[bo]? = some (.cells #[.slice (some ⟨gm, 0, none⟩) l1_0.length cm, .slice (some ⟨g, 0, none⟩) l1_1.length ct] 41 (0, 0))) := Aside0.mk (by rw [hwf]; exact (setCells_far _ _ bo (fun e => hgbo e.symm)).trans BO11.out)
   have BRf : Aside0 (wf.heap[w.heap.size + 1 + 1]? = some (.cells #[.slice none 0 0, .slice none 0 0] 41 (0, 0))) := Aside0.mk (by rw [hwf]; exact (setCells_far _ _ _ (fun e => hgR e.symm)).trans BR11.out)
   have HBf : Aside0 (Below w.heap.size w wf) := Aside0.mk (by rw [hwf]; exact below_set (below_set (below_set (below_set HB11.out hgb) hgb) hgb) hgb)
   rw [← hwf] at hq
   change Code.wp _ _ _ _ (w11.setCells g (t * 4) [.int .i64 (x.f0 + 1), .slice (some ⟨gr, 0, none⟩) 4 cr, .bool (x.f2), .slice A3 x.f3.length c3])
   rw [← hwf]
   have HQf := Aside0.mk hq
   clear hq hwf z0 z1 z2 z3 d0 d1 d2 d3 tb0 tb1 tb2 tb3 ob1
   have o0 : wf.cell? ⟨bo, 0, none⟩ = some (.slice (some ⟨gm, 0, none⟩) l1_0.length cm) := (blk_cell BOf.out 0).trans rfl
   have o1 : wf.cell? ⟨bo, 1, none⟩ = some (.slice (some ⟨g, 0, none⟩) l1_1.length ct) := (blk_cell BOf.out 1).trans rfl
   have rz0 : wf.cell? ⟨w.heap.size + 1 + 1, 0, none⟩ = some (.slice none 0 0) := (blk_cell BRf.out 0).trans rfl
   have rz1 : wf.cell? ⟨w.heap.size + 1 + 1, 1, none⟩ = some (.slice none 0 0) := (blk_cell BRf.out 1).trans rfl
   have rf0 := blk_frozen BRf.out 0
   have rf1 := blk_frozen BRf.out 1
   go_wp2_with fail
   have eb0 : ((wf.setCell ⟨w.heap.size + 1 + 1, 0, none⟩ (.slice (some ⟨gm, 0, none⟩) l1_0.length cm)).setCell ⟨w.heap.size + 1 + 1, 1, none⟩ (.slice (some ⟨g, 0, none⟩) l1_1.length ct)).cell? ⟨w.heap.size + 1 + 1, 0, none⟩ = some (.slice (some ⟨gm, 0, none⟩) l1_0.length cm) := (blk_cell (blk_set (blk_set BRf.out 0 _) 1 _) 0).trans rfl
   have eb1 : ((wf.setCell ⟨w.heap.size + 1 + 1, 0, none⟩ (.slice (some ⟨gm, 0, none⟩) l1_0.length cm)).setCell ⟨w.heap.size + 1 + 1, 1, none⟩ (.slice (some ⟨g, 0, none⟩) l1_1.length ct)).cell? ⟨w.heap.size + 1 + 1, 1, none⟩ = some (.slice (some ⟨g, 0, none⟩) l1_1.length ct) := (blk_cell (blk_set (blk_set BRf.out 0 _) 1 _) 1).trans rfl
   have hJf := (HQf.out.toSJ.other BRf.out (j := 0) (by decide) (by decide) (by decide) (.slice (some ⟨gm, 0, none⟩) l1_0.length cm)).other (blk_set BRf.out 0 _) (j := 1) (by decide) (by decide) (by decide) (.slice (some ⟨g, 0, none⟩) l1_1.length ct)
   have hR : refF (⟨3, (r : Int), (l : Int), y3, y4⟩ : S36) l1_0 x = (l1_0.set l (rd x.f1 (r : Int)), ⟨x.f0 + 1, x.f1, x.f2, x.f3⟩) := by unfold refF; simp
   refine bodyPost_ret (v := .tuple #[.agg #[.slice (some ⟨gm, 0, none⟩) l1_0.length cm, .slice (some ⟨g, 0, none⟩) l1_1.length ct], .bool true]) (by simp [results, Try.results25, go_sem, eb0, eb1]) rfl ⟨_, _, rfl, ?_, below_set (below_set HBf.out (by omega)) (by omega)⟩
   rw [hR]
   (try simp only [List.set_set] at hJf)
   exact hJf
  by_cases k4 : y0 = 4
  ·subst k4
   obtain ⟨hl0, hl1⟩ := HLM.out (by omega)
   obtain ⟨l, rfl⟩ : ∃ l : Nat, y2 = (l : Int) := ⟨y2.toNat, by omega⟩
   have hln : l < l1_0.length := by omega
   have p2 : ((l : Int) < (l1_0.length : Int)) = True := eq_true hl1
   have p3 : (l < l1_0.length) = True := eq_true hln
   obtain ⟨gm, cp, hv, hmb, hmlt, cmm, hcm⟩ := Kd.R_form HQ9.out.mem (by omega)
   obtain rfl : Am = some ⟨gm, 0, none⟩ := by injection hv
   have hmem := row_cell HQ9.out.mem hln
   have hmc := hmem.1
   have hmf := hmem.2
   obtain ⟨cg9, hcg9⟩ := Kd.S_typed HQ9.out.ths g (by simp [Value.ownBlock])
   have hmg : gm ≠ g := types_ne hcm hcg9 (by decide)
   have hmo : gm ≠ bo := types_ne hcm BO9.out (by decide)
   have hmx : gm ≠ bx := types_ne hcm BX9.out (by decide)
   have hmt : gm ≠ bt := types_ne hcm BT9.out (by decide)
   have hmR : gm ≠ w.heap.size + 1 + 1 := types_ne hcm BR9.out (by decide)
   have hmr : gm ≠ gr := fun e => hgrm (by rw [← e]; simp [Value.ownBlock])
   have ob0 : w9.cell? ⟨bo, 0, none⟩ = some (.slice (some ⟨gm, 0, none⟩) l1_0.length cm) := (blk_cell BO9.out 0).trans rfl
   clear hv hmem
   have cy0 : w9.cell? ⟨bx, 0, none⟩ = some (.int .i64 4) := (blk_cell BX9.out 0).trans rfl
   have cy1 : w9.cell? ⟨bx, 1, none⟩ = some (.int .i64 (r : Int)) := (blk_cell BX9.out 1).trans rfl
   have cy2 : w9.cell? ⟨bx, 2, none⟩ = some (.int .i64 (l : Int)) := (blk_cell BX9.out 2).trans rfl
   have cy3 : w9.cell? ⟨bx, 3, none⟩ = some (.int .i64 y3) := (blk_cell BX9.out 3).trans rfl
   have cy4 : w9.cell? ⟨bx, 4, none⟩ = some (.int .i64 y4) := (blk_cell BX9.out 4).trans rfl
   go_upto_region 24 with fail
   (try clear cy0 cy1 cy2 cy3 cy4)
   clear hreg hrc hrf tb1
   clear hmc hmf ob0
   obtain ⟨w10, hw10⟩ : ∃ w10, w10 = w9.setCell ⟨gm, l, none⟩ (.int .i64 (y3)) := ⟨_, rfl⟩
   have BT10 : Aside0 (w10.heap[bt]? = some (.cells #[.int .i64 (x.f0 + 1), .slice (some ⟨gr, 0, none⟩) 4 cr, .bool (x.f2), .slice A3 x.f3.length c3] 49 (0, 0))) := Aside0.mk (by rw [hw10]; exact blk_far BT9.out (fun e => hmt e.symm) _)
   have BX10 : Aside0 (w10.heap[bx]? = some (.cells #[.int .i64 4, .int .i64 (r : Int), .int .i64 (l : Int), .int .i64 y3, .int .i64 y4] 36 (0, 0))) := Aside0.mk (by rw [hw10]; exact blk_far BX9.out (fun e => hmx e.symm) _)
   have BO10 : Aside0 (w10.heap[bo]? = some (.cells #[.slice (some ⟨gm, 0, none⟩) l1_0.length cm, .slice (some ⟨g, 0, none⟩) l1_1.length ct] 41 (0, 0))) := Aside0.mk (by rw [hw10]; exact blk_far BO9.out (fun e => hmo e.symm) _)
   have BR10 : Aside0 (w10.heap[w.heap.size + 1 + 1]? = some (.cells #[.slice none 0 0, .slice none 0 0] 41 (0, 0))) := Aside0.mk (by rw [hw10]; exact blk_far BR9.out (fun e => hmR e.symm) _)
   have HB10 := Aside0.mk (show Below w.heap.size w w10 by rw [hw10]; exact below_set HB9.out hmb)
   have HQ10 := Aside0.mk (show SQ w.heap.size (fun k => k ≠ bt) (.slice (some ⟨gm, 0, none⟩) l1_0.length cm) (.slice (some ⟨g, 0, none⟩) l1_1.length ct) (l1_0.set l (y3)) (l1_1) w10 by rw [hw10]; exact HQ9.out.setMem hln _)
   have HD110 : Aside0 (w10.cell? ⟨g, t * 4 + 1, none⟩ = some (.slice (some ⟨gr, 0, none⟩) 4 cr)) := Aside0.mk (by rw [hw10]; exact (World.cell?_setCell_far w9 ⟨gm, l, none⟩ ⟨g, t * 4 + 1, none⟩ _ (hmg)).trans HD19.out)
   have HD310 : Aside0 (w10.cell? ⟨g, t * 4 + 3, none⟩ = some (.slice A3 x.f3.length c3)) := Aside0.mk (by rw [hw10]; exact (World.cell?_setCell_far w9 ⟨gm, l, none⟩ ⟨g, t * 4 + 3, none⟩ _ (hmg)).trans HD39.out)
   rw [← hw10]
   clear hw10 BT9 BX9 BO9 BR9 HB9 HQ9 HD19 HD39
   obtain ⟨gr', cr', A3', c3', ⟨d0, d1, d2, d3⟩, hfz, hreg', hty', hba', hne', hset', hput'⟩ := HQ10.out.cells _ HX.out (by omega)
   have z0 := hfz 0
   have z1 := hfz 1
   have z2 := hfz 2
   have z3 := hfz 3
   rw [Nat.add_zero] at z0
   clear hfz hreg' hty' hba' hne' hset' hput'
   have tb0 : w10.cell? ⟨bt, 0, none⟩ = some (.int .i64 (x.f0 + 1)) := (blk_cell BT10.out 0).trans rfl
   have tb1 : w10.cell? ⟨bt, 1, none⟩ = some (.slice (some ⟨gr, 0, none⟩) 4 cr) := (blk_cell BT10.out 1).trans rfl
   have tb2 : w10.cell? ⟨bt, 2, none⟩ = some (.bool (x.f2)) := (blk_cell BT10.out 2).trans rfl
   have tb3 : w10.cell? ⟨bt, 3, none⟩ = some (.slice A3 x.f3.length c3) := (blk_cell BT10.out 3).trans rfl
   have ob1 : w10.cell? ⟨bo, 1, none⟩ = some (.slice (some ⟨g, 0, none⟩) l1_1.length ct) := (blk_cell BO10.out 1).trans rfl
   go_upto_region 25 with fail
   obtain ⟨wf, hwf⟩ : ∃ wf, wf = w10.setCells g (t * 4) [.int .i64 (x.f0 + 1), .slice (some ⟨gr, 0, none⟩) 4 cr, .bool (x.f2), .slice A3 x.f3.length c3] := ⟨_, rfl⟩
   have hq := HQ10.out.put HX.out (by omega) HD110.out HD310.out (x.f0 + 1) (x.f2)
   have BOf : Aside0 (wf.heap[bo]? = some (.cells #[.slice (some ⟨gm, 0, none⟩) l1_0.length cm, .slice (some ⟨g, 0, none⟩) l1_1.length ct] 41 (0, 0))) := Aside0.mk (by rw [hwf]; exact (setCells_far _ _ bo (fun e => hgbo e.symm)).trans BO10.out)
   have BRf : Aside0 (wf.heap[w.heap.size + 1 + 1]? = some (.cells #[.slice none 0 0, .slice none 0 0] 41 (0, 0))) := Aside0.mk (by rw [hwf]; exact (setCells_far _ _ _ (fun e => hgR e.symm)).trans BR10.out)
   have HBf : Aside0 (Below w.heap.size w wf) := Aside0.mk (by rw [hwf]; exact below_set (below_set (below_set (below_set HB10.out hgb) hgb) hgb) hgb)
   rw [← hwf] at hq
   change Code.wp _ _ _ _ (w10.setCells g (t * 4) [.int .i64 (x.f0 + 1), .slice (some ⟨gr, 0, none⟩) 4 cr, .bool (x.f2), .slice A3 x.f3.length c3])
   rw [← hwf]
   have HQf := Aside0.mk hq
   clear hq hwf z0 z1 z2 z3 d0 d1 d2 d3 tb0 tb1 tb2 tb3 ob1
   have o0 : wf.cell? ⟨bo, 0, none⟩ = some (.slice (some ⟨gm, 0, none⟩) l1_0.length cm) := (blk_cell BOf.out 0).trans rfl
   have o1 : wf.cell? ⟨bo, 1, none⟩ = some (.slice (some ⟨g, 0, none⟩) l1_1.length ct) := (blk_cell BOf.out 1).trans rfl
   have rz0 : wf.cell? ⟨w.heap.size + 1 + 1, 0, none⟩ = some (.slice none 0 0) := (blk_cell BRf.out 0).trans rfl
   have rz1 : wf.cell? ⟨w.heap.size + 1 + 1, 1, none⟩ = some (.slice none 0 0) := (blk_cell BRf.out 1).trans rfl
   have rf0 := blk_frozen BRf.out 0
   have rf1 := blk_frozen BRf.out 1
   go_wp2_with fail
   have eb0 : ((wf.setCell ⟨w.heap.size + 1 + 1, 0, none⟩ (.slice (some ⟨gm, 0, none⟩) l1_0.length cm)).setCell ⟨w.heap.size + 1 + 1, 1, none⟩ (.slice (some ⟨g, 0, none⟩) l1_1.length ct)).cell? ⟨w.heap.size + 1 + 1, 0, none⟩ = some (.slice (some ⟨gm, 0, none⟩) l1_0.length cm) := (blk_cell (blk_set (blk_set BRf.out 0 _) 1 _) 0).trans rfl
   have eb1 : ((wf.setCell ⟨w.heap.size + 1 + 1, 0, none⟩ (.slice (some ⟨gm, 0, none⟩) l1_0.length cm)).setCell ⟨w.heap.size + 1 + 1, 1, none⟩ (.slice (some ⟨g, 0, none⟩) l1_1.length ct)).cell? ⟨w.heap.size + 1 + 1, 1, none⟩ = some (.slice (some ⟨g, 0, none⟩) l1_1.length ct) := (blk_cell (blk_set (blk_set BRf.out 0 _) 1 _) 1).trans rfl
   have hJf := (HQf.out.toSJ.other BRf.out (j := 0) (by decide) (by decide) (by decide) (.slice (some ⟨gm, 0, none⟩) l1_0.length cm)).other (blk_set BRf.out 0 _) (j := 1) (by decide) (by decide) (by decide) (.slice (some ⟨g, 0, none⟩) l1_1.length ct)
   have hR : refF (⟨4, (r : Int), (l : Int), y3, y4⟩ : S36) l1_0 x = (l1_0.set l (y3), ⟨x.f0 + 1, x.f1, x.f2, x.f3⟩) := by unfold refF; simp
   refine bodyPost_ret (v := .tuple #[.agg #[.slice (some ⟨gm, 0, none⟩) l1_0.length cm, .slice (some ⟨g, 0, none⟩) l1_1.length ct], .bool true]) (by simp [results, Try.results25, go_sem, eb0, eb1]) rfl ⟨_, _, rfl, ?_, below_set (below_set HBf.out (by omega)) (by omega)⟩
   rw [hR]
   (try simp only [List.set_set] at hJf)
   exact hJf
  by_cases k5 : y0 = 5
  ·subst k5
   obtain ⟨hl0, hl1⟩ := HLM.out (by omega)
   obtain ⟨l, rfl⟩ : ∃ l : Nat, y2 = (l : Int) := ⟨y2.toNat, by omega⟩
   have hln : l < l1_0.length := by omega
   have p2 : ((l : Int) < (l1_0.length : Int)) = True := eq_true hl1
   have p3 : (l < l1_0.length) = True := eq_true hln
   obtain ⟨gm, cp, hv, hmb, hmlt, cmm, hcm⟩ := Kd.R_form HQ9.out.mem (by omega)
   obtain rfl : Am = some ⟨gm, 0, none⟩ := by injection hv
   have hmem := row_cell HQ9.out.mem hln
   have hmc := hmem.1
   have hmf := hmem.2
   obtain ⟨cg9, hcg9⟩ := Kd.S_typed HQ9.out.ths g (by simp [Value.ownBlock])
   have hmg : gm ≠ g := types_ne hcm hcg9 (by decide)
   have hmo : gm ≠ bo := types_ne hcm BO9.out (by decide)
   have hmx : gm ≠ bx := types_ne hcm BX9.out (by decide)
   have hmt : gm ≠ bt := types_ne hcm BT9.out (by decide)
   have hmR : gm ≠ w.heap.size + 1 + 1 := types_ne hcm BR9.out (by decide)
   have hmr : gm ≠ gr := fun e => hgrm (by rw [← e]; simp [Value.ownBlock])
   have ob0 : w9.cell? ⟨bo, 0, none⟩ = some (.slice (some ⟨gm, 0, none⟩) l1_0.length cm) := (blk_cell BO9.out 0).trans rfl
   clear hv hmem
   have cy0 : w9.cell? ⟨bx, 0, none⟩ = some (.int .i64 5) := (blk_cell BX9.out 0).trans rfl
   have cy1 : w9.cell? ⟨bx, 1, none⟩ = some (.int .i64 (r : Int)) := (blk_cell BX9.out 1).trans rfl
   have cy2 : w9.cell? ⟨bx, 2, none⟩ = some (.int .i64 (l : Int)) := (blk_cell BX9.out 2).trans rfl
   have cy3 : w9.cell? ⟨bx, 3, none⟩ = some (.int .i64 y3) := (blk_cell BX9.out 3).trans rfl
   have cy4 : w9.cell? ⟨bx, 4, none⟩ = some (.int .i64 y4) := (blk_cell BX9.out 4).trans rfl
   go_upto_region 20 with fail
   go_still_tail 11, (by kernel_rfl)
   change wpList _ _ _ _ _ w9.drew
   go_upto_region 24 with fail
   change Code.wp _ _ _ _ ((w9.drew.setCell ⟨gm, l, none⟩ (.int .i64 (rd x.f1 (r : Int)))).setCell ⟨gr, r, none⟩ (.int .i64 (rd l1_0 (l : Int))))
   (try clear cy0 cy1 cy2 cy3 cy4)
   clear hreg hrc hrf tb1
   clear hmc hmf ob0
   obtain ⟨w10, hw10⟩ : ∃ w10, w10 = w9.drew := ⟨_, rfl⟩
   have BT10 : Aside0 (w10.heap[bt]? = some (.cells #[.int .i64 (x.f0 + 1), .slice (some ⟨gr, 0, none⟩) 4 cr, .bool (x.f2), .slice A3 x.f3.length c3] 49 (0, 0))) := Aside0.mk (by rw [hw10]; exact blk_drewN BT9.out 1)
   have BX10 : Aside0 (w10.heap[bx]? = some (.cells #[.int .i64 5, .int .i64 (r : Int), .int .i64 (l : Int), .int .i64 y3, .int .i64 y4] 36 (0, 0))) := Aside0.mk (by rw [hw10]; exact blk_drewN BX9.out 1)
   have BO10 : Aside0 (w10.heap[bo]? = some (.cells #[.slice (some ⟨gm, 0, none⟩) l1_0.length cm, .slice (some ⟨g, 0, none⟩) l1_1.length ct] 41 (0, 0))) := Aside0.mk (by rw [hw10]; exact blk_drewN BO9.out 1)
   have BR10 : Aside0 (w10.heap[w.heap.size + 1 + 1]? = some (.cells #[.slice none 0 0, .slice none 0 0] 41 (0, 0))) := Aside0.mk (by rw [hw10]; exact blk_drewN BR9.out 1)
   have HB10 := Aside0.mk (show Below w.heap.size w w10 by rw [hw10]; exact below_drew1 HB9.out)
   have HQ10 := Aside0.mk (show SQ w.heap.size (fun k => k ≠ bt) (.slice (some ⟨gm, 0, none⟩) l1_0.length cm) (.slice (some ⟨g, 0, none⟩) l1_1.length ct) (l1_0) (l1_1) w10 by rw [hw10]; exact ⟨Kd.R_drewN HQ9.out.mem 1, Kd.S_drewN HQ9.out.ths 1⟩)
   have HD110 : Aside0 (w10.cell? ⟨g, t * 4 + 1, none⟩ = some (.slice (some ⟨gr, 0, none⟩) 4 cr)) := Aside0.mk (by rw [hw10]; exact HD19.out)
   have HD310 : Aside0 (w10.cell? ⟨g, t * 4 + 3, none⟩ = some (.slice A3 x.f3.length c3)) := Aside0.mk (by rw [hw10]; exact HD39.out)
   rw [← hw10]
   clear hw10 BT9 BX9 BO9 BR9 HB9 HQ9 HD19 HD39
   obtain ⟨w11, hw11⟩ : ∃ w11, w11 = w10.setCell ⟨gm, l, none⟩ (.int .i64 (rd x.f1 (r : Int))) := ⟨_, rfl⟩
   have BT11 : Aside0 (w11.heap[bt]? = some (.cells #[.int .i64 (x.f0 + 1), .slice (some ⟨gr, 0, none⟩) 4 cr, .bool (x.f2), .slice A3 x.f3.length c3] 49 (0, 0))) := Aside0.mk (by rw [hw11]; exact blk_far BT10.out (fun e => hmt e.symm) _)
   have BX11 : Aside0 (w11.heap[bx]? = some (.cells #[.int .i64 5, .int .i64 (r : Int), .int .i64 (l : Int), .int .i64 y3, .int .i64 y4] 36 (0, 0))) := Aside0.mk (by rw [hw11]; exact blk_far BX10.out (fun e => hmx e.symm) _)
   have BO11 : Aside0 (w11.heap[bo]? = some (.cells #[.slice (some ⟨gm, 0, none⟩) l1_0.length cm, .slice (some ⟨g, 0, none⟩) l1_1.length ct] 41 (0, 0))) := Aside0.mk (by rw [hw11]; exact blk_far BO10.out (fun e => hmo e.symm) _)
   have BR11 : Aside0 (w11.heap[w.heap.size + 1 + 1]? = some (.cells #[.slice none 0 0, .slice none 0 0] 41 (0, 0))) := Aside0.mk (by rw [hw11]; exact blk_far BR10.out (fun e => hmR e.symm) _)
   have HB11 := Aside0.mk (show Below w.heap.size w w11 by rw [hw11]; exact below_set HB10.out hmb)
   have HQ11 := Aside0.mk (show SQ w.heap.size (fun k => k ≠ bt) (.slice (some ⟨gm, 0, none⟩) l1_0.length cm) (.slice (some ⟨g, 0, none⟩) l1_1.length ct) (l1_0.set l (rd x.f1 (r : Int))) (l1_1) w11 by rw [hw11]; exact HQ10.out.setMem hln _)
   have HD111 : Aside0 (w11.cell? ⟨g, t * 4 + 1, none⟩ = some (.slice (some ⟨gr, 0, none⟩) 4 cr)) := Aside0.mk (by rw [hw11]; exact (World.cell?_setCell_far w10 ⟨gm, l, none⟩ ⟨g, t * 4 + 1, none⟩ _ (hmg)).trans HD110.out)
   have HD311 : Aside0 (w11.cell? ⟨g, t * 4 + 3, none⟩ = some (.slice A3 x.f3.length c3)) := Aside0.mk (by rw [hw11]; exact (World.cell?_setCell_far w10 ⟨gm, l, none⟩ ⟨g, t * 4 + 3, none⟩ _ (hmg)).trans HD310.out)
   rw [← hw11]
   clear hw11 BT10 BX10 BO10 BR10 HB10 HQ10 HD110 HD310
   obtain ⟨w12, hw12⟩ : ∃ w12, w12 = w11.setCell ⟨gr, r, none⟩ (.int .i64 (rd l1_0 (l : Int))) := ⟨_, rfl⟩
   have BT12 : Aside0 (w12.heap[bt]? = some (.cells #[.int .i64 (x.f0 + 1), .slice (some ⟨gr, 0, none⟩) 4 cr, .bool (x.f2), .slice A3 x.f3.length c3] 49 (0, 0))) := Aside0.mk (by rw [hw12]; exact blk_far BT11.out (fun e => hQr e.symm) _)
   have BX12 : Aside0 (w12.heap[bx]? = some (.cells #[.int .i64 5, .int .i64 (r : Int), .int .i64 (l : Int), .int .i64 y3, .int .i64 y4] 36 (0, 0))) := Aside0.mk (by rw [hw12]; exact blk_far BX11.out (fun e => hrbx e.symm) _)
   have BO12 : Aside0 (w12.heap[bo]? = some (.cells #[.slice (some ⟨gm, 0, none⟩) l1_0.length cm, .slice (some ⟨g, 0, none⟩) l1_1.length ct] 41 (0, 0))) := Aside0.mk (by rw [hw12]; exact blk_far BO11.out (fun e => hrbo e.symm) _)
   have BR12 : Aside0 (w12.heap[w.heap.size + 1 + 1]? = some (.cells #[.slice none 0 0, .slice none 0 0] 41 (0, 0))) := Aside0.mk (by rw [hw12]; exact blk_far BR11.out (fun e => hrR e.symm) _)
   have HB12 := Aside0.mk (show Below w.heap.size w w12 by rw [hw12]; exact below_set HB11.out hgrb)
   have HQ12 := Aside0.mk (show SQ w.heap.size (fun k => k ≠ bt) (.slice (some ⟨gm, 0, none⟩) l1_0.length cm) (.slice (some ⟨g, 0, none⟩) l1_1.length ct) (l1_0.set l (rd x.f1 (r : Int))) (l1_1.set t (⟨x.f0, x.f1.set r (rd l1_0 (l : Int)), x.f2, x.f3⟩ : S49)) w12 by rw [hw12]; exact HQ11.out.setReg HX.out (by omega) HD111.out (r := r) (by omega) _)
   have HD112 : Aside0 (w12.cell? ⟨g, t * 4 + 1, none⟩ = some (.slice (some ⟨gr, 0, none⟩) 4 cr)) := Aside0.mk (by rw [hw12]; exact (World.cell?_setCell_far w11 ⟨gr, r, none⟩ ⟨g, t * 4 + 1, none⟩ _ (fun e => hggr e.symm)).trans HD111.out)
   have HD312 : Aside0 (w12.cell? ⟨g, t * 4 + 3, none⟩ = some (.slice A3 x.f3.length c3)) := Aside0.mk (by rw [hw12]; exact (World.cell?_setCell_far w11 ⟨gr, r, none⟩ ⟨g, t * 4 + 3, none⟩ _ (fun e => hggr e.symm)).trans HD311.out)
   rw [← hw12]
   clear hw12 BT11 BX11 BO11 BR11 HB11 HQ11 HD111 HD311
   obtain ⟨gr', cr', A3', c3', ⟨d0, d1, d2, d3⟩, hfz, hreg', hty', hba', hne', hset', hput'⟩ := HQ12.out.cells _ (set_get HX.out) (by simp only [List.length_set]; omega)
   have z0 := hfz 0
   have z1 := hfz 1
   have z2 := hfz 2
   have z3 := hfz 3
   rw [Nat.add_zero] at z0
   clear hfz hreg' hty' hba' hne' hset' hput'
   have tb0 : w12.cell? ⟨bt, 0, none⟩ = some (.int .i64 (x.f0 + 1)) := (blk_cell BT12.out 0).trans rfl
   have tb1 : w12.cell? ⟨bt, 1, none⟩ = some (.slice (some ⟨gr, 0, none⟩) 4 cr) := (blk_cell BT12.out 1).trans rfl
   have tb2 : w12.cell? ⟨bt, 2, none⟩ = some (.bool (x.f2)) := (blk_cell BT12.out 2).trans rfl
   have tb3 : w12.cell? ⟨bt, 3, none⟩ = some (.slice A3 x.f3.length c3) := (blk_cell BT12.out 3).trans rfl
   have ob1 : w12.cell? ⟨bo, 1, none⟩ = some (.slice (some ⟨g, 0, none⟩) l1_1.length ct) := (blk_cell BO12.out 1).trans rfl
   go_upto_region 25 with fail
   obtain ⟨wf, hwf⟩ : ∃ wf, wf = w12.setCells g (t * 4) [.int .i64 (x.f0 + 1), .slice (some ⟨gr, 0, none⟩) 4 cr, .bool (x.f2), .slice A3 x.f3.length c3] := ⟨_, rfl⟩
   have hq := HQ12.out.put (set_get HX.out) (by simp only [List.length_set]; omega) HD112.out HD312.out (x.f0 + 1) (x.f2)
   have BOf : Aside0 (wf.heap[bo]? = some (.cells #[.slice (some ⟨gm, 0, none⟩) l1_0.length cm, .slice (some ⟨g, 0, none⟩) l1_1.length ct] 41 (0, 0))) := Aside0.mk (by rw [hwf]; exact (setCells_far _ _ bo (fun e => hgbo e.symm)).trans BO12.out)
   have BRf : Aside0 (wf.heap[w.heap.size + 1 + 1]? = some (.cells #[.slice none 0 0, .slice none 0 0] 41 (0, 0))) := Aside0.mk (by rw [hwf]; exact (setCells_far _ _ _ (fun e => hgR e.symm)).trans BR12.out)
   have HBf : Aside0 (Below w.heap.size w wf) := Aside0.mk (by rw [hwf]; exact below_set (below_set (below_set (below_set HB12.out hgb) hgb) hgb) hgb)
   rw [← hwf] at hq
   change Code.wp _ _ _ _ (w12.setCells g (t * 4) [.int .i64 (x.f0 + 1), .slice (some ⟨gr, 0, none⟩) 4 cr, .bool (x.f2), .slice A3 x.f3.length c3])
   rw [← hwf]
   have HQf := Aside0.mk hq
   clear hq hwf z0 z1 z2 z3 d0 d1 d2 d3 tb0 tb1 tb2 tb3 ob1
   have o0 : wf.cell? ⟨bo, 0, none⟩ = some (.slice (some ⟨gm, 0, none⟩) l1_0.length cm) := (blk_cell BOf.out 0).trans rfl
   have o1 : wf.cell? ⟨bo, 1, none⟩ = some (.slice (some ⟨g, 0, none⟩) l1_1.length ct) := (blk_cell BOf.out 1).trans rfl
   have rz0 : wf.cell? ⟨w.heap.size + 1 + 1, 0, none⟩ = some (.slice none 0 0) := (blk_cell BRf.out 0).trans rfl
   have rz1 : wf.cell? ⟨w.heap.size + 1 + 1, 1, none⟩ = some (.slice none 0 0) := (blk_cell BRf.out 1).trans rfl
   have rf0 := blk_frozen BRf.out 0
   have rf1 := blk_frozen BRf.out 1
   go_wp2_with fail
   have eb0 : ((wf.setCell ⟨w.heap.size + 1 + 1, 0, none⟩ (.slice (some ⟨gm, 0, none⟩) l1_0.length cm)).setCell ⟨w.heap.size + 1 + 1, 1, none⟩ (.slice (some ⟨g, 0, none⟩) l1_1.length ct)).cell? ⟨w.heap.size + 1 + 1, 0, none⟩ = some (.slice (some ⟨gm, 0, none⟩) l1_0.length cm) := (blk_cell (blk_set (blk_set BRf.out 0 _) 1 _) 0).trans rfl
   have eb1 : ((wf.setCell ⟨w.heap.size + 1 + 1, 0, none⟩ (.slice (some ⟨gm, 0, none⟩) l1_0.length cm)).setCell ⟨w.heap.size + 1 + 1, 1, none⟩ (.slice (some ⟨g, 0, none⟩) l1_1.length ct)).cell? ⟨w.heap.size + 1 + 1, 1, none⟩ = some (.slice (some ⟨g, 0, none⟩) l1_1.length ct) := (blk_cell (blk_set (blk_set BRf.out 0 _) 1 _) 1).trans rfl
   have hJf := (HQf.out.toSJ.other BRf.out (j := 0) (by decide) (by decide) (by decide) (.slice (some ⟨gm, 0, none⟩) l1_0.length cm)).other (blk_set BRf.out 0 _) (j := 1) (by decide) (by decide) (by decide) (.slice (some ⟨g, 0, none⟩) l1_1.length ct)
   have hR : refF (⟨5, (r : Int), (l : Int), y3, y4⟩ : S36) l1_0 x = (l1_0.set l (rd x.f1 (r : Int)), ⟨x.f0 + 1, (⟨x.f0, x.f1.set r (rd l1_0 (l : Int)), x.f2, x.f3⟩ : S49).f1, x.f2, x.f3⟩) := by unfold refF; simp
   refine bodyPost_ret (v := .tuple #[.agg #[.slice (some ⟨gm, 0, none⟩) l1_0.length cm, .slice (some ⟨g, 0, none⟩) l1_1.length ct], .bool true]) (by simp [results, Try.results25, go_sem, eb0, eb1]) rfl ⟨_, _, rfl, ?_, below_set (below_set HBf.out (by omega)) (by omega)⟩
   rw [hR]
   (try simp only [List.set_set] at hJf)
   exact hJf
  by_cases k7 : y0 = 7
  ·subst k7
   have cy0 : w9.cell? ⟨bx, 0, none⟩ = some (.int .i64 7) := (blk_cell BX9.out 0).trans rfl
   have cy1 : w9.cell? ⟨bx, 1, none⟩ = some (.int .i64 (r : Int)) := (blk_cell BX9.out 1).trans rfl
   have cy2 : w9.cell? ⟨bx, 2, none⟩ = some (.int .i64 y2) := (blk_cell BX9.out 2).trans rfl
   have cy3 : w9.cell? ⟨bx, 3, none⟩ = some (.int .i64 y3) := (blk_cell BX9.out 3).trans rfl
   have cy4 : w9.cell? ⟨bx, 4, none⟩ = some (.int .i64 y4) := (blk_cell BX9.out 4).trans rfl
   have tb2 : w9.cell? ⟨bt, 2, none⟩ = some (.bool x.f2) := (blk_cell BT9.out 2).trans rfl
   have tf2 := blk_frozen BT9.out 2
   go_upto_region 23 with fail
   go_still_tail 10, (by kernel_rfl)
   change wpList _ _ _ _ _ w9.drew
   go_upto_region 24 with fail
   change Code.wp _ _ _ _ (w9.drew.setCell ⟨bt, 2, none⟩ (.bool (rd x.f1 (r : Int) == y3)))
   (try clear cy0 cy1 cy2 cy3 cy4)
   clear hreg hrc hrf tb1
   clear tb2 tf2
   obtain ⟨w10, hw10⟩ : ∃ w10, w10 = w9.drew := ⟨_, rfl⟩
   have BT10 : Aside0 (w10.heap[bt]? = some (.cells #[.int .i64 (x.f0 + 1), .slice (some ⟨gr, 0, none⟩) 4 cr, .bool (x.f2), .slice A3 x.f3.length c3] 49 (0, 0))) := Aside0.mk (by rw [hw10]; exact blk_drewN BT9.out 1)
   have BX10 : Aside0 (w10.heap[bx]? = some (.cells #[.int .i64 7, .int .i64 (r : Int), .int .i64 y2, .int .i64 y3, .int .i64 y4] 36 (0, 0))) := Aside0.mk (by rw [hw10]; exact blk_drewN BX9.out 1)
   have BO10 : Aside0 (w10.heap[bo]? = some (.cells #[.slice Am l1_0.length cm, .slice (some ⟨g, 0, none⟩) l1_1.length ct] 41 (0, 0))) := Aside0.mk (by rw [hw10]; exact blk_drewN BO9.out 1)
   have BR10 : Aside0 (w10.heap[w.heap.size + 1 + 1]? = some (.cells #[.slice none 0 0, .slice none 0 0] 41 (0, 0))) := Aside0.mk (by rw [hw10]; exact blk_drewN BR9.out 1)
   have HB10 := Aside0.mk (show Below w.heap.size w w10 by rw [hw10]; exact below_drew1 HB9.out)
   have HQ10 := Aside0.mk (show SQ w.heap.size (fun k => k ≠ bt) (.slice Am l1_0.length cm) (.slice (some ⟨g, 0, none⟩) l1_1.length ct) (l1_0) (l1_1) w10 by rw [hw10]; exact ⟨Kd.R_drewN HQ9.out.mem 1, Kd.S_drewN HQ9.out.ths 1⟩)
   have HD110 : Aside0 (w10.cell? ⟨g, t * 4 + 1, none⟩ = some (.slice (some ⟨gr, 0, none⟩) 4 cr)) := Aside0.mk (by rw [hw10]; exact HD19.out)
   have HD310 : Aside0 (w10.cell? ⟨g, t * 4 + 3, none⟩ = some (.slice A3 x.f3.length c3)) := Aside0.mk (by rw [hw10]; exact HD39.out)
   rw [← hw10]
   clear hw10 BT9 BX9 BO9 BR9 HB9 HQ9 HD19 HD39
   obtain ⟨w11, hw11⟩ : ∃ w11, w11 = w10.setCell ⟨bt, 2, none⟩ (.bool (rd x.f1 (r : Int) == y3)) := ⟨_, rfl⟩
   have BT11 : Aside0 (w11.heap[bt]? = some (.cells #[.int .i64 (x.f0 + 1), .slice (some ⟨gr, 0, none⟩) 4 cr, .bool (rd x.f1 (r : Int) == y3), .slice A3 x.f3.length c3] 49 (0, 0))) := Aside0.mk (by rw [hw11]; exact blk_set BT10.out 2 _)
   have BX11 : Aside0 (w11.heap[bx]? = some (.cells #[.int .i64 7, .int .i64 (r : Int), .int .i64 y2, .int .i64 y3, .int .i64 y4] 36 (0, 0))) := Aside0.mk (by rw [hw11]; exact blk_far BX10.out (by show bx ≠ bt; omega) _)
   have BO11 : Aside0 (w11.heap[bo]? = some (.cells #[.slice Am l1_0.length cm, .slice (some ⟨g, 0, none⟩) l1_1.length ct] 41 (0, 0))) := Aside0.mk (by rw [hw11]; exact blk_far BO10.out (by show bo ≠ bt; omega) _)
   have BR11 : Aside0 (w11.heap[w.heap.size + 1 + 1]? = some (.cells #[.slice none 0 0, .slice none 0 0] 41 (0, 0))) := Aside0.mk (by rw [hw11]; exact blk_far BR10.out (by show w.heap.size + 1 + 1 ≠ bt; omega) _)
   have HB11 := Aside0.mk (show Below w.heap.size w w11 by rw [hw11]; exact below_set HB10.out hw5)
   have HQ11 := Aside0.mk (show SQ w.heap.size (fun k => k ≠ bt) (.slice Am l1_0.length cm) (.slice (some ⟨g, 0, none⟩) l1_1.length ct) (l1_0) (l1_1) w11 by rw [hw11]; exact HQ10.out.far BT10.out (by decide) (fun k hk => hk) _)
   have HD111 : Aside0 (w11.cell? ⟨g, t * 4 + 1, none⟩ = some (.slice (some ⟨gr, 0, none⟩) 4 cr)) := Aside0.mk (by rw [hw11]; exact (World.cell?_setCell_far w10 ⟨bt, 2, none⟩ ⟨g, t * 4 + 1, none⟩ _ (by show bt ≠ g; omega)).trans HD110.out)
   have HD311 : Aside0 (w11.cell? ⟨g, t * 4 + 3, none⟩ = some (.slice A3 x.f3.length c3)) := Aside0.mk (by rw [hw11]; exact (World.cell?_setCell_far w10 ⟨bt, 2, none⟩ ⟨g, t * 4 + 3, none⟩ _ (by show bt ≠ g; omega)).trans HD310.out)
   rw [← hw11]
   clear hw11 BT10 BX10 BO10 BR10 HB10 HQ10 HD110 HD310
   obtain ⟨gr', cr', A3', c3', ⟨d0, d1, d2, d3⟩, hfz, hreg', hty', hba', hne', hset', hput'⟩ := HQ11.out.cells _ HX.out (by omega)
   have z0 := hfz 0
   have z1 := hfz 1
   have z2 := hfz 2
   have z3 := hfz 3
   rw [Nat.add_zero] at z0
   clear hfz hreg' hty' hba' hne' hset' hput'
   have tb0 : w11.cell? ⟨bt, 0, none⟩ = some (.int .i64 (x.f0 + 1)) := (blk_cell BT11.out 0).trans rfl
   have tb1 : w11.cell? ⟨bt, 1, none⟩ = some (.slice (some ⟨gr, 0, none⟩) 4 cr) := (blk_cell BT11.out 1).trans rfl
   have tb2 : w11.cell? ⟨bt, 2, none⟩ = some (.bool (rd x.f1 (r : Int) == y3)) := (blk_cell BT11.out 2).trans rfl
   have tb3 : w11.cell? ⟨bt, 3, none⟩ = some (.slice A3 x.f3.length c3) := (blk_cell BT11.out 3).trans rfl
   have ob1 : w11.cell? ⟨bo, 1, none⟩ = some (.slice (some ⟨g, 0, none⟩) l1_1.length ct) := (blk_cell BO11.out 1).trans rfl
   go_upto_region 25 with fail
   obtain ⟨wf, hwf⟩ : ∃ wf, wf = w11.setCells g (t * 4) [.int .i64 (x.f0 + 1), .slice (some ⟨gr, 0, none⟩) 4 cr, .bool (rd x.f1 (r : Int) == y3), .slice A3 x.f3.length c3] := ⟨_, rfl⟩
   have hq := HQ11.out.put HX.out (by omega) HD111.out HD311.out (x.f0 + 1) (rd x.f1 (r : Int) == y3)
   have BOf : Aside0 (wf.heap[bo]? = some (.cells #[.slice Am l1_0.length cm, .slice (some ⟨g, 0, none⟩) l1_1.length ct] 41 (0, 0))) := Aside0.mk (by rw [hwf]; exact (setCells_far _ _ bo (fun e => hgbo e.symm)).trans BO11.out)
   have BRf : Aside0 (wf.heap[w.heap.size + 1 + 1]? = some (.cells #[.slice none 0 0, .slice none 0 0] 41 (0, 0))) := Aside0.mk (by rw [hwf]; exact (setCells_far _ _ _ (fun e => hgR e.symm)).trans BR11.out)
   have HBf : Aside0 (Below w.heap.size w wf) := Aside0.mk (by rw [hwf]; exact below_set (below_set (below_set (below_set HB11.out hgb) hgb) hgb) hgb)
   rw [← hwf] at hq
   change Code.wp _ _ _ _ (w11.setCells g (t * 4) [.int .i64 (x.f0 + 1), .slice (some ⟨gr, 0, none⟩) 4 cr, .bool (rd x.f1 (r : Int) == y3), .slice A3 x.f3.length c3])
   rw [← hwf]
   have HQf := Aside0.mk hq
   clear hq hwf z0 z1 z2 z3 d0 d1 d2 d3 tb0 tb1 tb2 tb3 ob1
   have o0 : wf.cell? ⟨bo, 0, none⟩ = some (.slice Am l1_0.length cm) := (blk_cell BOf.out 0).trans rfl
   have o1 : wf.cell? ⟨bo, 1, none⟩ = some (.slice (some ⟨g, 0, none⟩) l1_1.length ct) := (blk_cell BOf.out 1).trans rfl
   have rz0 : wf.cell? ⟨w.heap.size + 1 + 1, 0, none⟩ = some (.slice none 0 0) := (blk_cell BRf.out 0).trans rfl
   have rz1 : wf.cell? ⟨w.heap.size + 1 + 1, 1, none⟩ = some (.slice none 0 0) := (blk_cell BRf.out 1).trans rfl
   have rf0 := blk_frozen BRf.out 0
   have rf1 := blk_frozen BRf.out 1
   go_wp2_with fail
   have eb0 : ((wf.setCell ⟨w.heap.size + 1 + 1, 0, none⟩ (.slice Am l1_0.length cm)).setCell ⟨w.heap.size + 1 + 1, 1, none⟩ (.slice (some ⟨g, 0, none⟩) l1_1.length ct)).cell? ⟨w.heap.size + 1 + 1, 0, none⟩ = some (.slice Am l1_0.length cm) := (blk_cell (blk_set (blk_set BRf.out 0 _) 1 _) 0).trans rfl
   have eb1 : ((wf.setCell ⟨w.heap.size + 1 + 1, 0, none⟩ (.slice Am l1_0.length cm)).setCell ⟨w.heap.size + 1 + 1, 1, none⟩ (.slice (some ⟨g, 0, none⟩) l1_1.length ct)).cell? ⟨w.heap.size + 1 + 1, 1, none⟩ = some (.slice (some ⟨g, 0, none⟩) l1_1.length ct) := (blk_cell (blk_set (blk_set BRf.out 0 _) 1 _) 1).trans rfl
   have hJf := (HQf.out.toSJ.other BRf.out (j := 0) (by decide) (by decide) (by decide) (.slice Am l1_0.length cm)).other (blk_set BRf.out 0 _) (j := 1) (by decide) (by decide) (by decide) (.slice (some ⟨g, 0, none⟩) l1_1.length ct)
   have hR : refF (⟨7, (r : Int), y2, y3, y4⟩ : S36) l1_0 x = (l1_0, ⟨x.f0 + 1, x.f1, rd x.f1 (r : Int) == y3, x.f3⟩) := by unfold refF; simp
   refine bodyPost_ret (v := .tuple #[.agg #[.slice Am l1_0.length cm, .slice (some ⟨g, 0, none⟩) l1_1.length ct], .bool true]) (by simp [results, Try.results25, go_sem, eb0, eb1]) rfl ⟨_, _, rfl, ?_, below_set (below_set HBf.out (by omega)) (by omega)⟩
   rw [hR]
   (try simp only [List.set_set] at hJf)
   exact hJf
  have nc1 : (y0 == 1) = false := beq_eq_false_iff_ne.2 (by omega)
  have nc2 : (y0 == 2) = false := beq_eq_false_iff_ne.2 (by omega)
  have nc3 : (y0 == 3) = false := beq_eq_false_iff_ne.2 (by omega)
  have nc4 : (y0 == 4) = false := beq_eq_false_iff_ne.2 (by omega)
  have nc5 : (y0 == 5) = false := beq_eq_false_iff_ne.2 (by omega)
  have nc7 : (y0 == 7) = false := beq_eq_false_iff_ne.2 (by omega)
  clear hreg hrc hrf tb1 k1 k2 k3 k4 k5 k7
  have cy0 : w9.cell? ⟨bx, 0, none⟩ = some (.int .i64 y0) := (blk_cell BX9.out 0).trans rfl
  have cy1 : w9.cell? ⟨bx, 1, none⟩ = some (.int .i64 (r : Int)) := (blk_cell BX9.out 1).trans rfl
  have cy2 : w9.cell? ⟨bx, 2, none⟩ = some (.int .i64 y2) := (blk_cell BX9.out 2).trans rfl
  have cy3 : w9.cell? ⟨bx, 3, none⟩ = some (.int .i64 y3) := (blk_cell BX9.out 3).trans rfl
  have cy4 : w9.cell? ⟨bx, 4, none⟩ = some (.int .i64 y4) := (blk_cell BX9.out 4).trans rfl
  go_upto_region 24 with fail
  clear cy0 cy1 cy2 cy3 cy4
  have hy : y0 = 6 ∨ (y0 = 9 ∧ x.f2 = false) ∨ (y0 = 10 ∧ x.f2 = true) := by
   have h1 := HJF.out
   have h2 := HOP.out
   have h3 := beq_eq_false_iff_ne.1 nc1
   have h4 := beq_eq_false_iff_ne.1 nc2
   have h5 := beq_eq_false_iff_ne.1 nc3
   have h6 := beq_eq_false_iff_ne.1 nc4
   have h7 := beq_eq_false_iff_ne.1 nc5
   have h8 := beq_eq_false_iff_ne.1 nc7
   cases hq : x.f2 <;> simp [hq] at h1 ⊢ <;> omega
  have HY := Aside0.mk hy
  clear hy
  obtain ⟨gr', cr', A3', c3', ⟨d0, d1, d2, d3⟩, hfz, hreg', hty', hba', hne', hset', hput'⟩ := HQ9.out.cells _ HX.out (by omega)
  have z0 := hfz 0
  have z1 := hfz 1
  have z2 := hfz 2
  have z3 := hfz 3
  rw [Nat.add_zero] at z0
  clear hfz hreg' hty' hba' hne' hset' hput'
  have tb0 : w9.cell? ⟨bt, 0, none⟩ = some (.int .i64 (x.f0 + 1)) := (blk_cell BT9.out 0).trans rfl
  have tb1 : w9.cell? ⟨bt, 1, none⟩ = some (.slice (some ⟨gr, 0, none⟩) 4 cr) := (blk_cell BT9.out 1).trans rfl
  have tb2 : w9.cell? ⟨bt, 2, none⟩ = some (.bool (x.f2)) := (blk_cell BT9.out 2).trans rfl
  have tb3 : w9.cell? ⟨bt, 3, none⟩ = some (.slice A3 x.f3.length c3) := (blk_cell BT9.out 3).trans rfl
  have ob1 : w9.cell? ⟨bo, 1, none⟩ = some (.slice (some ⟨g, 0, none⟩) l1_1.length ct) := (blk_cell BO9.out 1).trans rfl
  go_upto_region 25 with fail
  obtain ⟨wf, hwf⟩ : ∃ wf, wf = w9.setCells g (t * 4) [.int .i64 (x.f0 + 1), .slice (some ⟨gr, 0, none⟩) 4 cr, .bool (x.f2), .slice A3 x.f3.length c3] := ⟨_, rfl⟩
  have hq := HQ9.out.put HX.out (by omega) HD19.out HD39.out (x.f0 + 1) (x.f2)
  have BOf : Aside0 (wf.heap[bo]? = some (.cells #[.slice Am l1_0.length cm, .slice (some ⟨g, 0, none⟩) l1_1.length ct] 41 (0, 0))) := Aside0.mk (by rw [hwf]; exact (setCells_far _ _ bo (fun e => hgbo e.symm)).trans BO9.out)
  have BRf : Aside0 (wf.heap[w.heap.size + 1 + 1]? = some (.cells #[.slice none 0 0, .slice none 0 0] 41 (0, 0))) := Aside0.mk (by rw [hwf]; exact (setCells_far _ _ _ (fun e => hgR e.symm)).trans BR9.out)
  have HBf : Aside0 (Below w.heap.size w wf) := Aside0.mk (by rw [hwf]; exact below_set (below_set (below_set (below_set HB9.out hgb) hgb) hgb) hgb)
  rw [← hwf] at hq
  change Code.wp _ _ _ _ (w9.setCells g (t * 4) [.int .i64 (x.f0 + 1), .slice (some ⟨gr, 0, none⟩) 4 cr, .bool (x.f2), .slice A3 x.f3.length c3])
  rw [← hwf]
  have HQf := Aside0.mk hq
  clear hq hwf z0 z1 z2 z3 d0 d1 d2 d3 tb0 tb1 tb2 tb3 ob1
  have o0 : wf.cell? ⟨bo, 0, none⟩ = some (.slice Am l1_0.length cm) := (blk_cell BOf.out 0).trans rfl
  have o1 : wf.cell? ⟨bo, 1, none⟩ = some (.slice (some ⟨g, 0, none⟩) l1_1.length ct) := (blk_cell BOf.out 1).trans rfl
  have rz0 : wf.cell? ⟨w.heap.size + 1 + 1, 0, none⟩ = some (.slice none 0 0) := (blk_cell BRf.out 0).trans rfl
  have rz1 : wf.cell? ⟨w.heap.size + 1 + 1, 1, none⟩ = some (.slice none 0 0) := (blk_cell BRf.out 1).trans rfl
  have rf0 := blk_frozen BRf.out 0
  have rf1 := blk_frozen BRf.out 1
  go_wp2_with fail
  have eb0 : ((wf.setCell ⟨w.heap.size + 1 + 1, 0, none⟩ (.slice Am l1_0.length cm)).setCell ⟨w.heap.size + 1 + 1, 1, none⟩ (.slice (some ⟨g, 0, none⟩) l1_1.length ct)).cell? ⟨w.heap.size + 1 + 1, 0, none⟩ = some (.slice Am l1_0.length cm) := (blk_cell (blk_set (blk_set BRf.out 0 _) 1 _) 0).trans rfl
  have eb1 : ((wf.setCell ⟨w.heap.size + 1 + 1, 0, none⟩ (.slice Am l1_0.length cm)).setCell ⟨w.heap.size + 1 + 1, 1, none⟩ (.slice (some ⟨g, 0, none⟩) l1_1.length ct)).cell? ⟨w.heap.size + 1 + 1, 1, none⟩ = some (.slice (some ⟨g, 0, none⟩) l1_1.length ct) := (blk_cell (blk_set (blk_set BRf.out 0 _) 1 _) 1).trans rfl
  have hJf := (HQf.out.toSJ.other BRf.out (j := 0) (by decide) (by decide) (by decide) (.slice Am l1_0.length cm)).other (blk_set BRf.out 0 _) (j := 1) (by decide) (by decide) (by decide) (.slice (some ⟨g, 0, none⟩) l1_1.length ct)
  have hR : refF (⟨y0, (r : Int), y2, y3, y4⟩ : S36) l1_0 x = (l1_0, ⟨x.f0 + 1, x.f1, x.f2, x.f3⟩) := by unfold refF; rcases HY.out with e | ⟨e, e'⟩ | ⟨e, e'⟩ <;> simp [*]
  refine bodyPost_ret (v := .tuple #[.agg #[.slice Am l1_0.length cm, .slice (some ⟨g, 0, none⟩) l1_1.length ct], .bool true]) (by simp [results, Try.results25, go_sem, eb0, eb1]) rfl ⟨_, _, rfl, ?_, below_set (below_set HBf.out (by omega)) (by omega)⟩
  rw [hR]
  (try simp only [List.set_set] at hJf)
  exact hJf
end Go.Proofs.Ytphklaajolpieaa.Print
