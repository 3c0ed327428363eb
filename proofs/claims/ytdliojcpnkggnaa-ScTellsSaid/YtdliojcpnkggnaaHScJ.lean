/- A state of one's own, and what a single store does to it: no walk. -/
import Derived.Test.YtdliojcpnkggnaaHScInv
import Derived.Lib.SliceRun
namespace Go.Proofs.Ytdliojcpnkggnaa.Print
open Go.RowKit Go.Proofs.YtdliojcpnkggnaaW.PrintWords Go.Proofs.YtdliojcpnkggnaaW.PrintLast Go.Proofs.YtdliojcpnkggnaaW.PrintMore
set_option linter.unusedVariables false
set_option linter.unusedSimpArgs false
/-- A state: what locations have, and the threads, no two of which lead to one block. -/
structure SJ (base : Nat) (vm vt : Value) (mem : List Int) (ths : List S45) (W : World) : Prop where
  mem : Kd.R (Kd.int .i64) 3 W base (fun _ => True) vm mem
  ths : Kd.S k45 45 W base (fun k => some k ≠ vm.ownBlock) vt ths
theorem SJ.below {base : Nat} {vm vt : Value} {mem : List Int} {ths : List S45} {W W' : World} (h : SJ base vm vt mem ths W) (hb : Below W.heap.size W W') : SJ base vm vt mem ths W' := ⟨Kd.R_below h.mem hb, Kd.S_below h.ths hb⟩
theorem SJ.drewN {base : Nat} {vm vt : Value} {mem : List Int} {ths : List S45} {W : World} (h : SJ base vm vt mem ths W) (n : Nat) : SJ base vm vt mem ths (W.drewN n) := ⟨Kd.R_drewN h.mem n, Kd.S_drewN h.ths n⟩
/-- Another block's cell. -/
theorem SJ.other {base : Nat} {vm vt : Value} {mem : List Int} {ths : List S45} {W : World} (h : SJ base vm vt mem ths W) {b t j : Nat} {cells : Array Value} (hb : W.heap[b]? = some (.cells cells t (0, 0))) (h1 : t ≠ 3) (h2 : t ≠ 45) (h3 : t ≠ 53) (u : Value) : SJ base vm vt mem ths (W.setCell ⟨b, j, none⟩ u) :=
  by
  refine ⟨Kd.R_set h.mem hb (fun q hq => ?_) j u, Kd.S_set h.ths hb (fun q hq => ?_) j u⟩
  · have hq' : q ∈ ([3] : List Nat) := hq
    simp at hq'
    rw [hq']; exact h1.symm
  · have hq' : q ∈ ([45, 3, 53] : List Nat) := hq
    simp at hq'
    rcases hq' with rfl | rfl | rfl
    · exact h2.symm
    · exact h1.symm
    · exact h3.symm
/-- A number's cell in a row of numbers. -/
theorem row_set {e base : Nat} {ok : Nat → Prop} {g n cap l : Nat} {xs : List Int} {W : World} (h : Kd.R (Kd.int .i64) e W base ok (.slice (some ⟨g, 0, none⟩) n cap) xs) (hl : l < n) (u : Int) :
    Kd.R (Kd.int .i64) e (W.setCell ⟨g, l, none⟩ (.int .i64 u)) base ok (.slice (some ⟨g, 0, none⟩) n cap) (xs.set l u) ∧ W.grownBy (W.setCell ⟨g, l, none⟩ (.int .i64 u)) (some g) := by
  obtain ⟨c, hc, hM, hcc, hfr⟩ := Kd.R_elem h 0 (l : Int) (by omega) (by omega)
  have hM' : c = [.int .i64 (xs.getD (l : Int).toNat 0)] := hM
  have := Kd.R_seg (okp := fun _ => False) h (l : Int) (by omega) (by omega) (c := c) (seg := [.int .i64 u]) (j := 0) hc hcc (show 0 + 1 ≤ 1 by decide) (x' := u) (by rw [hM']; rfl) (fun _ hk => hk.elim)
  rw [show ((l : Int)).toNat = l by omega] at this
  have e : W.setCells g (l * (Kd.int .i64).sz + 0) [.int .i64 u] = W.setCell ⟨g, l, none⟩ (.int .i64 u) := by
    show W.setCell ⟨g, l * 1 + 0, none⟩ _ = _
    rw [Nat.mul_one, Nat.add_zero]
  rw [e] at this
  exact this
theorem row_cell {e base : Nat} {ok : Nat → Prop} {g n cap l : Nat} {xs : List Int} {W : World} (h : Kd.R (Kd.int .i64) e W base ok (.slice (some ⟨g, 0, none⟩) n cap) xs) (hl : l < n) :
    W.cell? ⟨g, l, none⟩ = some (.int .i64 (rd xs (l : Int))) ∧ W.frozen? ⟨g, l, none⟩ = false := by
  obtain ⟨c, hc, hM, hcc, hfr⟩ := Kd.R_elem h 0 (l : Int) (by omega) (by omega)
  have hM' : c = [.int .i64 (xs.getD (l : Int).toNat 0)] := hM
  have h1 := hcc 0 (.int .i64 (xs.getD (l : Int).toNat 0)) (by rw [hM']; rfl)
  have h2 := hfr 0
  rw [show ((l : Int)).toNat * (Kd.int .i64).sz + 0 = l by show ((l : Int)).toNat * 1 + 0 = l; omega] at h1 h2
  exact ⟨h1, h2⟩
theorem SJ.setMem {base gm nm cm l : Nat} {vt : Value} {mem : List Int} {ths : List S45} {W : World} (h : SJ base (.slice (some ⟨gm, 0, none⟩) nm cm) vt mem ths W) (hl : l < nm) (u : Int) : SJ base (.slice (some ⟨gm, 0, none⟩) nm cm) vt (mem.set l u) ths (W.setCell ⟨gm, l, none⟩ (.int .i64 u)) :=
  ⟨(row_set h.mem hl u).1, Kd.S_far (p := ⟨gm, l, none⟩) h.ths (fun k hk e => hk (by rw [e]; simp [Value.ownBlock])) _⟩
/-- Thread t, as its cells have it. -/
structure Lent (vm : Value) (g n cap t : Nat) (x : S45) (gr cr : Nat) (v3 : Value) (W : World) : Prop where
  c0 : W.cell? ⟨g, t * 4, none⟩ = some (.int .i64 x.f0)
  c1 : W.cell? ⟨g, t * 4 + 1, none⟩ = some (.slice (some ⟨gr, 0, none⟩) x.f1.length cr)
  c2 : W.cell? ⟨g, t * 4 + 2, none⟩ = some (.bool x.f2)
  f0 : W.frozen? ⟨g, t * 4, none⟩ = false
  f2 : W.frozen? ⟨g, t * 4 + 2, none⟩ = false
  n1 : g ≠ gr
  m1 : some g ≠ vm.ownBlock
  m2 : some gr ≠ vm.ownBlock
  reg : ∀ r, r < x.f1.length → W.cell? ⟨gr, r, none⟩ = some (.int .i64 (rd x.f1 (r : Int))) ∧ W.frozen? ⟨gr, r, none⟩ = false
  tg : ∃ cells, W.heap[g]? = some (.cells cells 45 (0, 0))
  tr : ∃ cells, W.heap[gr]? = some (.cells cells 3 (0, 0))
theorem SJ.lend {base g n cap t : Nat} {vm : Value} {mem : List Int} {ths : List S45} {W : World} (h : SJ base vm (.slice (some ⟨g, 0, none⟩) n cap) mem ths W) (x : S45) (hx : ths[t]? = some x) (hr : 0 < x.f1.length) :
    ∃ gr cr v3, Lent vm g n cap t x gr cr v3 W ∧ (∀ (r : Nat) (u : Int), r < x.f1.length → SJ base vm (.slice (some ⟨g, 0, none⟩) n cap) mem (ths.set t ⟨x.f0, x.f1.set r u, x.f2, x.f3⟩) (W.setCell ⟨gr, r, none⟩ (.int .i64 u))) ∧
      (∀ a : Int, SJ base vm (.slice (some ⟨g, 0, none⟩) n cap) mem (ths.set t ⟨a, x.f1, x.f2, x.f3⟩) (W.setCell ⟨g, t * 4, none⟩ (.int .i64 a))) ∧
      (∀ b : Bool, SJ base vm (.slice (some ⟨g, 0, none⟩) n cap) mem (ths.set t ⟨x.f0, x.f1, b, x.f3⟩) (W.setCell ⟨g, t * 4 + 2, none⟩ (.bool b))) := by
  have hn := (Kd.S_reads' h.ths).1
  have htl : t < ths.length := (List.getElem?_eq_some_iff.1 hx).1
  have hgd : ths.getD (t : Int).toNat z45 = x := by rw [List.getD_eq_getElem?_getD, show ((t : Int)).toNat = t by omega, hx]; rfl
  obtain ⟨oki, c, hcl, hM, hcc, hfr, hoki, hH⟩ := Kd.S_elem (Kd.S_mono (ok' := fun k => some k ≠ vm.ownBlock ∧ ¬ False) h.ths (fun k hk => ⟨hk, not_false⟩)) z45 (t : Int) (by omega) (by omega)
  rw [hgd] at hM
  have hg : (Value.slice (some ⟨g, 0, none⟩) n cap).ownBlock = some g := by simp [Value.ownBlock]
  obtain ⟨v1, v3, rfl, g1, g3⟩ := k45_openM hM
  obtain ⟨gr, cr, rfl, hgrb, hgrl, cgr, hcgr⟩ := Kd.R_form g1 hr
  have hgo : (Value.slice (some ⟨gr, 0, none⟩) x.f1.length cr).ownBlock = some gr := by simp [Value.ownBlock]
  have okgr := g1.1 gr hgo
  obtain ⟨okgr1, okgr2⟩ := hoki gr okgr
  obtain ⟨cg, hcg⟩ := Kd.S_typed h.ths g hg
  have okg : some g ≠ vm.ownBlock := (Kd.S_R h.ths).1 g hg
  have e0 : (t : Int).toNat * k45.sz = t * 4 := by show (t : Int).toNat * 4 = _; omega
  have cc : ∀ (j : Nat) (u : Value), ([.int .i64 x.f0, .slice (some ⟨gr, 0, none⟩) x.f1.length cr, .bool x.f2, v3] : List Value)[j]? = some u → W.cell? ⟨g, t * 4 + j, none⟩ = some u := fun j u hu => by have := hcc j u hu; rwa [e0] at this
  have ff : ∀ j, W.frozen? ⟨g, t * 4 + j, none⟩ = false := fun j => by have := hfr j; rwa [e0] at this
  have fit : ∀ (j : Nat) (u : Value), W.setCells g ((t : Int).toNat * k45.sz + j) [u] = W.setCell ⟨g, t * 4 + j, none⟩ u := fun j u => by rw [e0]; rfl
  refine ⟨gr, cr, v3, ⟨cc 0 _ rfl, cc 1 _ rfl, cc 2 _ rfl, ff 0, ff 2, fun e => okgr2 e.symm, okg, okgr1.1, fun r hr => row_cell g1 hr, ⟨cg, hcg⟩, ⟨cgr, hcgr⟩⟩, fun r u hr => ⟨?_, ?_⟩, fun a => ⟨?_, ?_⟩, fun b => ⟨?_, ?_⟩⟩
  · refine Kd.R_mono (Kd.R_far (p := ⟨gr, r, none⟩) (Kd.R_tight rfl h.mem) (fun k hk e => okgr1.1 (by have e' : k = gr := e; rw [← e']; exact hk)) _) (fun _ _ => trivial)
  · obtain ⟨hr1, hgw⟩ := row_set g1 hr u
    have hS := Kd.H_back (Kd.H_grown hH hgw (fun k hk => by injection hk with hk; rw [← hk]; exact okgr)) (x' := ⟨x.f0, x.f1.set r u, x.f2, x.f3⟩) (okp := oki) (by
      have := k45_mkM (W.setCell ⟨gr, r, none⟩ (.int .i64 u)) base oki ⟨x.f0, x.f1.set r u, x.f2, x.f3⟩ (v1 := .slice (some ⟨gr, 0, none⟩) x.f1.length cr) (v3 := v3) hr1 (Kd.R_set g3 hcgr (by decide) r _)
      exact this) (fun _ hk => hk)
    rw [show ((t : Int)).toNat = t by omega] at hS
    exact Kd.S_mono hS (fun k hk => hk.1)
  · exact Kd.R_set h.mem hcg (by decide) _ _
  · have hS := (Kd.S_seg (okg := fun _ => False) hH (by omega) (by omega) (seg := [.int .i64 a]) (j := 0) (show 0 + 1 ≤ 4 by decide) (x' := ⟨a, x.f1, x.f2, x.f3⟩) (okp := oki) (k45_mkM W base oki ⟨a, x.f1, x.f2, x.f3⟩ g1 g3) (fun k hk => .inl hk) (fun k hk => hk.elim)).1
    rw [fit 0, show ((t : Int)).toNat = t by omega] at hS
    exact hS
  · exact Kd.R_set h.mem hcg (by decide) _ _
  · have hS := (Kd.S_seg (okg := fun _ => False) hH (by omega) (by omega) (seg := [.bool b]) (j := 2) (show 2 + 1 ≤ 4 by decide) (x' := ⟨x.f0, x.f1, b, x.f3⟩) (okp := oki) (k45_mkM W base oki ⟨x.f0, x.f1, b, x.f3⟩ g1 g3) (fun k hk => .inl hk) (fun k hk => hk.elim)).1
    rw [fit 2, show ((t : Int)).toNat = t by omega] at hS
    exact hS
end Go.Proofs.Ytdliojcpnkggnaa.Print
