/- buf.Push: its Lean function and its contract, by walking its text: a row made with room for one more, copied into, appended to. -/
import Derived.Test.YtpaifpnnjflnfaaPrint0
import Derived.Laws.MakeOwn
import Derived.Laws.CopyRow
namespace Go.Proofs.Ytpaifpnnjflnfaa.Print
open Go.RowKit Go.Proofs.YtpaifpnnjflnfaaW.PrintWords Go.Proofs.YtpaifpnnjflnfaaW.PrintLast Go.Proofs.YtpaifpnnjflnfaaW.PrintMore
set_option linter.unusedVariables false
set_option linter.unusedSimpArgs false

/-- A row's cells. -/
def cellsOf : List S51 → List Value
  | [] => []
  | x :: t => .int .i64 x.f0 :: .int .i64 x.f1 :: cellsOf t
theorem cellsOf_length : ∀ l, (cellsOf l).length = l.length * 2
  | [] => rfl
  | x :: t => by simp [cellsOf, cellsOf_length t]; omega
theorem cellsOf_get : ∀ (l : List S51) (j : Nat), (cellsOf l)[j]? = (l[j / 2]?).bind fun x => ([.int .i64 x.f0, .int .i64 x.f1] : List Value)[j % 2]?
  | [], j => by simp [cellsOf]
  | x :: t, 0 => by simp [cellsOf]
  | x :: t, 1 => by simp [cellsOf]
  | x :: t, j + 2 => by
    have e1 : (j + 2) / 2 = j / 2 + 1 := by omega
    have e2 : (j + 2) % 2 = j % 2 := by omega
    rw [e1, e2]
    simp only [cellsOf, List.getElem?_cons_succ]
    exact cellsOf_get t j
theorem cellsOf_one : ∀ (l : List S51), ∀ v ∈ cellsOf l, v.oneCell' = true
  | [], v, h => by simp [cellsOf] at h
  | x :: t, v, h => by
    simp only [cellsOf, List.mem_cons] at h
    rcases h with rfl | rfl | h
    · rfl
    · rfl
    · exact cellsOf_one t v h
theorem cellsOf_reps (W : World) (base : Nat) (ok : Nat → Prop) : ∀ l : List S51, Reps (Kd.M k51 W base ok) 2 l (cellsOf l)
  | [] => Reps.none _ _
  | x :: t => Reps.c2 (show Kd.M k51 W base ok x [.int .i64 x.f0, .int .i64 x.f1] from k51_mkM _ _ _ x) (cellsOf_reps W base ok t)
theorem src_cells {w : World} {ad : Addr} {l : List S51} (h : Kd.C k51 w (some ad) l.length l) (j : Nat) (v : Value) (hj : (cellsOf l)[j]? = some v) : w.cell? (ad.add j) = some v := by
  have hlt : j < (cellsOf l).length := by
    rcases Nat.lt_or_ge j (cellsOf l).length with h | h
    · exact h
    · rw [List.getElem?_eq_none h] at hj; cases hj
  rw [cellsOf_length] at hlt
  obtain ⟨ad', c, e, hx, hK, hc⟩ := Kd.C_get h z51 ((j / 2 : Nat) : Int) (by omega) (by omega)
  obtain rfl := Option.some.inj e
  have hcc := k51_open hK
  subst hcc
  have := hc (j % 2) v
  rw [show k51.sz = 2 from rfl, show ((j / 2 : Nat) : Int).toNat * 2 + j % 2 = j by omega] at this
  apply this
  rw [cellsOf_get] at hj
  rw [List.getElem?_eq_getElem (show j / 2 < l.length by omega)] at hj
  simp only [Option.bind_some] at hj
  rw [show l.getD ((j / 2 : Nat) : Int).toNat z51 = l[j / 2]'(by omega) by rw [List.getD_eq_getElem?_getD, show ((j / 2 : Nat) : Int).toNat = j / 2 by omega, List.getElem?_eq_getElem (by omega)]; rfl]
  exact hj

/-- copy, at elements of two cells. -/
theorem run_copy_two {P : Program} (w : World) (dT sT ty elem : TypeId) (g dLen dCap : Nat) (a : Addr) (sCap : Nat) (cur : Array Value) (t : TypeId) (cs : List Value)
    (hu : P.underlying dT = some (.slice elem)) (hs : (P.info? elem).map (·.size) = some 2)
    (hg : w.heap[g]? = some (.cells cur t (0, 0))) (hn : cs.length = dLen * 2)
    (hsrc : ∀ j v, cs[j]? = some v → w.cell? (a.add j) = some v) (hfit : cs.length ≤ cur.size) (h1 : ∀ v ∈ cs, v.oneCell' = true) :
    (Builtin.copy_ #[dT, sT] ty #[.slice (some ⟨g, 0, none⟩) dLen dCap, .slice (some a) dLen sCap]).run P w =
      .ok (goInt dLen) (w.setRow g (cs ++ cur.toList.drop cs.length).toArray) := by
  have hl := run_loadCells_list (P := P) w a cs hsrc
  have hst := run_storeCells_at P g 0 t cs 0 cur w hg (by simpa using hfit) h1
  cases hq : P.info? elem with
  | none => simp [hq] at hs
  | some i =>
    have hi : i.size = 2 := by simpa [hq] using hs
    rw [hn] at hl
    simp [Builtin.copy_, run_underlying hu, Builtin.lenOf, Builtin.firstCells, sizeOf, typeInfo, hq, hi, hl, hst]
theorem run_copy_zero {P : Program} (w : World) (dT sT ty elem : TypeId) (g dCap : Nat) (sCap : Nat)
    (hu : P.underlying dT = some (.slice elem)) (hs : (P.info? elem).map (·.size) = some 2) :
    (Builtin.copy_ #[dT, sT] ty #[.slice (some ⟨g, 0, none⟩) 0 dCap, .slice none 0 sCap]).run P w = .ok (goInt 0) w := by
  cases hq : P.info? elem with
  | none => simp [hq] at hs
  | some i =>
    simp [Builtin.copy_, run_underlying hu, Builtin.lenOf, Builtin.firstCells, sizeOf, typeInfo, hq, storeCells]

def buf_Push.f (l0 : List S51) (a1_0 a1_1 : Int) : Option (List S51) := if l0.length ≤ 1000000 then some (l0 ++ [⟨a1_0, a1_1⟩]) else none

/-- What copy leaves. -/
theorem copied {w2 : World} {g n : Nat} {A : Option Addr} {c0 : Nat} {cur : Array Value} (l0 : List S51) (hn : l0.length = n) (hg : w2.heap[g]? = some (.cells cur 51 (0, 0))) (hs : cur.size = (n + 1) * 2) (hC : Kd.C k51 w2 A n l0) (cap : Nat) (ty : TypeId) :
    ∃ w3 cur', (Builtin.copy_ #[46, 46] ty #[.slice (some ⟨g, 0, none⟩) n cap, .slice A n c0]).run Try.prog w2 = .ok (goInt n) w3 ∧ w2.grownBy w3 (some g) ∧ w3.heap[g]? = some (.cells cur' 51 (0, 0)) ∧ cur'.size = (n + 1) * 2 ∧ cur'.toList.take (n * 2) = cellsOf l0 := by
  have hinfo : (Try.prog.info? 51).map (·.size) = some 2 := by kernel_rfl
  subst hn
  cases A with
  | none =>
    have hz : l0 = [] := by
      cases l0 with
      | nil => rfl
      | cons x t => have := hC.2.2 (by simp); simp at this
    subst hz
    exact ⟨w2, cur, run_copy_zero w2 _ _ ty 51 g cap c0 Try.underlying46 hinfo, World.grownBy.refl _ _, hg, hs, by simp [cellsOf]⟩
  | some ad =>
    have hcl := cellsOf_length l0
    refine ⟨_, ((cellsOf l0) ++ cur.toList.drop (cellsOf l0).length).toArray, run_copy_two w2 _ _ ty 51 g l0.length cap ad c0 cur 51 (cellsOf l0) Try.underlying46 hinfo hg hcl (src_cells hC) (by omega) (cellsOf_one l0), ?_, setRow_heap w2 g cur _ _ _ hg, by simp; omega, ?_⟩
    · exact ⟨rfl, rfl, rfl, by simp, fun k _ hk => setRow_other w2 g k _ (fun e => hk (by rw [e]))⟩
    · rw [← hcl]; simp

set_option maxHeartbeats 1000000 in
theorem buf_Push.calls (A0 : Option Addr) (c0 : Nat) (l0 : List S51) (a1_0 : Int) (a1_1 : Int) (r : List S51) (w : World) (hr0 : Kd.C k51 w A0 l0.length l0) (hc0 : l0.length ≤ c0) (h : buf_Push.f l0 a1_0 a1_1 = some r) :
    Calls Try.prog 38 #[.slice A0 l0.length c0, .agg #[.int .i64 a1_0, .int .i64 a1_1]] w fun e w' => ∃ v0_ : Value, e = .returned (v0_) ∧ Kd.R k51 51 w' w.heap.size (fun _ => True) v0_ r ∧ Below w.heap.size w w' := by
  unfold buf_Push.f at h
  by_cases hl : l0.length ≤ 1000000
  · rw [if_pos hl] at h
    obtain rfl := Option.some.inj h
    clear h
    have hu := Try.underlying51
    obtain ⟨n, hn⟩ : ∃ n, n = l0.length := ⟨_, rfl⟩
    rw [← hn] at hr0 hl ⊢
    have HN := Aside0.mk hn
    have HL := Aside0.mk hl
    have HR := Aside0.mk hr0
    have hw : wrap64 ((n : Int) + 1) = (n : Int) + 1 := by unfold wrap64; omega
    have h1 : (n : Int) + 1 ≤ 9223372036854775807 := by omega
    have h2 : -9223372036854775808 ≤ (n : Int) + 1 := by omega
    have hmk : ∀ W : World, (Instr.makeSlice 46 (.int .i64 (n : Int)) (.int .i64 ((n : Int) + 1))).run Try.prog W = .ok (.slice (some ⟨W.heap.size, 0, none⟩) n (n + 1)) (W.alloc (.cells (madeCells #[.int .i64 0, .int .i64 0] ((n + 1) * 2)) 51)) := fun W => by
      obtain ⟨i0, hi, hz⟩ := Option.map_eq_some_iff.1 info51
      simp only [Prod.mk.injEq] at hz
      obtain ⟨hz0, hz1, hz2⟩ := hz
      have := run_make (P := Try.prog) W 46 51 i0 _ Try.underlying46 hi hz0 .i64 .i64 (n : Int) ((n : Int) + 1) (by omega) (by omega) (by rw [hz2]; have := HL.out; omega) (by omega)
      rw [hz1] at this
      have ez : (Value.agg #[.int .i64 0, .int .i64 0]).cells = #[.int .i64 0, .int .i64 0] := rfl
      rw [ez] at this
      simpa using this
    clear hn hl hr0 hc0
    go_enter Try.func38, Try.ntmps38
    go_wp2_with fail
    obtain ⟨w3, cur', hrun, hg3, hh3, hs3, ht3⟩ := copied (w2 := (w.alloc (.cells #[.int .i64 a1_0, .int .i64 a1_1] 51)).alloc (.cells (madeCells #[.int .i64 0, .int .i64 0] ((n + 1) * 2)) 51)) (g := w.heap.size + 1) (n := n) (A := A0) (c0 := c0) l0 HN.out.symm
      (by have := blk_new (w.alloc (.cells #[.int .i64 a1_0, .int .i64 a1_1] 51)) (.cells (madeCells #[.int .i64 0, .int .i64 0] ((n + 1) * 2)) 51); rwa [World.size_alloc] at this) (size_madeCells _ _) (Kd.C_alloc (Kd.C_alloc HR.out _) _) (n + 1) 3
    rw [hrun]
    have hB2 : Below w.heap.size w ((w.alloc (.cells #[.int .i64 a1_0, .int .i64 a1_1] 51)).alloc (.cells (madeCells #[.int .i64 0, .int .i64 0] ((n + 1) * 2)) 51)) := below_alloc (below_alloc (Below.refl _ _) _) _
    have HB3 := Aside0.mk (hB2.grown hg3 (by simp; omega) (fun k e => by cases e; omega))
    have hx : w3.heap[w.heap.size]? = some (.cells #[.int .i64 a1_0, .int .i64 a1_1] 51 (0, 0)) :=
      (hg3.block w.heap.size (by simp; omega) (by simp)).trans (blk_alloc (blk_new w (.cells #[.int .i64 a1_0, .int .i64 a1_1] 51)) _)
    have x0 : w3.cell? ⟨w.heap.size, 0, none⟩ = some (.int .i64 a1_0) := (blk_cell hx 0).trans rfl
    have x1 : w3.cell? ⟨w.heap.size, 1, none⟩ = some (.int .i64 a1_1) := (blk_cell hx 1).trans rfl
    have HO : Aside0 (Kd.R k51 51 w3 w.heap.size (fun _ => True) (.slice (some ⟨w.heap.size + 1, 0, none⟩) n (n + 1)) l0) := ⟨⟨fun _ _ => trivial, cellsOf l0, ⟨by rw [cellsOf_length]; rfl, .inr ⟨w.heap.size + 1, n + 1, cur', by rw [HN.out], by omega, hh3, by rw [← HN.out]; omega, by have := HL.out; simp [maxLen]; omega, hs3, by rw [← HN.out]; exact ht3⟩⟩, cellsOf_reps _ _ _ l0⟩⟩
    clear hrun hg3 hh3 hs3 ht3 hB2 hx
    go_wp2_with (at_builtin; refine Kd.R_append k51 (w0 := w) w.heap.size rfl (.tmp 15) (.tmp 17) 46 51 (.agg #[(.int .i64 0), (.int .i64 0)]) 16 rfl Try.underlying46 info51 rfl (by decide) (by decide) (.slice (some ⟨w.heap.size + 1, 0, none⟩) n (n + 1)) l0 ⟨a1_0, a1_1⟩ [.int .i64 a1_0, .int .i64 a1_1] (fun _ => True) (fun _ => False) rfl (by simp [Act.eval]) (k51_mkM _ _ _ ⟨a1_0, a1_1⟩) (fun _ h => h.elim) (fun _ _ => trivial) HO.out HB3.out (below_size HB3.out) (by have := HL.out; have := HN.out; omega) ?_; intro v1 wf ho hb hg hat; have HO7 := Aside0.mk ho; have HB7 := Aside0.mk hb; clear ho hb hg hat)
    go_ret
    exact ⟨_, rfl, HO7.out, HB7.out⟩
  · rw [if_neg hl] at h; exact absurd h (by simp)
end Go.Proofs.Ytpaifpnnjflnfaa.Print
