/- buf.Last: its Lean function and its contract: a loop over an iterator that itself loops over one. -/
import Derived.Test.YtpaifpnnjflnfaaHBack2
namespace Go.Proofs.Ytpaifpnnjflnfaa.Print
open Go.RowKit Go.Shelf Go.Proofs.YtpaifpnnjflnfaaW.PrintWords Go.Proofs.YtpaifpnnjflnfaaW.PrintLast Go.Proofs.YtpaifpnnjflnfaaW.PrintMore
set_option linter.unusedVariables false
set_option linter.unusedSimpArgs false
attribute [local go_sem] Oper.semAt_some

/-- How a round of an outermost loop's may be left: its record in the world, as it stands then. -/
def roundEnds (l : Nat) (rec : LoopState → Option Code → Loop) (R : Ending → World → Prop) : Exit → Act → World → Prop
  | .normal, _, W => W.heap[l]? = some (.loop (rec .busy none)) ∧ R (.returned (.bool true)) (W.putObj l (.loop (rec .ready none)))
  | .ret, _, W => W.heap[l]? = some (.loop (rec .busy none)) ∧ R (.returned (.bool false)) (W.putObj l (.loop (rec .done (some .ret))))
  | _, _, _ => False
/-- A call of yield, out of the walks of the loop's own two codes. -/
theorem yield_round {P : Program} {n l D : Nat} {fn : FuncId} {tmps : Array Value} {ps : Array Tmp} {assign body : Code} {rec : LoopState → Option Code → Loop} (hrec : rec = fun st pe => { state := st, pending := pe, fn, tmps, params := ps, assign, body, defers := D })
    {W : World} {R : Ending → World → Prop} (hl : W.heap[l]? = some (.loop (rec .ready none))) {xs : Array Value} (hx : xs.size = ps.size)
    (h : assign.wpIn (Fence.wide.inRound l) n P (Exit.then (fun a₁ w₁ => w₁.heap[l]? = some (.loop (rec .ready none)) ∧ body.wpIn (Fence.wide.inRound l) n P (roundEnds l rec R) a₁ (w₁.putObj l (.loop (rec .busy none)))) (fun _ _ _ => False)) { tmps := (ps.zip xs).foldl (fun t (p, v) => t.setIfInBounds p v) tmps, defers := [] } W) :
    YieldAt Fence.wide n P l xs W R := by
  have hy := run_yield (P := P) (args := xs) hl (by rw [hrec]; exact hx)
  rw [hrec] at hy
  refine ⟨fn, _, assign, body, hy, roundIn_of_wpIn trivial (wpIn_mono h ?_)⟩
  rintro e a w1 hp
  cases e with
  | normal =>
    obtain ⟨h1, h2⟩ := hp
    have hb := run_beginRound (P := P) h1 (by rw [hrec])
    have eb : ({ rec .ready none with state := .busy } : Loop) = rec .busy none := by rw [hrec]
    rw [eb] at hb
    refine ⟨_, hb, wpIn_mono h2 ?_⟩
    rintro e2 a2 w2 hq
    cases e2 with
    | normal =>
      have he := run_endRound (P := P) none hq.1
      have ee : ({ rec .busy none with state := if (none : Option Code).isNone then .ready else .done, pending := none } : Loop) = rec .ready none := by rw [hrec]; rfl
      rw [ee] at he
      exact ⟨_, _, he, hq.2⟩
    | ret =>
      have he := run_endRound (P := P) (some .ret) hq.1
      have ee : ({ rec .busy none with state := if (some Code.ret).isNone then .ready else .done, pending := some .ret } : Loop) = rec .done (some .ret) := by rw [hrec]; rfl
      rw [ee] at he
      exact ⟨_, _, he, hq.2⟩
    | _ => exact hq.elim
  | _ => exact hp.elim
/-- A loop over a closure, in no round: what the closure's call owes. -/
theorem range_by {P : Program} {n : Nat} {g : Operand} {ps : Array Tmp} {assign body : Code} {Q : Exit → Act → World → Prop} {a : Act} {w : World} {gf : Nat} {lb : Array Value} (hg : a.eval g = .func (.func gf) #[] lb)
    (eg : ∀ args w, (callFunc gf args).run P w = .ok (.enter gf args) w)
    (h : ∀ (fn : FuncId) (rec : LoopState → Option Code → Loop) (W1 : World), rec = (fun st pe => { state := st, pending := pe, fn, tmps := a.tmps, params := ps, assign, body, defers := w.heap.size }) → W1 = (w.alloc (.deferred (some []))).alloc (.loop (rec .ready none)) →
      CallsIn Fence.wide (n - 1) P gf (#[.func (.yield (w.heap.size + 1)) #[] #[]] ++ lb) W1 fun e W' => (∃ v, e = .returned v) ∧
        ((W'.heap[w.heap.size + 1]? = some (.loop (rec .ready none)) ∧ Q .normal { a with defers := { target := .collected w.heap.size, args := #[] } :: a.defers } (W'.putObj (w.heap.size + 1) (.loop (rec .exhausted none)))) ∨
         (W'.heap[w.heap.size + 1]? = some (.loop (rec .done (some .ret))) ∧ Code.ret.wpIn Fence.wide n P Q { a with defers := { target := .collected w.heap.size, args := #[] } :: a.defers } (W'.putObj (w.heap.size + 1) (.loop (rec .exhausted (some .ret))))))) :
    (Code.rangeFunc g ps assign body).wpIn Fence.wide n P Q a w := by
  refine wpIn_rangeFunc ?_
  intro fn hfn
  obtain ⟨rec, hrec⟩ : ∃ rec : LoopState → Option Code → Loop, rec = fun st pe => { state := st, pending := pe, fn, tmps := a.tmps, params := ps, assign, body, defers := w.heap.size } := ⟨_, rfl⟩
  refine ⟨w.heap.size + 1, [{ target := .collected w.heap.size, args := #[] }], (w.alloc (.deferred (some []))).alloc (.loop (rec .ready none)), { target := .fn (.func gf) lb, args := #[.func (.yield (w.heap.size + 1)) #[] #[]] }, (w.alloc (.deferred (some []))).alloc (.loop (rec .ready none)), gf,
    #[.func (.yield (w.heap.size + 1)) #[] #[]] ++ lb, (w.alloc (.deferred (some []))).alloc (.loop (rec .ready none)), ?_, ?_, ?_, ?_, (fun hd => by cases hd), ?_⟩
  · rw [hrec]; exact run_enterLoop_outer _ _ _ _ _
  · simp only [resolve, hg]
    simp [go_sem]
  · intro f' hf'; trivial
  · simp [invoke, go_sem, eg]
  · refine (h fn rec _ hrec rfl).mono ?_
    rintro e W' ⟨⟨v, rfl⟩, ⟨h1, h2⟩ | ⟨h1, h2⟩⟩
    · have he := run_endLoop (P := P) h1 (by rw [hrec]; simp)
      rw [hrec] at he h2
      exact ⟨none, _, he, h2⟩
    · have he := run_endLoop (P := P) h1 (by rw [hrec]; simp)
      rw [hrec] at he h2
      exact ⟨some .ret, _, he, h2⟩
theorem heap_from {B k : Nat} {o : Obj} (hk : k < B) : OwnFrom B (fun (_ : Unit) W => W.heap[k]? = some o) :=
  fun s X Y row hs hg hr => (hg.block k (Array.getElem?_eq_some_iff.1 hs).1 (fun e => by have := (hr k e.symm).1; omega)).trans hs

/-- What it finds. -/
def lastF (l : List S51) (a : Int) : Int × Bool := match l.reverse.find? (fun x => x.f0 == a) with | some x => (x.f1, true) | none => (0, false)
def buf_Last.f (l0 : List S51) (a1 : Int) : Option (Int × Bool) := if l0.length ≤ 1000000 then some (lastF l0 a1) else none

theorem backs_snd (zs : List S51) : (backs zs zs.length).map Prod.snd = zs.reverse := by
  unfold backs
  rw [List.map_map]
  apply List.ext_getElem
  · simp
  · intro i h1 h2
    simp only [List.length_map, List.length_range] at h1
    simp only [List.getElem_map, List.getElem_range, Function.comp, List.getElem_reverse]
    unfold rd_T51
    rw [List.getD_eq_getElem?_getD, show ((zs.length : Int) - 1 - (i : Int)).toNat = zs.length - 1 - i by omega, List.getElem?_eq_getElem (by omega)]
    rfl
theorem backs_prefix (zs : List S51) {k : Nat} (hk : k ≤ zs.length) : ∃ t, backs zs zs.length = backs zs k ++ t := by
  unfold backs
  refine ⟨((List.range zs.length).drop k).map (fun (j : Nat) => ((zs.length : Int) - 1 - (j : Int), rd_T51 zs ((zs.length : Int) - 1 - (j : Int)))), ?_⟩
  rw [← List.map_append]
  congr 1
  rw [show List.range k = (List.range zs.length).take k by rw [List.take_range, Nat.min_eq_left hk], List.take_append_drop]
theorem last_none {zs : List S51} {a : Int} (h : ∀ p ∈ backs zs zs.length, ¬ p.2.f0 = a) : lastF zs a = (0, false) := by
  unfold lastF
  have : zs.reverse.find? (fun x => x.f0 == a) = none := by
    rw [List.find?_eq_none, ← backs_snd]
    intro x hx
    obtain ⟨p, hp, rfl⟩ := List.mem_map.1 hx
    simpa using h p hp
  rw [this]
theorem last_some {zs : List S51} {a : Int} {k : Nat} {ini : List (Int × S51)} {x : Int × S51} (hk : k ≤ zs.length) (e : backs zs k = ini ++ [x]) (hi : ∀ p ∈ ini, ¬ p.2.f0 = a) (hx : x.2.f0 = a) : lastF zs a = (x.2.f1, true) := by
  unfold lastF
  obtain ⟨t, ht⟩ := backs_prefix zs hk
  have : zs.reverse.find? (fun x => x.f0 == a) = some x.2 := by
    rw [← backs_snd, ht, e, List.map_append, List.map_append, List.append_assoc, List.find?_append]
    have h0 : (ini.map Prod.snd).find? (fun x => x.f0 == a) = none := by
      rw [List.find?_eq_none]
      intro y hy
      obtain ⟨p, hp, rfl⟩ := List.mem_map.1 hy
      simpa using hi p hp
    rw [h0]
    simp [hx]
  rw [this]

set_option maxRecDepth 100000 in
set_option maxHeartbeats 4000000 in
theorem buf_Last.calls (A0 : Option Addr) (c0 : Nat) (l0 : List S51) (a1 : Int) (r1 : Int) (r2 : Bool) (w : World) (hr0 : Kd.C k51 w A0 l0.length l0) (hc0 : l0.length ≤ c0) (h : buf_Last.f l0 a1 = some (r1, r2)) :
    Calls Try.prog 31 #[.slice A0 l0.length c0, .int .i64 a1] w fun e w' => e = .returned (.tuple #[.int .i64 r1, .bool r2]) ∧ Below w.heap.size w w' := by
  unfold buf_Last.f at h
  by_cases hlen : l0.length ≤ 1000000
  · rw [if_pos hlen] at h
    have hF := Option.some.inj h
    clear h
    have hu := Try.underlying51
    refine (callsIn_wide (n := 20)).1 ?_
    refine callsIn_of_wp_marks Try.func31 rfl trivial ?_ rfl
    simp only [Try.ntmps31, List.size_toArray, List.length_cons, List.length_nil, Nat.reduceAdd, Nat.reduceSub, Array.replicate_succ, Array.replicate_zero, List.push_toArray, List.append_toArray, List.nil_append, List.cons_append]
    gi_wp2_with (refine ⟨trivial, ?_⟩; gi_at_call 51; refine (back_in 19 _ _ _ _).mono ?_; rintro e w' ⟨rfl, rfl⟩)
    have b3 := (((Boxed.new w 3 (.int .i64 a1)).alloc (.cells #[.int .i64 0] 3)).alloc (.cells #[.bool false] 4)).alloc (.cells #[.slice A0 l0.length c0] 77)
    have b4 := ((Boxed.new (w.alloc (.cells #[.int .i64 a1] 3)) 3 (.int .i64 0)).alloc (.cells #[.bool false] 4)).alloc (.cells #[.slice A0 l0.length c0] 77)
    have b5 := (Boxed.new ((w.alloc (.cells #[.int .i64 a1] 3)).alloc (.cells #[.int .i64 0] 3)) 4 (.bool false)).alloc (.cells #[.slice A0 l0.length c0] 77)
    have b7 := Boxed.new (((w.alloc (.cells #[.int .i64 a1] 3)).alloc (.cells #[.int .i64 0] 3)).alloc (.cells #[.bool false] 4)) 77 (.slice A0 l0.length c0)
    have hB0 : Below w.heap.size w ((((w.alloc (.cells #[.int .i64 a1] 3)).alloc (.cells #[.int .i64 0] 3)).alloc (.cells #[.bool false] 4)).alloc (.cells #[.slice A0 l0.length c0] 77)) := ((((Below.refl _ w).alloc (Nat.le_refl _) _).alloc (by simp) _).alloc (by simp; omega) _).alloc (by simp; omega) _
    have hsz : ((((w.alloc (.cells #[.int .i64 a1] 3)).alloc (.cells #[.int .i64 0] 3)).alloc (.cells #[.bool false] 4)).alloc (.cells #[.slice A0 l0.length c0] 77)).heap.size = w.heap.size + 4 := by simp
    simp only [World.size_alloc] at b4 b5 b7
    obtain ⟨W0, hW0⟩ : ∃ W0, ((((w.alloc (.cells #[.int .i64 a1] 3)).alloc (.cells #[.int .i64 0] 3)).alloc (.cells #[.bool false] 4)).alloc (.cells #[.slice A0 l0.length c0] 77)) = W0 := ⟨_, rfl⟩
    rw [hW0] at b3 b4 b5 b7 hB0 hsz ⊢
    clear hW0
    refine range_by rfl (enters_of Try.func59 (by kernel_rfl) rfl) ?_
    intro fn rec W1 hrec hW1
    have hs1 : W1.heap.size = W0.heap.size + 2 := by rw [hW1]; simp
    have hl1 : W1.heap[W0.heap.size + 1]? = some (.loop (rec .ready none)) := by
      rw [hW1]; have := World.alloc_heap_new (W0.alloc (.deferred (some []))) (.loop (rec .ready none)); rwa [World.size_alloc] at this
    have hd1 : W1.heap[W0.heap.size]? = some (.deferred (some [])) := by
      rw [hW1]; exact (Below.heap_alloc _ _ _ (by simp)).trans (World.alloc_heap_new W0 _)
    have hB1 : Below W0.heap.size W0 W1 := by rw [hW1]; exact ((Below.refl _ W0).alloc (Nat.le_refl _) _).alloc (by simp) _
    replace b3 : Boxed W1 _ _ _ := (hB1.block _ b3.lt).trans b3
    replace b4 : Boxed W1 _ _ _ := (hB1.block _ b4.lt).trans b4
    replace b5 : Boxed W1 _ _ _ := (hB1.block _ b5.lt).trans b5
    replace b7 : Boxed W1 _ _ _ := (hB1.block _ b7.lt).trans b7
    have hBw : Below w.heap.size w W1 := hB0.trans (hB1.mono hB0.size)
    clear hW1 hB1
    have hround : ∀ (x : S51) (W : World), ((W.heap[W0.heap.size + 1]? = some (.loop (rec .ready none)) ∧ W.heap[W0.heap.size]? = some (.deferred (some []))) ∧ ((Boxed W w.heap.size 3 (.int .i64 a1) ∧ Boxed W (w.heap.size + 1) 3 (.int .i64 0)) ∧ Boxed W (w.heap.size + 1 + 1) 4 (.bool false)) ∧ Below w.heap.size w W) →
        YieldAt Fence.wide 0 Try.prog (W0.heap.size + 1) #[.agg #[.int .i64 x.f0, .int .i64 x.f1]] W fun e W' =>
          (e = .returned (.bool true) ∧ ¬ x.f0 = a1 ∧ ((W'.heap[W0.heap.size + 1]? = some (.loop (rec .ready none)) ∧ W'.heap[W0.heap.size]? = some (.deferred (some []))) ∧ ((Boxed W' w.heap.size 3 (.int .i64 a1) ∧ Boxed W' (w.heap.size + 1) 3 (.int .i64 0)) ∧ Boxed W' (w.heap.size + 1 + 1) 4 (.bool false)) ∧ Below w.heap.size w W') ∧ Below W.heap.size W W') ∨
          (e = .returned (.bool false) ∧ x.f0 = a1 ∧ ((W'.heap[W0.heap.size + 1]? = some (.loop (rec .done (some .ret))) ∧ W'.heap[W0.heap.size]? = some (.deferred (some []))) ∧ (Boxed W' (w.heap.size + 1) 3 (.int .i64 x.f1) ∧ Boxed W' (w.heap.size + 1 + 1) 4 (.bool true)) ∧ Below w.heap.size w W') ∧ KeepsFrom W1.heap.size W W') := by
      rintro x W ⟨⟨hl, hd⟩, ⟨⟨c3, c4⟩, c5⟩, hb⟩
      refine yield_round hrec hl rfl ?_
      have hlt := (Array.getElem?_eq_some_iff.1 hl).1
      have HZ := Aside0.mk hsz
      have HZ1 := Aside0.mk hs1
      clear hrec hsz hs1 hl1 hd1 b3 b4 b5 b7 hBw hB0
      generalize W0.heap.size = D at hl hd hlt HZ HZ1 ⊢
      gi_wp2
      refine ⟨(Below.heap_alloc W _ _ hlt).trans hl, ?_⟩
      obtain ⟨Wb, hWb⟩ : ∃ Wb, (W.alloc (.cells #[.int .i64 x.f0, .int .i64 x.f1] 51)).putObj (D + 1) (.loop (rec .busy none)) = Wb := ⟨_, rfl⟩
      rw [hWb]
      have eb : ∀ k, k ≠ D + 1 → k < W.heap.size → Wb.heap[k]? = W.heap[k]? := fun k h1 h2 => by rw [← hWb, World.putObj_heap_other h1]; exact Below.heap_alloc W _ _ h2
      have lb : Wb.heap[D + 1]? = some (.loop (rec .busy none)) := by rw [← hWb]; exact World.putObj_heap_same (by simp; omega)
      have xb : Wb.heap[W.heap.size]? = some (.cells #[.int .i64 x.f0, .int .i64 x.f1] 51 (0, 0)) := by rw [← hWb, World.putObj_heap_other (by omega)]; exact World.alloc_heap_new W _
      have sb : Wb.heap.size = W.heap.size + 1 := by rw [← hWb]; simp [World.putObj]
      have ob : Wb.os = W.os ∧ Wb.tape = W.tape ∧ Wb.output = W.output := by rw [← hWb]; exact ⟨rfl, rfl, rfl⟩
      clear hWb
      have d3 : Boxed Wb w.heap.size 3 (.int .i64 a1) := (eb _ (by have := HZ.out; omega) c3.lt).trans c3
      have d4 : Boxed Wb (w.heap.size + 1) 3 (.int .i64 0) := (eb _ (by have := HZ.out; omega) c4.lt).trans c4
      have d5 : Boxed Wb (w.heap.size + 1 + 1) 4 (.bool false) := (eb _ (by have := HZ.out; omega) c5.lt).trans c5
      have dd : Wb.heap[D]? = some (.deferred (some [])) := (eb _ (by omega) (by omega)).trans hd
      have x0 : Wb.cell? ⟨W.heap.size, 0, none⟩ = some (.int .i64 x.f0) := (blk_cell xb 0).trans rfl
      have x1 : Wb.cell? ⟨W.heap.size, 1, none⟩ = some (.int .i64 x.f1) := (blk_cell xb 1).trans rfl
      have e3 := d3.cell
      have e4 := d4.cell
      have e5 := d5.cell
      have g4 := d4.frozen
      have g5 := d5.frozen
      have hbW : Below w.heap.size w W := hb
      by_cases c : x.f0 = a1
      · have hc : (x.f0 == a1) = true := by simpa using c
        gi_wp2
        have m4 : Boxed (Wb.setCell ⟨w.heap.size + 1, 0, none⟩ (.int .i64 x.f1)) (w.heap.size + 1) 3 (.int .i64 x.f1) := d4.set _
        have m5 : Boxed ((Wb.setCell ⟨w.heap.size + 1, 0, none⟩ (.int .i64 x.f1)).setCell ⟨w.heap.size + 1 + 1, 0, none⟩ (.bool true)) (w.heap.size + 1 + 1) 4 (.bool true) := (d5.other (by omega) _).set _
        have m4' := m4.other (B' := w.heap.size + 1 + 1) (by omega) (.bool true)
        obtain ⟨Wd, hWd⟩ : ∃ Wd, ((Wb.setCell ⟨w.heap.size + 1, 0, none⟩ (.int .i64 x.f1)).setCell ⟨w.heap.size + 1 + 1, 0, none⟩ (.bool true)) = Wd := ⟨_, rfl⟩
        have ed : ∀ k, k ≠ w.heap.size + 1 → k ≠ w.heap.size + 1 + 1 → Wd.heap[k]? = Wb.heap[k]? := fun k h1 h2 => by rw [← hWd]; exact (Below.heap_setCell _ _ _ _ h2).trans (Below.heap_setCell _ _ _ _ h1)
        have sd : Wd.heap.size = Wb.heap.size := by rw [← hWd]; simp
        have od : Below 0 Wb Wd := by rw [← hWd]; exact ((Below.refl 0 Wb).setCell (p := ⟨w.heap.size + 1, 0, none⟩) (Nat.zero_le _) _).setCell (p := ⟨w.heap.size + 1 + 1, 0, none⟩) (Nat.zero_le _) _
        rw [hWd] at m5 m4' ⊢
        have ld : Wd.heap[D + 1]? = some (.loop (rec .busy none)) := (ed _ (by have := HZ.out; omega) (by have := HZ.out; omega)).trans lb
        refine ⟨ld, .inr ⟨rfl, c, ⟨⟨World.putObj_heap_same (Array.getElem?_eq_some_iff.1 ld).1, ?_⟩, ⟨?_, ?_⟩, ?_⟩, ?_⟩⟩
        · exact (World.putObj_heap_other (by omega)).trans ((ed _ (by have := HZ.out; omega) (by have := HZ.out; omega)).trans dd)
        · exact (World.putObj_heap_other (by have := HZ.out; omega)).trans m4'
        · exact (World.putObj_heap_other (by have := HZ.out; omega)).trans m5
        · refine ⟨od.os.trans (ob.1.trans hbW.os), od.tape.trans (ob.2.1.trans hbW.tape), od.output.trans (ob.2.2.trans hbW.output), by have := hbW.size; simp [World.putObj]; omega, fun k hk => ?_⟩
          exact (World.putObj_heap_other (by have := HZ.out; omega)).trans ((ed k (by omega) (by omega)).trans ((eb k (by have := HZ.out; omega) (by have := hbW.size; omega)).trans (hbW.block k hk)))
        · refine ⟨by simp [World.putObj]; omega, fun k o hk h1 _ => ?_⟩
          have hkW := (Array.getElem?_eq_some_iff.1 h1).1
          have z := HZ.out
          have z1 := HZ1.out
          exact (World.putObj_heap_other (by omega)).trans ((ed k (by omega) (by omega)).trans ((eb k (by omega) hkW).trans h1))
      · have hc : (x.f0 == a1) = false := by simpa using c
        gi_wp2
        have er : ∀ k, k < W.heap.size → (Wb.putObj (D + 1) (.loop (rec .ready none))).heap[k]? = W.heap[k]? := fun k hk => by
          by_cases e : k = D + 1
          · subst e; rw [World.putObj_heap_same (Array.getElem?_eq_some_iff.1 lb).1, hl]
          · exact (World.putObj_heap_other e).trans (eb k e hk)
        have hBr : Below W.heap.size W (Wb.putObj (D + 1) (.loop (rec .ready none))) := ⟨ob.1, ob.2.1, ob.2.2, by simp [World.putObj]; omega, er⟩
        exact ⟨lb, .inl ⟨rfl, c, ⟨⟨(er _ hlt).trans hl, (er _ (by omega)).trans hd⟩, ⟨⟨(er _ c3.lt).trans c3, (er _ c4.lt).trans c4⟩, (er _ c5.lt).trans c5⟩, hb.trans (hBr.mono hb.size)⟩, hBr⟩⟩
    refine (back1_in w W1 A0 c0 (w.heap.size + 1 + 1 + 1) (W0.heap.size + 1) l0 hlen hr0 (fun x => x.f0 = a1)
      (fun W => (W.heap[W0.heap.size + 1]? = some (.loop (rec .ready none)) ∧ W.heap[W0.heap.size]? = some (.deferred (some []))) ∧ ((Boxed W w.heap.size 3 (.int .i64 a1) ∧ Boxed W (w.heap.size + 1) 3 (.int .i64 0)) ∧ Boxed W (w.heap.size + 1 + 1) 4 (.bool false)) ∧ Below w.heap.size w W)
      (fun x W => (W.heap[W0.heap.size + 1]? = some (.loop (rec .done (some .ret))) ∧ W.heap[W0.heap.size]? = some (.deferred (some []))) ∧ (Boxed W (w.heap.size + 1) 3 (.int .i64 x.f1) ∧ Boxed W (w.heap.size + 1 + 1) 4 (.bool true)) ∧ Below w.heap.size w W)
      (fun W h => h.2.2) b7 (by omega)
      (OwnFrom.and (OwnFrom.and (heap_from (by omega)) (heap_from (by omega))) (OwnFrom.and (OwnFrom.and (OwnFrom.and (heap_from (by omega)) (heap_from (by omega))) (heap_from (by omega))) (ownFrom_below (Nat.le_refl _) (by omega))))
      (fun x => OwnFrom.and (OwnFrom.and (heap_from (by omega)) (heap_from (by omega))) (OwnFrom.and (OwnFrom.and (heap_from (by omega)) (heap_from (by omega))) (ownFrom_below (Nat.le_refl _) (by omega))))
      hround ⟨⟨hl1, hd1⟩, ⟨⟨b3, b4⟩, b5⟩, hBw⟩ 10).mono ?_
    rintro e W' ⟨hv, ⟨hP, ⟨hl, hd⟩, ⟨⟨c3, c4⟩, c5⟩, hb⟩ | ⟨k, ini, x, hk, e1, e2, e3, ⟨hl, hd⟩, ⟨c4, c5⟩, hb⟩⟩
    · refine ⟨hv, .inl ⟨hl, ?_⟩⟩
      rw [last_none hP] at hF
      obtain ⟨rfl, rfl⟩ := Prod.mk.inj hF
      obtain ⟨We, hWe⟩ : ∃ We, W'.putObj (W0.heap.size + 1) (.loop (rec .exhausted none)) = We := ⟨_, rfl⟩
      have ee : ∀ k, k ≠ W0.heap.size + 1 → We.heap[k]? = W'.heap[k]? := fun k hk => by rw [← hWe]; exact World.putObj_heap_other hk
      replace c4 : Boxed We _ _ _ := (ee _ (by omega)).trans c4
      replace c5 : Boxed We _ _ _ := (ee _ (by omega)).trans c5
      replace hd := (ee _ (by omega)).trans hd
      have hbe : Below w.heap.size w We := by rw [← hWe]; exact hb.trans (belowK_b (w := w) (Nat.le_refl _) W' (W0.heap.size + 1) _ _ (by omega) hl rfl rfl)
      rw [hWe]
      clear hWe ee hl hb hrec hround hl1 hd1 b3 b4 b5 b7 hBw
      generalize W0.heap.size = D at hsz hd ⊢
      have e4 := c4.cell
      have e5 := c5.cell
      have g4 := c4.frozen
      have g5 := c5.frozen
      have HZ := Aside0.mk hsz
      clear hsz
      gi_wp2
      have m4 : Boxed (We.setCell ⟨w.heap.size + 1, 0, none⟩ (.int .i64 0)) (w.heap.size + 1) 3 (.int .i64 0) := c4.set _
      have m5 : Boxed ((We.setCell ⟨w.heap.size + 1, 0, none⟩ (.int .i64 0)).setCell ⟨w.heap.size + 1 + 1, 0, none⟩ (.bool false)) (w.heap.size + 1 + 1) 4 (.bool false) := (c5.other (by omega) _).set _
      have m4' := m4.other (B' := w.heap.size + 1 + 1) (by omega) (.bool false)
      have hK' := ((KeepsOthers.setCell We ⟨w.heap.size + 1, 0, none⟩ (.int .i64 0)).trans (KeepsOthers.setCell _ ⟨w.heap.size + 1 + 1, 0, none⟩ (.bool false))).same D _ hd rfl
      have hbf : Below w.heap.size w ((We.setCell ⟨w.heap.size + 1, 0, none⟩ (.int .i64 0)).setCell ⟨w.heap.size + 1 + 1, 0, none⟩ (.bool false)) := (hbe.setCell (p := ⟨w.heap.size + 1, 0, none⟩) (by simp) _).setCell (p := ⟨w.heap.size + 1 + 1, 0, none⟩) (by simp; omega) _
      refine ⟨by simp, .inl ⟨_, _, rfl, run_takeDeferred hK', ?_⟩⟩
      have hk5 := cell_kept m4'.cell (grownBy_putObj' _ D (.deferred none)) (fun r e => by cases e; exact ⟨_, hK', rfl⟩)
      have hb5 := cell_kept m5.cell (grownBy_putObj' _ D (.deferred none)) (fun r e => by cases e; exact ⟨_, hK', rfl⟩)
      refine ⟨.tuple #[.int .i64 0, .bool false], ?_, rfl, hbf.trans (belowK_b (w := w) (Nat.le_refl _) _ D _ _ (by have := HZ.out; omega) hK' rfl rfl)⟩
      simp [results, Try.f31, go_sem, hk5, hb5]
    · refine ⟨hv, .inr ⟨hl, ?_⟩⟩
      rw [last_some hk e1 e2 e3] at hF
      obtain ⟨rfl, rfl⟩ := Prod.mk.inj hF
      obtain ⟨We, hWe⟩ : ∃ We, W'.putObj (W0.heap.size + 1) (.loop (rec .exhausted (some .ret))) = We := ⟨_, rfl⟩
      have ee : ∀ k, k ≠ W0.heap.size + 1 → We.heap[k]? = W'.heap[k]? := fun k hk => by rw [← hWe]; exact World.putObj_heap_other hk
      replace c4 : Boxed We _ _ _ := (ee _ (by omega)).trans c4
      replace c5 : Boxed We _ _ _ := (ee _ (by omega)).trans c5
      replace hd := (ee _ (by omega)).trans hd
      have hbe : Below w.heap.size w We := by rw [← hWe]; exact hb.trans (belowK_b (w := w) (Nat.le_refl _) W' (W0.heap.size + 1) _ _ (by omega) hl rfl rfl)
      rw [hWe]
      clear hWe ee hl hb hrec hround hl1 hd1 b3 b4 b5 b7 hBw
      generalize W0.heap.size = D at hsz hd ⊢
      have HZ := Aside0.mk hsz
      clear hsz
      gi_wp2
      refine ⟨by simp, .inl ⟨_, _, rfl, run_takeDeferred hd, ?_⟩⟩
      have hk5 := cell_kept c4.cell (grownBy_putObj' _ D (.deferred none)) (fun r e => by cases e; exact ⟨_, hd, rfl⟩)
      have hb5 := cell_kept c5.cell (grownBy_putObj' _ D (.deferred none)) (fun r e => by cases e; exact ⟨_, hd, rfl⟩)
      refine ⟨.tuple #[.int .i64 x.2.f1, .bool true], ?_, rfl, hbe.trans (belowK_b (w := w) (Nat.le_refl _) _ D _ _ (by have := HZ.out; omega) hd rfl rfl)⟩
      simp [results, Try.f31, go_sem, hk5, hb5]
  · rw [if_neg hlen] at h; exact absurd h (by simp)
end Go.Proofs.Ytpaifpnnjflnfaa.Print
