/- fencepostlaw10.head answers true. -/
import Derived.Test.YtdliojcpnkggnaaHScStep
import Derived.Test.YtdliojcpnkggnaaHScBegin
import Derived.Test.YtdliojcpnkggnaaHScRight
import Derived.Test.YtdliojcpnkggnaaPrint2
namespace Go.Proofs.Ytdliojcpnkggnaa.Print
open Go.RowKit Go.Proofs.YtdliojcpnkggnaaW.PrintWords Go.Proofs.YtdliojcpnkggnaaW.PrintLast Go.Proofs.YtdliojcpnkggnaaW.PrintMore
set_option linter.unusedVariables false
set_option linter.unusedSimpArgs false
def hdRow : List S39 := [⟨1, 2, 0, 7, 0⟩, ⟨5, 2, 0, 0, 0⟩, ⟨7, 2, 0, 5, 0⟩, ⟨9, 0, 0, 0, 5⟩, ⟨4, 0, 0, 9, 0⟩]
/-- What the four steps make. -/
def hdSt : Nat → List Int × List S45
  | 0 => ([5], [th0])
  | 1 => ([5], [⟨1, [0, 0, 7, 0], false, []⟩])
  | 2 => ([7], [⟨2, [0, 0, 5, 0], false, []⟩])
  | 3 => ([7], [⟨3, [0, 0, 5, 0], true, []⟩])
  | _ => ([7], [⟨5, [0, 0, 5, 0], true, []⟩])
theorem hd_step : ∀ i : Nat, i < 4 → sc_Step.f [5] [hdRow] (hdSt i).1 (hdSt i).2 0 = some ((hdSt (i + 1)).1, (hdSt (i + 1)).2, true)
  | 0, _ => by rfl
  | 1, _ => by rfl
  | 2, _ => by rfl
  | 3, _ => by rfl
theorem hd_no : sc_Step.f [5] [hdRow] (hdSt 4).1 (hdSt 4).2 0 = some ((hdSt 4).1, (hdSt 4).2, false) := by rfl
theorem hd_none : sc_Step.f [5] [hdRow] (hdSt 4).1 (hdSt 4).2 1 = some ((hdSt 4).1, (hdSt 4).2, false) := by rfl
theorem hd_begin : sc_Begin.f [5] [hdRow] = some ((hdSt 0).1, (hdSt 0).2) := by rfl
theorem hd_right : sc_Right.f [5] [hdRow] (hdSt 0).1 (hdSt 0).2 = some true := by rfl
theorem hd_wrong : sc_Right.f [5] [hdRow] [] [] = some false := by rfl
theorem hd_mem : fencepostref07_SameInts.f 3 [7] [7] = some true := by kernel_rfl
theorem hd_regs : fencepostref07_SameInts.f 6 [0, 0, 5, 0] [0, 0, 5, 0] = some true := by kernel_rfl
theorem C_ints {W : World} {b t : Nat} (xs : List Int) (h : W.heap[b]? = some (.cells (xs.map (Value.int .i64)).toArray t (0, 0))) (hn : xs.length ≤ 9223372036854775807) : Kd.C (Kd.int .i64) W (some ⟨b, 0, none⟩) xs.length xs :=
  ⟨rfl, hn, fun _ => ⟨_, rfl, fun j p hj => ⟨[.int .i64 p], rfl, rfl, fun i u hu => by
    cases i with
    | zero =>
      obtain rfl := Option.some.inj hu
      have := blk_cell h j
      simp only [List.getElem?_toArray, List.getElem?_map, hj, Option.map_some] at this
      rw [add_at, Nat.zero_add]
      show W.cell? ⟨b, j * 1 + 0, none⟩ = _
      rw [Nat.mul_one, Nat.add_zero]
      exact this
    | succ i => simp at hu⟩⟩⟩
theorem C_hdRow {W : World} {b t : Nat} (h : W.heap[b]? = some (.cells #[.int .i64 1, .int .i64 2, .int .i64 0, .int .i64 7, .int .i64 0, .int .i64 5, .int .i64 2, .int .i64 0, .int .i64 0, .int .i64 0, .int .i64 7, .int .i64 2, .int .i64 0, .int .i64 5, .int .i64 0, .int .i64 9, .int .i64 0, .int .i64 0, .int .i64 0, .int .i64 5, .int .i64 4, .int .i64 0, .int .i64 0, .int .i64 9, .int .i64 0] t (0, 0))) : Kd.C k39 W (some ⟨b, 0, none⟩) 5 hdRow := by
  refine ⟨rfl, by decide, fun _ => ⟨_, rfl, fun j p hj => ⟨[.int .i64 p.f0, .int .i64 p.f1, .int .i64 p.f2, .int .i64 p.f3, .int .i64 p.f4], rfl, ?_, fun i u hu => ?_⟩⟩⟩
  · exact ⟨[.int .i64 p.f0], [.int .i64 p.f1, .int .i64 p.f2, .int .i64 p.f3, .int .i64 p.f4], rfl, rfl, ⟨[.int .i64 p.f1], [.int .i64 p.f2, .int .i64 p.f3, .int .i64 p.f4], rfl, rfl, ⟨[.int .i64 p.f2], [.int .i64 p.f3, .int .i64 p.f4], rfl, rfl, ⟨[.int .i64 p.f3], [.int .i64 p.f4], rfl, rfl, rfl⟩⟩⟩⟩
  · rw [add_at, Nat.zero_add]
    show W.cell? ⟨b, j * 5 + i, none⟩ = _
    rw [blk_cell h]
    have hj5 : j < 5 := (List.getElem?_eq_some_iff.1 hj).1
    have hi5 : i < 5 := (List.getElem?_eq_some_iff.1 hu).1
    rcases j with _ | _ | _ | _ | _ | j
    all_goals first | omega | (obtain rfl := Option.some.inj hj; rcases i with _ | _ | _ | _ | _ | i <;> first | omega | exact hu)
theorem C_hdThr {W : World} {b b2 t : Nat} (h : W.heap[b]? = some (.cells #[.slice (some ⟨b2, 0, none⟩) 5 5] t (0, 0))) (hC : Kd.C k39 W (some ⟨b2, 0, none⟩) 5 hdRow) : Kd.C (Kd.slice 39 k39) W (some ⟨b, 0, none⟩) 1 [hdRow] := by
  refine ⟨rfl, by decide, fun _ => ⟨_, rfl, fun j p hj => ⟨[.slice (some ⟨b2, 0, none⟩) 5 5], rfl, ?_, fun i u hu => ?_⟩⟩⟩
  · have hj1 : j < 1 := (List.getElem?_eq_some_iff.1 hj).1
    obtain rfl : j = 0 := by omega
    obtain rfl := Option.some.inj hj
    exact ⟨_, _, rfl, Nat.le_refl _, hC⟩
  · have hj1 : j < 1 := (List.getElem?_eq_some_iff.1 hj).1
    have hi1 : i < 1 := (List.getElem?_eq_some_iff.1 hu).1
    obtain rfl : j = 0 := by omega
    obtain rfl : i = 0 := by omega
    rw [add_at, Nat.zero_add]
    show W.cell? ⟨b, 0, none⟩ = _
    rw [blk_cell h]
    exact hu
/-- The state behind i steps, in the block gS. -/
structure HdI (W1 : World) (gS i : Nat) (Am : Option Addr) (cm : Nat) (At : Option Addr) (ct : Nat) (W : World) : Prop where
  bS : W.heap[gS]? = some (.cells #[.slice Am 1 cm, .slice At 1 ct] 28 (0, 0))
  vm : Kd.V (Kd.int .i64) 3 W 0 (fun k => k ≠ gS) (.slice Am 1 cm) (hdSt i).1
  vt : Kd.V k45 45 W 0 (fun k => k ≠ gS) (.slice At 1 ct) (hdSt i).2
  bel : Below W1.heap.size W1 W
theorem HdI.below {W1 W W' : World} {gS i cm ct : Nat} {Am At : Option Addr} (h : HdI W1 gS i Am cm At ct W) (hb : Below W.heap.size W W') : HdI W1 gS i Am cm At ct W' := ⟨blk_below h.bS hb, Kd.V_below h.vm hb, Kd.V_below h.vt hb, below_step h.bel hb⟩
theorem HdI.cm {W1 W : World} {gS i cm ct : Nat} {Am At : Option Addr} (h : HdI W1 gS i Am cm At ct W) : Kd.C (Kd.int .i64) W Am (hdSt i).1.length (hdSt i).1 := (Kd.V_reads' h.vm).2.2
theorem HdI.ct {W1 W : World} {gS i cm ct : Nat} {Am At : Option Addr} (h : HdI W1 gS i Am cm At ct W) : Kd.C k45 W At (hdSt i).2.length (hdSt i).2 := (Kd.V_reads' h.vt).2.2
theorem HdI.lm {W1 W : World} {gS i cm ct : Nat} {Am At : Option Addr} (h : HdI W1 gS i Am cm At ct W) : (hdSt i).1.length ≤ cm := by have := Kd.V_reads' h.vm; omega
theorem HdI.lt {W1 W : World} {gS i cm ct : Nat} {Am At : Option Addr} (h : HdI W1 gS i Am cm At ct W) : (hdSt i).2.length ≤ ct := by have := Kd.V_reads' h.vt; omega
theorem HdI.el {W1 W : World} {gS i cm ct : Nat} {Am At : Option Addr} (h : HdI W1 gS i Am cm At ct W) (x : S45) (hx : (hdSt i).2 = [x]) (h4 : x.f1.length = 4) : ∃ (ad : Addr) (X1 : Option Addr) (d1 : Nat), At = some ad ∧ W.cell? ad = some (.int .i64 x.f0) ∧ W.cell? ⟨ad.block, ad.off + 1, none⟩ = some (.slice X1 4 d1) ∧ W.cell? ⟨ad.block, ad.off + 2, none⟩ = some (.bool x.f2) ∧ Kd.C (Kd.int .i64) W X1 4 x.f1 ∧ 4 ≤ d1 := by
  have hC := h.ct
  rw [hx] at hC
  obtain ⟨ad, X1, d1, X3, d3, e, h0, h1, h2, h3, g1, g2, g3, g4⟩ := at_T45 hC 0 (by omega) (by simp)
  have hr : rd_T45 [x] 0 = x := rfl
  rw [hr] at h0 h1 h2 g1 g2
  rw [h4] at h1 g1 g2
  exact ⟨ad, X1, d1, e, h0, h1, h2, g2, g1⟩
section
variable {W1 W : World} {gS i : Nat} {Am : Option Addr} {cm : Nat} {At : Option Addr} {ct : Nat} {A0 A1 : Option Addr}
theorem hdRight (hc0 : Kd.C (Kd.int .i64) W A0 [5].length [5]) (hc1 : Kd.C (Kd.slice 39 k39) W A1 1 [hdRow]) (h : HdI W1 gS 0 Am cm At ct W) :
    Calls Try.prog 12 #[.agg #[.slice A0 1 1, .slice A1 1 1], .agg #[.slice Am 1 cm, .slice At 1 ct]] W fun e w' => e = .returned (.bool true) ∧ Below W.heap.size W w' :=
  sc_Right.calls A0 1 [5] A1 1 [hdRow] Am cm (hdSt 0).1 At ct (hdSt 0).2 true W hc0 (Nat.le_refl _) hc1 (Nat.le_refl _) h.cm h.lm h.ct h.lt hd_right
theorem hdWrong (hc0 : Kd.C (Kd.int .i64) W A0 [5].length [5]) (hc1 : Kd.C (Kd.slice 39 k39) W A1 1 [hdRow]) :
    Calls Try.prog 12 #[.agg #[.slice A0 1 1, .slice A1 1 1], .agg #[.slice none 0 0, .slice none 0 0]] W fun e w' => e = .returned (.bool false) ∧ Below W.heap.size W w' :=
  sc_Right.calls A0 1 [5] A1 1 [hdRow] none 0 [] none 0 [] false W hc0 (Nat.le_refl _) hc1 (Nat.le_refl _) ⟨rfl, by decide, fun hh => absurd hh (by simp)⟩ (Nat.le_refl _) ⟨rfl, by decide, fun hh => absurd hh (by simp)⟩ (Nat.le_refl _) hd_wrong
/-- What a step of the head's hands back: slices, elsewhere than gS. -/
theorem hdStep (hc0 : Kd.C (Kd.int .i64) W A0 [5].length [5]) (hc1 : Kd.C (Kd.slice 39 k39) W A1 1 [hdRow]) (h : HdI W1 gS i Am cm At ct W) (t : Int) (j : Nat) (is : Bool) (hs : sc_Step.f [5] [hdRow] (hdSt i).1 (hdSt i).2 t = some ((hdSt j).1, (hdSt j).2, is)) (l1 : (hdSt i).1.length = 1) (l2 : (hdSt i).2.length = 1) (l3 : (hdSt j).1.length = 1) (l4 : (hdSt j).2.length = 1) :
    Calls Try.prog 17 #[.agg #[.slice A0 1 1, .slice A1 1 1], .agg #[.slice Am 1 cm, .slice At 1 ct], .int .i64 t] W fun e w' => ∃ (Bm : Option Addr) (dm : Nat) (Bt : Option Addr) (dt : Nat), e = .returned (.tuple #[.agg #[.slice Bm 1 dm, .slice Bt 1 dt], .bool is]) ∧ Kd.V (Kd.int .i64) 3 w' 0 (fun k => k ≠ gS) (.slice Bm 1 dm) (hdSt j).1 ∧ Kd.V k45 45 w' 0 (fun k => k ≠ gS) (.slice Bt 1 dt) (hdSt j).2 ∧ HdI W1 gS i Am cm At ct w' ∧ Below W.heap.size W w' := by
  have hlt := blk_lt h.bS
  have hne : ∀ k, W.heap.size ≤ k → k ≠ gS := fun k hk => by omega
  have hC := sc_Step.calls A0 1 [5] A1 1 [hdRow] Am cm (hdSt i).1 At ct (hdSt i).2 t (hdSt j).1 (hdSt j).2 is W hc0 (Nat.le_refl _) hc1 (Nat.le_refl _) h.cm h.lm h.ct h.lt hs
  rw [l1, l2] at hC
  refine hC.mono ?_
  rintro e w' ⟨v0, v1, rfl, g0, g1, hb⟩
  obtain ⟨Bm, dm, rfl⟩ := Kd.V_slice g0
  obtain ⟨Bt, dt, rfl⟩ := Kd.V_slice g1
  rw [l3] at g0 ⊢
  rw [l4] at g1 ⊢
  exact ⟨Bm, dm, Bt, dt, rfl, Kd.V_lower (Kd.V_mono g0 hne) (Nat.zero_le _), Kd.V_lower (Kd.V_mono g1 hne) (Nat.zero_le _), h.below hb, hb⟩
theorem HdI.put {j : Nat} {Bm : Option Addr} {dm : Nat} {Bt : Option Addr} {dt : Nat} (h : HdI W1 gS i Am cm At ct W) (hm : Kd.V (Kd.int .i64) 3 W 0 (fun k => k ≠ gS) (.slice Bm 1 dm) (hdSt j).1) (ht : Kd.V k45 45 W 0 (fun k => k ≠ gS) (.slice Bt 1 dt) (hdSt j).2) (hG : W1.heap.size ≤ gS) :
    HdI W1 gS j Bm dm Bt dt ((W.setCell ⟨gS, 0, none⟩ (.slice Bm 1 dm)).setCell ⟨gS, 1, none⟩ (.slice Bt 1 dt)) :=
  ⟨by have := blk_set (blk_set h.bS 0 (.slice Bm 1 dm)) 1 (.slice Bt 1 dt); exact this, Kd.V_far (p := ⟨gS, 1, none⟩) (Kd.V_far (p := ⟨gS, 0, none⟩) hm (fun k hk => hk) _) (fun k hk => hk) _, Kd.V_far (p := ⟨gS, 1, none⟩) (Kd.V_far (p := ⟨gS, 0, none⟩) ht (fun k hk => hk) _) (fun k hk => hk) _, below_set (below_set h.bel hG) hG⟩
theorem hd_l1 : ∀ i, (hdSt i).1.length = 1
  | 0 => rfl
  | 1 => rfl
  | 2 => rfl
  | 3 => rfl
  | _ + 4 => rfl
theorem hd_l2 : ∀ i, (hdSt i).2.length = 1
  | 0 => rfl
  | 1 => rfl
  | 2 => rfl
  | 3 => rfl
  | _ + 4 => rfl
theorem hdSame {b : Nat} (h : HdI W1 gS 4 Am cm At ct W) (hb : W.heap[b]? = some (.cells #[.int .i64 7] 3 (0, 0))) :
    Calls Try.prog 21 #[.slice Am 1 cm, .slice (some ⟨b, 0, none⟩) 1 1] W fun e w' => e = .returned (.bool true) ∧ Below W.heap.size W w' := by
  refine (fencepostref07_SameInts.calls 3 Am cm [7] (some ⟨b, 0, none⟩) 1 [7] true W h.cm h.lm (C_ints [7] hb (by decide)) (Nat.le_refl _) hd_mem).mono ?_
  rintro e w' ⟨rfl, hh⟩
  exact ⟨rfl, by first | (obtain ⟨nd, rfl⟩ := hh; exact pw_below_drewN (Below.refl _ _) nd) | exact hh⟩
theorem hdSameR {b : Nat} {X1 : Option Addr} {d1 : Nat} (hC : Kd.C (Kd.int .i64) W X1 4 [0, 0, 5, 0]) (hd : 4 ≤ d1) (hb : W.heap[b]? = some (.cells #[.int .i64 0, .int .i64 0, .int .i64 5, .int .i64 0] 3 (0, 0))) :
    Calls Try.prog 21 #[.slice X1 4 d1, .slice (some ⟨b, 0, none⟩) 4 4] W fun e w' => e = .returned (.bool true) ∧ Below W.heap.size W w' := by
  refine (fencepostref07_SameInts.calls 6 X1 d1 [0, 0, 5, 0] (some ⟨b, 0, none⟩) 4 [0, 0, 5, 0] true W hC hd (C_ints [0, 0, 5, 0] hb (by decide)) (Nat.le_refl _) hd_regs).mono ?_
  rintro e w' ⟨rfl, hh⟩
  exact ⟨rfl, by first | (obtain ⟨nd, rfl⟩ := hh; exact pw_below_drewN (Below.refl _ _) nd) | exact hh⟩
end
def fencepostlaw10_head.f : Option Bool := some true
set_option maxRecDepth 100000 in
set_option maxHeartbeats 1000000 in
theorem fencepostlaw10_head.calls (r : Bool) (w : World) (h : fencepostlaw10_head.f = some r) : Calls Try.prog 9 #[] w fun e w' => e = .returned (.bool r) ∧ Below w.heap.size w w' := by
  obtain rfl := Option.some.inj h
  clear h
  have hu1 := Try.underlying28
  have hu2 := Try.underlying25
  have hu3 := Try.underlying45
  have hu4 := Try.underlying39
  go_enter Try.func9, Try.ntmps9
  (try simp only [List.append_eq, List.cons_append, List.nil_append])
  go_upto_region 2 with fail
  obtain ⟨Wa, hWa⟩ : ∃ Wa, Wa = (w.alloc (.cells #[.int .i64 5] 3)).alloc (.cells #[.int .i64 1, .int .i64 2, .int .i64 0, .int .i64 7, .int .i64 0, .int .i64 5, .int .i64 2, .int .i64 0, .int .i64 0, .int .i64 0, .int .i64 7, .int .i64 2, .int .i64 0, .int .i64 5, .int .i64 0, .int .i64 9, .int .i64 0, .int .i64 0, .int .i64 0, .int .i64 5, .int .i64 4, .int .i64 0, .int .i64 0, .int .i64 9, .int .i64 0] 39) := ⟨_, rfl⟩
  have sa : Wa.heap.size = w.heap.size + 1 + 1 := by rw [hWa, World.size_alloc, World.size_alloc]
  have bI0 : Wa.heap[w.heap.size]? = some (.cells #[.int .i64 5] 3 (0, 0)) := by rw [hWa]; exact blk_alloc (blk_new w _) _
  have bL0 : Wa.heap[w.heap.size + 1]? = some (.cells #[.int .i64 1, .int .i64 2, .int .i64 0, .int .i64 7, .int .i64 0, .int .i64 5, .int .i64 2, .int .i64 0, .int .i64 0, .int .i64 0, .int .i64 7, .int .i64 2, .int .i64 0, .int .i64 5, .int .i64 0, .int .i64 9, .int .i64 0, .int .i64 0, .int .i64 0, .int .i64 5, .int .i64 4, .int .i64 0, .int .i64 0, .int .i64 9, .int .i64 0] 39 (0, 0)) := by
    have := blk_new (w.alloc (.cells #[.int .i64 5] 3)) (.cells #[.int .i64 1, .int .i64 2, .int .i64 0, .int .i64 7, .int .i64 0, .int .i64 5, .int .i64 2, .int .i64 0, .int .i64 0, .int .i64 0, .int .i64 7, .int .i64 2, .int .i64 0, .int .i64 5, .int .i64 0, .int .i64 9, .int .i64 0, .int .i64 0, .int .i64 0, .int .i64 5, .int .i64 4, .int .i64 0, .int .i64 0, .int .i64 9, .int .i64 0] 39)
    rw [World.size_alloc] at this; rw [hWa]; exact this
  have hBa : Below w.heap.size w Wa := by rw [hWa]; exact below_alloc (below_alloc (Below.refl _ _) _) _
  rw [← hWa]
  clear hWa
  obtain ⟨W1, hW1⟩ : ∃ W1, W1 = (Wa.alloc (.cells #[.slice (some ⟨w.heap.size + 1, 0, none⟩) 5 5] 46)).alloc (.cells #[.slice (some ⟨w.heap.size, 0, none⟩) 1 1, .slice (some ⟨w.heap.size + 1 + 1, 0, none⟩) 1 1] 25) := ⟨_, rfl⟩
  have hBa1 : Below Wa.heap.size Wa W1 := by rw [hW1]; exact below_alloc (below_alloc (Below.refl _ _) _) _
  have bT : W1.heap[w.heap.size + 1 + 1]? = some (.cells #[.slice (some ⟨w.heap.size + 1, 0, none⟩) 5 5] 46 (0, 0)) := by rw [hW1, ← sa]; exact blk_alloc (blk_new Wa _) _
  have bQ : W1.heap[w.heap.size + 1 + 1 + 1]? = some (.cells #[.slice (some ⟨w.heap.size, 0, none⟩) 1 1, .slice (some ⟨w.heap.size + 1 + 1, 0, none⟩) 1 1] 25 (0, 0)) := by
    have := blk_new (Wa.alloc (.cells #[.slice (some ⟨w.heap.size + 1, 0, none⟩) 5 5] 46)) (.cells #[.slice (some ⟨w.heap.size, 0, none⟩) 1 1, .slice (some ⟨w.heap.size + 1 + 1, 0, none⟩) 1 1] 25)
    rw [World.size_alloc, sa] at this; rw [hW1]; exact this
  have s1_ : W1.heap.size = w.heap.size + 1 + 1 + 1 + 1 := by rw [hW1, World.size_alloc, World.size_alloc, sa]
  rw [← hW1]
  clear hW1
  have HC0 := Aside0.mk (C_ints [5] (blk_below bI0 hBa1) (by decide))
  have HC1 := Aside0.mk (C_hdThr bT (C_hdRow (blk_below bL0 hBa1)))
  have HB1 := Aside0.mk (below_step hBa hBa1)
  have BQ := Aside0.mk bQ
  have S1 := Aside0.mk s1_
  have ep0 : W1.cell? ⟨w.heap.size + 1 + 1 + 1, 0, none⟩ = some (.slice (some ⟨w.heap.size, 0, none⟩) 1 1) := (blk_cell bQ 0).trans rfl
  have ep1 : W1.cell? ⟨w.heap.size + 1 + 1 + 1, 1, none⟩ = some (.slice (some ⟨w.heap.size + 1 + 1, 0, none⟩) 1 1) := (blk_cell bQ 1).trans rfl
  clear sa bI0 bL0 hBa hBa1 bT bQ s1_
  go_upto_region 3 with (go_at_call 15; refine (sc_Begin.calls (some ⟨w.heap.size, 0, none⟩) 1 [5] (some ⟨w.heap.size + 1 + 1, 0, none⟩) 1 [hdRow] _ _ W1 HC0.out (Nat.le_refl _) HC1.out (Nat.le_refl _) hd_begin).mono ?_; rintro e w2 ⟨v0, v1, rfl, hV0, hV1, hb2⟩; obtain ⟨Am, cm, rfl⟩ : ∃ A c, v0 = .slice A 1 c := Kd.V_slice hV0; obtain ⟨At, ct, rfl⟩ : ∃ A c, v1 = .slice A 1 c := Kd.V_slice hV1; have HV0 := Aside0.mk hV0; have HV1 := Aside0.mk hV1; have HB2 := Aside0.mk hb2; clear hV0 hV1 hb2)
  obtain ⟨gS, hgS⟩ : ∃ gS, gS = w2.heap.size := ⟨_, rfl⟩
  obtain ⟨W3, hW3⟩ : ∃ W3, W3 = w2.alloc (.cells #[.slice Am 1 cm, .slice At 1 ct] 28) := ⟨_, rfl⟩
  have bS3 : W3.heap[gS]? = some (.cells #[.slice Am 1 cm, .slice At 1 ct] 28 (0, 0)) := by rw [hW3, hgS]; exact blk_new w2 _
  have hb23 : Below w2.heap.size w2 W3 := by rw [hW3]; exact below_alloc (Below.refl _ _) _
  have hne : ∀ k, W1.heap.size ≤ k ∧ k < w2.heap.size → k ≠ gS := fun k hk => by omega
  have hI3 : HdI W1 gS 0 Am cm At ct W3 := ⟨bS3, Kd.V_below (Kd.V_lower (Kd.V_mono (Kd.V_bound HV0.out) hne) (Nat.zero_le _)) hb23, Kd.V_below (Kd.V_lower (Kd.V_mono (Kd.V_bound HV1.out) hne) (Nat.zero_le _)) hb23, below_step HB2.out hb23⟩
  have hGS : W1.heap.size ≤ gS := by rw [hgS]; exact HB2.out.size
  rw [← hgS, ← hW3]
  have HI3 := Aside0.mk hI3
  have HGS := Aside0.mk hGS
  have bq3 := blk_below BQ.out hI3.bel
  have ep0 : W3.cell? ⟨w.heap.size + 1 + 1 + 1, 0, none⟩ = some (.slice (some ⟨w.heap.size, 0, none⟩) 1 1) := (blk_cell bq3 0).trans rfl
  have ep1 : W3.cell? ⟨w.heap.size + 1 + 1 + 1, 1, none⟩ = some (.slice (some ⟨w.heap.size + 1 + 1, 0, none⟩) 1 1) := (blk_cell bq3 1).trans rfl
  have es0 : W3.cell? ⟨gS, 0, none⟩ = some (.slice Am 1 cm) := (blk_cell bS3 0).trans rfl
  have es1 : W3.cell? ⟨gS, 1, none⟩ = some (.slice At 1 ct) := (blk_cell bS3 1).trans rfl
  obtain ⟨ad, X1, d1, rfl, hx0, hx1, hx2, hx3, hx4⟩ := hI3.el th0 rfl rfl
  clear hgS hW3 bS3 hb23 hne hI3 hGS bq3 HV0 HV1 HB2 hx3 hx4
  go_upto_region 5 with (first | (go_at_call 12; with_reducible refine (hdRight (Kd.C_below HC0.out HI3.out.bel) (Kd.C_below HC1.out HI3.out.bel) HI3.out).mono ?_; rintro e w4 ⟨rfl, hb4⟩; have HI4 := Aside0.mk (HI3.out.below hb4); clear hb4; have bq4 := blk_below BQ.out HI4.out.bel; have ep0 : w4.cell? ⟨w.heap.size + 1 + 1 + 1, 0, none⟩ = some (.slice (some ⟨w.heap.size, 0, none⟩) 1 1) := (blk_cell bq4 0).trans rfl; have ep1 : w4.cell? ⟨w.heap.size + 1 + 1 + 1, 1, none⟩ = some (.slice (some ⟨w.heap.size + 1 + 1, 0, none⟩) 1 1) := (blk_cell bq4 1).trans rfl; clear bq4) | (go_at_call 12; with_reducible refine (hdWrong (Kd.C_below HC0.out HI4.out.bel) (Kd.C_below HC1.out HI4.out.bel)).mono ?_; rintro e w5 ⟨rfl, hb5⟩; have HI5 := Aside0.mk (HI4.out.below hb5); clear hb5))
  clear es0 es1 hx0 hx1 hx2 HI3 HI4
  clear ep0 ep1
  go_wp2_with fail
  go_loopw [3] (fun v3 wr => ∃ (i : Nat), i ≤ 4 ∧ v3 = .int .i64 (i : Int) ∧ ∃ (Am : Option Addr) (cm : Nat) (At : Option Addr) (ct : Nat), HdI W1 gS i Am cm At ct wr) (fun v3 _ => 4 - (intOf v3).toNat)
  case atStart => exact ⟨0, by decide, rfl, _, _, _, _, HI5.out⟩
  case round =>
    clear HI5
    obtain ⟨i, hi, rfl, Am, cm, At_, ct, hI⟩ := hrel
    by_cases hlt : i < 4
    · have p1 : ((i : Int) < 4) = True := eq_true (by omega)
      have s1 : (i : Int) + 1 ≤ 9223372036854775807 := by omega
      have s2 : -9223372036854775808 ≤ (i : Int) + 1 := by omega
      have bq_ := blk_below BQ.out hI.bel
      have ep0 : wr.cell? ⟨w.heap.size + 1 + 1 + 1, 0, none⟩ = some (.slice (some ⟨w.heap.size, 0, none⟩) 1 1) := (blk_cell bq_ 0).trans rfl
      have ep1 : wr.cell? ⟨w.heap.size + 1 + 1 + 1, 1, none⟩ = some (.slice (some ⟨w.heap.size + 1 + 1, 0, none⟩) 1 1) := (blk_cell bq_ 1).trans rfl
      have es0 : wr.cell? ⟨gS, 0, none⟩ = some (.slice Am 1 cm) := (blk_cell hI.bS 0).trans rfl
      have es1 : wr.cell? ⟨gS, 1, none⟩ = some (.slice At_ 1 ct) := (blk_cell hI.bS 1).trans rfl
      clear bq_
      have HI := Aside0.mk hI
      have HLT := Aside0.mk hlt
      clear hI hlt hi
      go_upto_region 9 with (go_at_call 17; with_reducible refine (hdStep (Kd.C_below HC0.out HI.out.bel) (Kd.C_below HC1.out HI.out.bel) HI.out 0 (i + 1) true (hd_step i HLT.out) (hd_l1 _) (hd_l2 _) (hd_l1 _) (hd_l2 _)).mono ?_; rintro e w6 ⟨Bm, dm, Bt, dt, rfl, hVm, hVt, hI6, hb6⟩; have HVM := Aside0.mk hVm; have HVT := Aside0.mk hVt; have HI6 := Aside0.mk hI6; clear hVm hVt hI6 hb6)
      obtain ⟨W7, hW7⟩ : ∃ W7, W7 = w6.alloc (.cells #[.slice Bm 1 dm, .slice Bt 1 dt] 28) := ⟨_, rfl⟩
      have b7 : W7.heap[w6.heap.size]? = some (.cells #[.slice Bm 1 dm, .slice Bt 1 dt] 28 (0, 0)) := by rw [hW7]; exact blk_new w6 _
      have hb67 : Below w6.heap.size w6 W7 := by rw [hW7]; exact below_alloc (Below.refl _ _) _
      have et0 : W7.cell? ⟨w6.heap.size, 0, none⟩ = some (.slice Bm 1 dm) := (blk_cell b7 0).trans rfl
      have et1 : W7.cell? ⟨w6.heap.size, 1, none⟩ = some (.slice Bt 1 dt) := (blk_cell b7 1).trans rfl
      have hI7 := HI6.out.below hb67
      have es0 : W7.cell? ⟨gS, 0, none⟩ = some (.slice Am 1 cm) := (blk_cell hI7.bS 0).trans rfl
      have es1 : W7.cell? ⟨gS, 1, none⟩ = some (.slice At_ 1 ct) := (blk_cell hI7.bS 1).trans rfl
      have ef0 := blk_frozen hI7.bS 0
      have ef1 := blk_frozen hI7.bS 1
      have HN := Aside0.mk (hI7.put (j := i + 1) (Kd.V_below HVM.out hb67) (Kd.V_below HVT.out hb67) HGS.out)
      rw [← hW7]
      clear hW7 b7 hb67 hI7 HVM HVT HI6 HI ep0 ep1
      go_wp2_with fail
      go_roundw
      case rel => exact ⟨i + 1, by have := HLT.out; omega, by simp, _, _, _, _, HN.out⟩
      case measure => have := HLT.out; simp [intOf]; omega
    · obtain rfl : i = 4 := by omega
      have p1 : (((4 : Nat) : Int) < 4) = False := eq_false (by decide)
      have bq_ := blk_below BQ.out hI.bel
      have ep0 : wr.cell? ⟨w.heap.size + 1 + 1 + 1, 0, none⟩ = some (.slice (some ⟨w.heap.size, 0, none⟩) 1 1) := (blk_cell bq_ 0).trans rfl
      have ep1 : wr.cell? ⟨w.heap.size + 1 + 1 + 1, 1, none⟩ = some (.slice (some ⟨w.heap.size + 1 + 1, 0, none⟩) 1 1) := (blk_cell bq_ 1).trans rfl
      have es0 : wr.cell? ⟨gS, 0, none⟩ = some (.slice Am 1 cm) := (blk_cell hI.bS 0).trans rfl
      have es1 : wr.cell? ⟨gS, 1, none⟩ = some (.slice At_ 1 ct) := (blk_cell hI.bS 1).trans rfl
      clear bq_
      have HI := Aside0.mk hI
      clear hI hlt hi
      go_upto_region 13 with (go_at_call 17; with_reducible refine (hdStep (Kd.C_below HC0.out HI.out.bel) (Kd.C_below HC1.out HI.out.bel) HI.out 0 (4) false hd_no (hd_l1 _) (hd_l2 _) (hd_l1 _) (hd_l2 _)).mono ?_; rintro e w6 ⟨Bm, dm, Bt, dt, rfl, hVm, hVt, hI6, hb6⟩; have HVM := Aside0.mk hVm; have HVT := Aside0.mk hVt; have HI6 := Aside0.mk hI6; clear hVm hVt hI6 hb6)
      obtain ⟨W7, hW7⟩ : ∃ W7, W7 = w6.alloc (.cells #[.slice Bm 1 dm, .slice Bt 1 dt] 28) := ⟨_, rfl⟩
      have hI7 := HI6.out.below (W' := W7) (by rw [hW7]; exact below_alloc (Below.refl _ _) _)
      have bq_ := blk_below BQ.out hI7.bel
      have ep0 : W7.cell? ⟨w.heap.size + 1 + 1 + 1, 0, none⟩ = some (.slice (some ⟨w.heap.size, 0, none⟩) 1 1) := (blk_cell bq_ 0).trans rfl
      have ep1 : W7.cell? ⟨w.heap.size + 1 + 1 + 1, 1, none⟩ = some (.slice (some ⟨w.heap.size + 1 + 1, 0, none⟩) 1 1) := (blk_cell bq_ 1).trans rfl
      have es0 : W7.cell? ⟨gS, 0, none⟩ = some (.slice Am 1 cm) := (blk_cell hI7.bS 0).trans rfl
      have es1 : W7.cell? ⟨gS, 1, none⟩ = some (.slice At_ 1 ct) := (blk_cell hI7.bS 1).trans rfl
      clear bq_
      have HI7 := Aside0.mk hI7
      rw [← hW7]
      clear hW7 hI7 HVM HVT HI6 HI
      go_upto_region 14 with (go_at_call 17; with_reducible refine (hdStep (Kd.C_below HC0.out HI7.out.bel) (Kd.C_below HC1.out HI7.out.bel) HI7.out 1 (4) false hd_none (hd_l1 _) (hd_l2 _) (hd_l1 _) (hd_l2 _)).mono ?_; rintro e w8 ⟨Cm, em, Ct, et, rfl, hVm, hVt, hI8, hb6⟩; have HVM := Aside0.mk hVm; have HVT := Aside0.mk hVt; have HI8 := Aside0.mk hI8; clear hVm hVt hI8 hb6)
      obtain ⟨W9, hW9⟩ : ∃ W9, W9 = w8.alloc (.cells #[.slice Cm 1 em, .slice Ct 1 et] 28) := ⟨_, rfl⟩
      have hI9 := HI8.out.below (W' := W9) (by rw [hW9]; exact below_alloc (Below.refl _ _) _)
      have bq_ := blk_below BQ.out hI9.bel
      have ep0 : W9.cell? ⟨w.heap.size + 1 + 1 + 1, 0, none⟩ = some (.slice (some ⟨w.heap.size, 0, none⟩) 1 1) := (blk_cell bq_ 0).trans rfl
      have ep1 : W9.cell? ⟨w.heap.size + 1 + 1 + 1, 1, none⟩ = some (.slice (some ⟨w.heap.size + 1 + 1, 0, none⟩) 1 1) := (blk_cell bq_ 1).trans rfl
      have es0 : W9.cell? ⟨gS, 0, none⟩ = some (.slice Am 1 cm) := (blk_cell hI9.bS 0).trans rfl
      have es1 : W9.cell? ⟨gS, 1, none⟩ = some (.slice At_ 1 ct) := (blk_cell hI9.bS 1).trans rfl
      clear bq_
      have HI9 := Aside0.mk hI9
      obtain ⟨ad, X1, d1, rfl, hx0, hx1, hx2, hx3, hx4⟩ := hI9.el ⟨5, [0, 0, 5, 0], true, []⟩ rfl rfl
      rw [← hW9]
      clear hW9 hI9 HVM HVT HI8 HI7 ep0 ep1 hx3 hx4 hx0 hx1 hx2
      go_wp2_with (first | (go_at_call 21; with_reducible refine (hdSame (HI9.out.below (below_alloc (Below.refl _ _) _)) (blk_new _ _)).mono ?_; rintro e w10 ⟨rfl, hb10⟩; have hI10 := HI9.out.below (below_then (Below.refl _ _) (Nat.le_refl _) ((below_alloc (Below.refl _ _) _).trans (hb10.mono (Nat.le_of_lt (by rw [World.size_alloc]; exact Nat.lt_succ_self _))))); have es1 : w10.cell? ⟨gS, 1, none⟩ = some (.slice (some ad) 1 ct) := (blk_cell hI10.bS 1).trans rfl; obtain ⟨ad2, X2, d2, hade, hx0, hx1, hx2, hx3, hx4⟩ := hI10.el ⟨5, [0, 0, 5, 0], true, []⟩ rfl rfl; obtain rfl : ad = ad2 := (by injection hade); have HX3 := Aside0.mk hx3; have HX4 := Aside0.mk hx4; have HI10 := Aside0.mk hI10; clear hx3 hx4 hI10 hb10 hade) | (go_at_call 21; with_reducible refine (hdSameR (Kd.C_alloc HX3.out _) HX4.out (blk_new _ _)).mono ?_; rintro e w11 ⟨rfl, hb11⟩; have HB11 := Aside0.mk (below_step (below_alloc HI10.out.bel _) hb11); clear hb11))
      go_ret
      exact ⟨rfl, below_step HB1.out HB11.out⟩
end Go.Proofs.Ytdliojcpnkggnaa.Print
