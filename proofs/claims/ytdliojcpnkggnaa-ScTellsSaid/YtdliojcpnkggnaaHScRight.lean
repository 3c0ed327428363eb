/- sc.Right: its Lean function and its contract. -/
import Derived.Test.YtdliojcpnkggnaaHScInv
import Derived.StillTailTactics
import Derived.Deep.QuietTactic
import Derived.BigQuiet
namespace Go.Proofs.Ytdliojcpnkggnaa.Print
open Go.RowKit Go.Proofs.YtdliojcpnkggnaaW.PrintWords Go.Proofs.YtdliojcpnkggnaaW.PrintLast Go.Proofs.YtdliojcpnkggnaaW.PrintMore
set_option linter.unusedVariables false
set_option linter.unusedSimpArgs false
/-- A write that leads nowhere. -/
def oddF (m : Nat) (x : S53) : Bool := decide (x.f0 < 0) || decide ((m : Int) ≤ x.f0)
set_option maxHeartbeats 1000000 in
theorem odd_calls (b m c : Nat) (A : Option Addr) (x : S53) (r : Bool) (w : World) (hb : w.cell? ⟨b, 0, none⟩ = some (.slice A m c)) (h : oddF m x = r) :
    Calls Try.prog 24 #[.agg #[.int .i64 x.f0, .int .i64 x.f1], .pointer (some ⟨b, 0, none⟩)] w fun e w' => e = .returned (.bool r) ∧ Below w.heap.size w w' := by
  have hu1 := Try.underlying53
  have hu2 := Try.underlying28
  have hlt : b < w.heap.size := World.block_lt_of_cell? w _ hb
  obtain ⟨W1, hW1⟩ : ∃ W1, W1 = w.alloc (.cells #[.int .i64 x.f0, .int .i64 x.f1] 53) := ⟨_, rfl⟩
  have bX : W1.heap[w.heap.size]? = some (.cells #[.int .i64 x.f0, .int .i64 x.f1] 53 (0, 0)) := by rw [hW1]; exact blk_new w _
  have hB1 : Below w.heap.size w W1 := by rw [hW1]; exact below_alloc (Below.refl _ _) _
  have e0 : W1.cell? ⟨w.heap.size, 0, none⟩ = some (.int .i64 x.f0) := (blk_cell bX 0).trans rfl
  have e1 : W1.cell? ⟨b, 0, none⟩ = some (.slice A m c) := (hB1.cell (p := ⟨b, 0, none⟩) hlt).trans hb
  have HW1 := Aside0.mk hW1
  have HB1 := Aside0.mk hB1
  have HH := Aside0.mk h
  clear hW1 hB1 bX hb h
  go_enter Try.func24, Try.ntmps24
  go_upto_region 1 with fail
  rw [← HW1.out]
  by_cases q1 : x.f0 < 0
  · have p1 : (x.f0 < 0) = True := eq_true q1
    obtain rfl : r = true := by rw [← HH.out]; unfold oddF; simp [q1]
    clear q1
    go_wp2_with fail
    go_ret
    exact ⟨rfl, HB1.out⟩
  · have p1 : (x.f0 < 0) = False := eq_false q1
    by_cases q2 : (m : Int) ≤ x.f0
    · have p2 : ((m : Int) ≤ x.f0) = True := eq_true q2
      obtain rfl : r = true := by rw [← HH.out]; unfold oddF; simp [q2]
      clear q1 q2
      go_wp2_with fail
      go_ret
      exact ⟨rfl, HB1.out⟩
    · have p2 : ((m : Int) ≤ x.f0) = False := eq_false q2
      obtain rfl : r = false := by rw [← HH.out]; unfold oddF; simp [q1, q2]
      clear q1 q2
      go_wp2_with fail
      go_ret
      exact ⟨rfl, HB1.out⟩
set_option maxHeartbeats 1000000 in
theorem index_calls (A : Option Addr) (c : Nat) (xs : List S53) (b m cc : Nat) (AA : Option Addr) (w : World) (hC : Kd.C k53 w A xs.length xs) (hl : xs.length ≤ 1000000) (hb : w.cell? ⟨b, 0, none⟩ = some (.slice AA m cc)) :
    Calls Try.prog 32 #[.slice A xs.length c, .func (.func 24) #[] #[.pointer (some ⟨b, 0, none⟩)]] w fun e w' => ∃ r : Int, e = .returned (.int .i64 r) ∧ decide (0 ≤ r) = xs.any (oddF m) ∧ Below w.heap.size w w' := by
  have hlt : b < w.heap.size := World.block_lt_of_cell? w _ hb
  have hu1 := Try.underlying53
  have HC := Aside0.mk hC
  have HL := Aside0.mk hl
  have HB := Aside0.mk hb
  clear hC hl hb
  go_enter Try.func32, Try.ntmps32
  go_wp2_with fail
  go_loopw [8] (fun v8 wr => ∃ t : Nat, t ≤ xs.length ∧ v8 = .int .i64 (t : Int) ∧ (∀ j : Nat, j < t → ∀ x, xs[j]? = some x → oddF m x = false) ∧ Below w.heap.size w wr) (fun v8 _ => xs.length - (intOf v8).toNat)
  case atStart => exact ⟨0, Nat.zero_le _, rfl, fun j hj => by omega, Below.refl _ _⟩
  case round =>
    obtain ⟨t, ht, rfl, hno, hB⟩ := hrel
    have HNO := Aside0.mk hno
    have HBW := Aside0.mk hB
    clear hno hB
    by_cases hlt2 : t < xs.length
    · obtain ⟨x, hx⟩ : ∃ x, xs[t]? = some x := ⟨_, List.getElem?_eq_getElem hlt2⟩
      have hxe : rd_T53 xs (t : Int) = x := by unfold rd_T53; rw [Int.toNat_natCast, List.getD_eq_getElem?_getD, hx]; rfl
      obtain ⟨ad, rfl, h0, h1⟩ := at_T53 (Kd.C_below HC.out HBW.out) (t : Int) (by omega) (by omega)
      rw [hxe, Int.toNat_natCast] at h0 h1
      have hb' : wr.cell? ⟨b, 0, none⟩ = some (.slice AA m cc) := (HBW.out.cell (p := ⟨b, 0, none⟩) hlt).trans HB.out
      have HB' := Aside0.mk hb'
      have HX := Aside0.mk hx
      have HLT := Aside0.mk hlt2
      have hl_ := HL.out
      have p1 : ((t : Int) < (xs.length : Int)) = True := eq_true (by omega)
      have p2 : (0 ≤ (t : Int)) = True := eq_true (by omega)
      have p3 : (t < xs.length) = True := eq_true hlt2
      have s1 : (t : Int) + 1 ≤ 9223372036854775807 := by omega
      have s2 : -9223372036854775808 ≤ (t : Int) + 1 := by omega
      clear hb' hx hxe hl_
      cases ho : oddF m x with
      | true =>
        have HO := Aside0.mk ho
        clear ho
        go_wp2_with (go_at_call 24; refine (odd_calls b m cc AA x true wr HB'.out HO.out).mono ?_; rintro e w' ⟨rfl, hb1⟩; have HBN := Aside0.mk (below_step HBW.out hb1); clear hb1)
        go_ret
        refine ⟨_, rfl, ?_, HBN.out⟩
        have : xs.any (oddF m) = true := List.any_eq_true.2 ⟨x, List.mem_of_getElem? HX.out, HO.out⟩
        rw [this]; exact decide_eq_true (by omega)
      | false =>
        have HO := Aside0.mk ho
        clear ho
        go_wp2_with (go_at_call 24; refine (odd_calls b m cc AA x false wr HB'.out HO.out).mono ?_; rintro e w' ⟨rfl, hb1⟩; have HBN := Aside0.mk (below_step HBW.out hb1); clear hb1)
        go_roundw
        case rel => exact ⟨t + 1, by have := HLT.out; omega, by simp, fun j hj y hy => by
          by_cases e : j = t
          · subst e; rw [HX.out] at hy; obtain rfl := Option.some.inj hy; exact HO.out
          · exact HNO.out j (by omega) y hy, HBN.out⟩
        case measure => have := HLT.out; simp [intOf]; omega
    · obtain rfl : t = xs.length := by omega
      have p3 : (xs.length < xs.length) = False := eq_false (by omega)
      go_wp2_with fail
      go_ret
      refine ⟨_, rfl, ?_, HBW.out⟩
      have : xs.any (oddF m) = false := by
        rw [List.any_eq_false]
        intro x hx
        obtain ⟨j, hj⟩ := List.getElem?_of_mem hx
        have := HNO.out j (List.getElem?_eq_some_iff.1 hj).1 x hj
        rw [this]; simp
      rw [this]; exact decide_eq_false (by omega)
set_option maxHeartbeats 1000000 in
theorem contains_calls (A : Option Addr) (c : Nat) (xs : List S53) (b m cc : Nat) (AA : Option Addr) (r : Bool) (w : World) (hC : Kd.C k53 w A xs.length xs) (hl : xs.length ≤ 1000000) (hb : w.cell? ⟨b, 0, none⟩ = some (.slice AA m cc)) (h : xs.any (oddF m) = r) :
    Calls Try.prog 25 #[.slice A xs.length c, .func (.func 24) #[] #[.pointer (some ⟨b, 0, none⟩)]] w fun e w' => e = .returned (.bool r) ∧ Below w.heap.size w w' := by
  have HC := Aside0.mk hC
  have HL := Aside0.mk hl
  have HB := Aside0.mk hb
  have HH := Aside0.mk h
  clear hC hl hb h
  go_enter Try.func25, Try.ntmps25
  cases r with
  | true =>
    go_wp2_with (go_at_call 32; refine (index_calls A c xs b m cc AA w HC.out HL.out HB.out).mono ?_; rintro e w' ⟨i, rfl, hi, hb1⟩; rw [HH.out] at hi; have pi : (0 ≤ i) = True := eq_true (of_decide_eq_true hi); have HBN := Aside0.mk hb1; clear hb1 hi)
    go_ret
    exact ⟨rfl, HBN.out⟩
  | false =>
    go_wp2_with (go_at_call 32; refine (index_calls A c xs b m cc AA w HC.out HL.out HB.out).mono ?_; rintro e w' ⟨i, rfl, hi, hb1⟩; rw [HH.out] at hi; have pi : (0 ≤ i) = False := eq_false (of_decide_eq_false hi); have HBN := Aside0.mk hb1; clear hb1 hi)
    go_ret
    exact ⟨rfl, HBN.out⟩
/-- A thread that may be so. -/
def thOk (m : Nat) (row : List S39) (x : S45) : Bool := !(decide (x.f0 < 0) || (decide ((row.length : Int) < x.f0) || (decide (x.f1.length ≠ 4) || x.f3.any (oddF m))))
def rightB (mem : List Int) (thr : List (List S39)) (ths : List S45) : Bool := (List.range ths.length).all fun t => thOk mem.length (rd_L3 thr (t : Int)) (rd_T45 ths (t : Int))
def bigB (ths : List S45) : Bool := decide (ths.length ≤ 1000000) && ths.all fun x => decide (x.f1.length ≤ 1000000) && decide (x.f3.length ≤ 1000000)
def sc_Right.f (l0_0 : List Int) (l0_1 : List (List S39)) (l1_0 : List Int) (l1_1 : List S45) : Option Bool :=
  if bigB l1_1 = true then some (decide (l1_0.length = l0_0.length) && (decide (l1_1.length = l0_1.length) && rightB l1_0 l0_1 l1_1)) else none
set_option maxRecDepth 100000 in
set_option maxHeartbeats 4000000 in
theorem sc_Right.calls (A0_0 : Option Addr) (c0_0 : Nat) (l0_0 : List Int) (A0_1 : Option Addr) (c0_1 : Nat) (l0_1 : List (List S39)) (A1_0 : Option Addr) (c1_0 : Nat) (l1_0 : List Int) (A1_1 : Option Addr) (c1_1 : Nat) (l1_1 : List S45) (r : Bool) (w : World)
    (hr0_0 : Kd.C (Kd.int .i64) w A0_0 l0_0.length l0_0) (hc0_0 : l0_0.length ≤ c0_0) (hr0_1 : Kd.C (Kd.slice 39 k39) w A0_1 l0_1.length l0_1) (hc0_1 : l0_1.length ≤ c0_1) (hr1_0 : Kd.C (Kd.int .i64) w A1_0 l1_0.length l1_0) (hc1_0 : l1_0.length ≤ c1_0) (hr1_1 : Kd.C k45 w A1_1 l1_1.length l1_1) (hc1_1 : l1_1.length ≤ c1_1)
    (h : sc_Right.f l0_0 l0_1 l1_0 l1_1 = some r) :
    Calls Try.prog 12 #[.agg #[.slice A0_0 l0_0.length c0_0, .slice A0_1 l0_1.length c0_1], .agg #[.slice A1_0 l1_0.length c1_0, .slice A1_1 l1_1.length c1_1]] w fun e w' => e = .returned (.bool r) ∧ Below w.heap.size w w' := by
  unfold sc_Right.f at h
  by_cases hbg : bigB l1_1 = true
  · rw [if_pos hbg] at h
    have hr := Option.some.inj h
    unfold bigB at hbg
    simp only [Bool.and_eq_true, decide_eq_true_eq, List.all_eq_true] at hbg
    obtain ⟨b1, b2⟩ := hbg
    have hu1 := Try.underlying28
    have hu2 := Try.underlying25
    have hu3 := Try.underlying45
    have H := Aside0.mk hr
    have HR01 := Aside0.mk hr0_1
    have HR11 := Aside0.mk hr1_1
    have HB1 := Aside0.mk b1
    have HB2 := Aside0.mk b2
    clear h hr hr0_0 hc0_0 hr0_1 hc0_1 hr1_0 hc1_0 hr1_1 hc1_1 b1 b2
    obtain ⟨W1, hW1⟩ : ∃ W1, W1 = (w.alloc (.cells #[.slice A0_0 l0_0.length c0_0, .slice A0_1 l0_1.length c0_1] 25)).alloc (.cells #[.slice A1_0 l1_0.length c1_0, .slice A1_1 l1_1.length c1_1] 28) := ⟨_, rfl⟩
    have bP : W1.heap[w.heap.size]? = some (.cells #[.slice A0_0 l0_0.length c0_0, .slice A0_1 l0_1.length c0_1] 25 (0, 0)) := by rw [hW1]; exact blk_alloc (blk_new w _) _
    have bS : W1.heap[w.heap.size + 1]? = some (.cells #[.slice A1_0 l1_0.length c1_0, .slice A1_1 l1_1.length c1_1] 28 (0, 0)) := by
      have := blk_new (w.alloc (.cells #[.slice A0_0 l0_0.length c0_0, .slice A0_1 l0_1.length c0_1] 25)) (.cells #[.slice A1_0 l1_0.length c1_0, .slice A1_1 l1_1.length c1_1] 28)
      rw [World.size_alloc] at this; rw [hW1]; exact this
    have hB1 : Below w.heap.size w W1 := by rw [hW1]; exact below_alloc (below_alloc (Below.refl _ _) _) _
    have es0 : W1.cell? ⟨w.heap.size + 1, 0, none⟩ = some (.slice A1_0 l1_0.length c1_0) := (blk_cell bS 0).trans rfl
    have es1 : W1.cell? ⟨w.heap.size + 1, 1, none⟩ = some (.slice A1_1 l1_1.length c1_1) := (blk_cell bS 1).trans rfl
    have ep0 : W1.cell? ⟨w.heap.size, 0, none⟩ = some (.slice A0_0 l0_0.length c0_0) := (blk_cell bP 0).trans rfl
    have ep1 : W1.cell? ⟨w.heap.size, 1, none⟩ = some (.slice A0_1 l0_1.length c0_1) := (blk_cell bP 1).trans rfl
    have HW1 := Aside0.mk hW1
    have BP := Aside0.mk bP
    have BS := Aside0.mk bS
    have HBW := Aside0.mk hB1
    clear hW1 bP bS hB1
    go_enter Try.func12, Try.ntmps12
    go_upto_region 1 with fail
    rw [← HW1.out]
    by_cases q1 : l1_0.length = l0_0.length
    rotate_left
    · have p1 : ((l1_0.length : Int) != (l0_0.length : Int)) = true := bne_iff_ne.2 (by omega)
      have p2 : (l1_0.length = l0_0.length) = False := eq_false q1
      obtain rfl : r = false := by rw [← H.out]; simp [q1]
      clear q1
      go_wp2_with fail
      go_ret
      exact ⟨rfl, HBW.out⟩
    have p1 : ((l1_0.length : Int) != (l0_0.length : Int)) = false := bne_eq_false_iff_eq.2 (by omega)
    have p2 : (l1_0.length = l0_0.length) = True := eq_true q1
    by_cases q2 : l1_1.length = l0_1.length
    rotate_left
    · have p3 : ((l1_1.length : Int) != (l0_1.length : Int)) = true := bne_iff_ne.2 (by omega)
      have p4 : (l1_1.length = l0_1.length) = False := eq_false q2
      obtain rfl : r = false := by rw [← H.out]; simp [q2]
      clear q1 q2
      go_wp2_with fail
      go_ret
      exact ⟨rfl, HBW.out⟩
    have p3 : ((l1_1.length : Int) != (l0_1.length : Int)) = false := bne_eq_false_iff_eq.2 (by omega)
    have p4 : (l1_1.length = l0_1.length) = True := eq_true q2
    have hr : rightB l1_0 l0_1 l1_1 = r := by rw [← H.out]; simp [q1, q2]
    have HRB := Aside0.mk hr
    have HQ2 := Aside0.mk q2
    clear q1 q2 H hr
    go_wp2_with fail
    clear es0 es1 ep0 ep1 p1 p2 p3 p4
    go_loopw [27] (fun v27 wr => ∃ t : Nat, t ≤ l1_1.length ∧ v27 = .int .i64 (t : Int) ∧ (∀ j : Nat, j < t → thOk l1_0.length (rd_L3 l0_1 (j : Int)) (rd_T45 l1_1 (j : Int)) = true) ∧ Below W1.heap.size W1 wr) (fun v27 _ => l1_1.length - (intOf v27).toNat)
    case atStart => exact ⟨0, Nat.zero_le _, rfl, fun j hj => by omega, Below.refl _ _⟩
    case round =>
      obtain ⟨t, ht, rfl, hok, hB⟩ := hrel
      have HOK := Aside0.mk hok
      have HBR := Aside0.mk hB
      clear hok hB
      by_cases hlt : t < l1_1.length
      · obtain ⟨x, hx⟩ : ∃ x, l1_1[t]? = some x := ⟨_, List.getElem?_eq_getElem hlt⟩
        have hxe : rd_T45 l1_1 (t : Int) = x := by unfold rd_T45; rw [Int.toNat_natCast, List.getD_eq_getElem?_getD, hx]; rfl
        obtain ⟨ad, X1, d1, X3, d3, rfl, hx0, hx1, hx2, hx3, g1, g2, g3, g4⟩ := at_T45 (Kd.C_below (Kd.C_below HR11.out HBW.out) HBR.out) (t : Int) (by omega) (by omega)
        rw [hxe] at hx0 hx1 hx2 hx3 g1 g2 g3 g4
        rw [Int.toNat_natCast] at hx0 hx1 hx2 hx3
        obtain ⟨adp, Ar, crr, rfl, hrc, hrl, hrC⟩ := at_L3 (Kd.C_below (Kd.C_below HR01.out HBW.out) HBR.out) (t : Int) (by omega) (by have := HQ2.out; omega)
        rw [Int.toNat_natCast] at hrc
        have HX1 := Aside0.mk hx1
        have p1 : ((t : Int) < (l1_1.length : Int)) = True := eq_true (by omega)
        have p2 : (0 ≤ (t : Int)) = True := eq_true (by omega)
        have p3 : (t < l1_1.length) = True := eq_true hlt
        have p4 : ((t : Int) < (l0_1.length : Int)) = True := eq_true (by have := HQ2.out; omega)
        have p5 : (t < l0_1.length) = True := eq_true (by have := HQ2.out; omega)
        have hb1_ := HB1.out
        have s1 : (t : Int) + 1 ≤ 9223372036854775807 := by omega
        have s2 : -9223372036854775808 ≤ (t : Int) + 1 := by omega
        have HLT := Aside0.mk hlt
        have HXE := Aside0.mk hxe
        have HG4 := Aside0.mk g4
        have HB3 := Aside0.mk (HB2.out x (List.mem_of_getElem? hx)).2
        have hall : thOk l1_0.length (rd_L3 l0_1 (t : Int)) x = false → r = false := fun hf => by
          rw [← HRB.out]; unfold rightB
          rw [List.all_eq_false]
          exact ⟨t, List.mem_range.2 HLT.out, by rw [HXE.out, hf]; simp⟩
        have HALL := Aside0.mk hall
        clear hlt hxe hx g1 g2 g3 g4 hrl hrC hb1_ hall
        go_upto_region 7 with fail
        obtain ⟨W2, hW2⟩ : ∃ W2, W2 = wr.alloc (.cells #[.int .i64 x.f0, .slice X1 x.f1.length d1, .bool x.f2, .slice X3 x.f3.length d3] 45) := ⟨_, rfl⟩
        have bX : W2.heap[wr.heap.size]? = some (.cells #[.int .i64 x.f0, .slice X1 x.f1.length d1, .bool x.f2, .slice X3 x.f3.length d3] 45 (0, 0)) := by rw [hW2]; exact blk_new wr _
        have hBr2 : Below wr.heap.size wr W2 := by rw [hW2]; exact below_alloc (Below.refl _ _) _
        have hB12 := below_step HBR.out hBr2
        have hB2' := below_step HBW.out hB12
        have bP2 := blk_below BP.out hB12
        have bS2 := blk_below BS.out hB12
        rw [← hW2]
        clear hx0 hx1 hx2 hx3 hrc HX1 hW2
        have ex0 : W2.cell? ⟨wr.heap.size, 0, none⟩ = some (.int .i64 x.f0) := (blk_cell bX 0).trans rfl
        have ex1 : W2.cell? ⟨wr.heap.size, 1, none⟩ = some (.slice X1 x.f1.length d1) := (blk_cell bX 1).trans rfl
        have ex3 : W2.cell? ⟨wr.heap.size, 3, none⟩ = some (.slice X3 x.f3.length d3) := (blk_cell bX 3).trans rfl
        have ep1 : W2.cell? ⟨w.heap.size, 1, none⟩ = some (.slice (some adp) l0_1.length c0_1) := (blk_cell bP2 1).trans rfl
        obtain ⟨adq, Ar2, crr2, eA2, hrc, hrl, hrC⟩ := at_L3 (Kd.C_below HR01.out hB2') (t : Int) (by omega) (by have := HQ2.out; have := HLT.out; omega)
        obtain rfl : adp = adq := by injection eA2
        rw [Int.toNat_natCast] at hrc
        have HB12 := Aside0.mk hB12
        have HBr2 := Aside0.mk hBr2
        have HB2' := Aside0.mk hB2'
        have BS2 := Aside0.mk bS2
        clear hBr2 hB12 bX bP2 bS2 hrl hrC eA2 hB2'
        by_cases q1 : x.f0 < 0
        · have p11 : (x.f0 < 0) = True := eq_true q1
          obtain rfl : r = false := HALL.out (by unfold thOk; simp [q1])
          clear q1
          go_quiet (fail)
          have hbN := pw_below_drewN HB2'.out nq
          go_wp2_with fail
          go_ret
          exact ⟨rfl, hbN⟩
        have p11 : (x.f0 < 0) = False := eq_false q1
        by_cases q2 : ((rd_L3 l0_1 (t : Int)).length : Int) < x.f0
        · have p12 : (((rd_L3 l0_1 (t : Int)).length : Int) < x.f0) = True := eq_true q2
          obtain rfl : r = false := HALL.out (by unfold thOk; simp [q2])
          clear q1 q2
          go_quiet (fail)
          have hbN := pw_below_drewN HB2'.out nq
          go_wp2_with fail
          go_ret
          exact ⟨rfl, hbN⟩
        have p12 : (((rd_L3 l0_1 (t : Int)).length : Int) < x.f0) = False := eq_false q2
        by_cases q3 : x.f1.length = 4
        rotate_left
        · have p13 : ((x.f1.length : Int) != 4) = true := bne_iff_ne.2 (by omega)
          obtain rfl : r = false := HALL.out (by unfold thOk; simp [q3])
          clear q1 q2 q3
          go_quiet (fail)
          have hbN := pw_below_drewN HB2'.out nq
          go_wp2_with fail
          go_ret
          exact ⟨rfl, hbN⟩
        have p13 : ((x.f1.length : Int) != 4) = false := bne_eq_false_iff_eq.2 (by omega)
        cases hq : x.f3.any (oddF l1_0.length) with
        | true =>
          obtain rfl : r = false := HALL.out (by unfold thOk; simp [hq])
          have HQ := Aside0.mk hq
          clear q1 q2 q3 hq
          go_still_tail 24, (by kernel_rfl)
          change wpList _ _ _ _ _ W2.drew
          go_wp2_with (go_at_call 25; refine (contains_calls X3 d3 x.f3 (w.heap.size + 1) l1_0.length c1_0 A1_0 true W2.drew (Kd.C_drew (Kd.C_below HG4.out HBr2.out)) HB3.out ((blk_cell (blk_drew BS2.out) 0).trans rfl) HQ.out).mono ?_; rintro e w' ⟨rfl, hb1⟩; have HBN := Aside0.mk (below_step (below_drew1 HB2'.out) hb1); clear hb1)
          go_ret
          exact ⟨rfl, HBN.out⟩
        | false =>
          have hthis : thOk l1_0.length (rd_L3 l0_1 (t : Int)) x = true := by unfold thOk; simp [q1, q2, q3, hq]
          have HTHIS := Aside0.mk hthis
          have HQ := Aside0.mk hq
          clear q1 q2 q3 hq hthis
          go_still_tail 24, (by kernel_rfl)
          change wpList _ _ _ _ _ W2.drew
          go_wp2_with (go_at_call 25; refine (contains_calls X3 d3 x.f3 (w.heap.size + 1) l1_0.length c1_0 A1_0 false W2.drew (Kd.C_drew (Kd.C_below HG4.out HBr2.out)) HB3.out ((blk_cell (blk_drew BS2.out) 0).trans rfl) HQ.out).mono ?_; rintro e w' ⟨rfl, hb1⟩; have HBN := Aside0.mk (below_step (below_drew1 HB12.out) hb1); clear hb1)
          go_roundw
          case rel => exact ⟨t + 1, by have := HLT.out; omega, by simp, fun j hj => by
            by_cases e : j = t
            · subst e; rw [HXE.out]; exact HTHIS.out
            · exact HOK.out j (by omega), HBN.out⟩
          case measure => have := HLT.out; simp [intOf]; omega
      · obtain rfl : t = l1_1.length := by omega
        have p3 : (l1_1.length < l1_1.length) = False := eq_false (by omega)
        obtain rfl : r = true := by
          rw [← HRB.out]; unfold rightB
          rw [List.all_eq_true]
          intro j hj
          exact HOK.out j (List.mem_range.1 hj)
        go_wp2_with fail
        go_ret
        exact ⟨rfl, below_step HBW.out HBR.out⟩
  · rw [if_neg hbg] at h; exact absurd h (by simp)
end Go.Proofs.Ytdliojcpnkggnaa.Print
