/- slots.same: whether two programs' lines are alike. -/
import Derived.Test.YtijpfonbeepmfaaHSlFence
import Derived.Test.YtijpfonbeepmfaaPrint6
import Derived.Deep.QuietTactic
import Derived.BigQuiet
namespace Go.Proofs.Ytijpfonbeepmfaa.Print
open Go.RowKit Go.Maps Go.Proofs.YtijpfonbeepmfaaW.PrintWords Go.Proofs.YtijpfonbeepmfaaW.PrintLast Go.Proofs.YtijpfonbeepmfaaW.PrintMore
set_option linter.unusedVariables false
set_option linter.unusedSimpArgs false
attribute [local go_sem high] eqA60
theorem toList_iff (a b : ByteArray) : a.toList = b.toList ↔ a = b := by
 refine ⟨fun h => ?_, fun h => by rw [h]⟩
 have h1 : a.data.toList = b.data.toList := by simpa [ByteArray.toList_eq] using h
 exact ByteArray.ext (Array.ext' h1)
theorem line_ne (x y : S60) : (¬ x = y → (!x.f0 == y.f0 || (!x.f1.toList == y.f1.toList || (!x.f2.toList == y.f2.toList || (!x.f3.toList == y.f3.toList || !x.f4 == y.f4)))) = true) ∧ (x = y → (!x.f0 == y.f0 || (!x.f1.toList == y.f1.toList || (!x.f2.toList == y.f2.toList || (!x.f3.toList == y.f3.toList || !x.f4 == y.f4)))) = false) := by
 obtain ⟨x0, x1, x2, x3, x4⟩ := x
 obtain ⟨y0, y1, y2, y3, y4⟩ := y
 refine ⟨fun h => ?_, fun h => ?_⟩
 ·cases hc : (!x0 == y0 || (!x1.toList == y1.toList || (!x2.toList == y2.toList || (!x3.toList == y3.toList || !x4 == y4)))) with
  | true => rfl
  | false =>
   simp only [Bool.or_eq_false_iff, Bool.not_eq_false', beq_iff_eq, toList_iff] at hc
   obtain ⟨rfl, rfl, rfl, rfl, rfl⟩ := hc
   exact absurd rfl h
 ·cases h; simp
set_option maxHeartbeats 4000000 in
set_option maxRecDepth 100000 in
theorem equal_calls (A0 A1 : Option Addr) (c0 c1 : Nat) (l0 l1 : List S60) (w : World) (hr0 : Kd.C k60 w A0 l0.length l0) (hr1 : Kd.C k60 w A1 l1.length l1) (hc0 : l0.length ≤ c0) (hc1 : l1.length ≤ c1) :
    Calls Try.prog 52 #[.slice A0 l0.length c0, .slice A1 l1.length c1] w fun e w' => ∃ r : Bool, e = .returned (.bool r) ∧ (r = true ↔ l0 = l1) ∧ Below w.heap.size w w' := by
  have hu := Try.underlying60
  have hm0 := hr0.2.1
  have hm1 := hr1.2.1
  have HR0 := Aside0.mk hr0
  have HR1 := Aside0.mk hr1
  clear hr0 hr1
  go_enter Try.func52, Try.ntmps52
  by_cases hlen : l0.length = l1.length
  · have p1 : ((l0.length : Int) != (l1.length : Int)) = false := by simp [hlen]
    have HL := Aside0.mk hlen
    clear hlen
    go_wp2_with fail
    go_loopw [13] (fun i wr => ∃ j : Nat, j ≤ l0.length ∧ i = .int .i64 j ∧ Aside0 ((∀ k, k < j → l0[k]? = l1[k]?) ∧ Below w.heap.size w wr)) (fun i _ => l0.length - (intOf i).toNat)
    case atStart => exact ⟨0, Nat.zero_le _, rfl, Aside0.mk ⟨fun k h => by omega, Below.refl _ _⟩⟩
    case round =>
      obtain ⟨j, hj, rfl, HJ⟩ := hrel
      by_cases hlt : j < l0.length
      · have p2 : ((j : Int) < (l0.length : Int)) = True := eq_true (by omega)
        have p3 : ((j : Int) < (l1.length : Int)) = True := eq_true (by have := HL.out; omega)
        have p4 : (0 ≤ (j : Int)) = True := eq_true (by omega)
        have p5 : (j < l0.length) = True := eq_true hlt
        have p6 : (j < l1.length) = True := eq_true (by have := HL.out; omega)
        obtain ⟨ad0, rfl, x0, x1, x2, x3, x4⟩ := at_T60 (Kd.C_below HR0.out HJ.out.2) (j : Int) (by omega) (by omega)
        obtain ⟨ad1, rfl, y0, y1, y2, y3, y4⟩ := at_T60 (Kd.C_below HR1.out HJ.out.2) (j : Int) (by omega) (by have := HL.out; omega)
        rw [Int.toNat_natCast] at x0 x1 x2 x3 x4 y0 y1 y2 y3 y4
        have e0 : l0[j]? = some (rd_T60 l0 (j : Int)) := by unfold rd_T60; rw [Int.toNat_natCast, List.getD_eq_getElem?_getD, List.getElem?_eq_getElem hlt]; rfl
        have e1 : l1[j]? = some (rd_T60 l1 (j : Int)) := by unfold rd_T60; rw [Int.toNat_natCast, List.getD_eq_getElem?_getD, List.getElem?_eq_getElem (show j < l1.length by have := HL.out; omega)]; rfl
        have s3 : (j : Int) + 1 ≤ 9223372036854775807 := by omega
        have s4 : -9223372036854775808 ≤ (j : Int) + 1 := by omega
        have E0 := Aside0.mk e0
        have E1 := Aside0.mk e1
        have HLT := Aside0.mk hlt
        clear e0 e1 hlt
        generalize rd_T60 l0 (j : Int) = x at *
        generalize rd_T60 l1 (j : Int) = y at *
        go_upto_region 6 with fail
        go_quiet (fail)
        by_cases hxy : x = y
        · have hb := (line_ne x y).2
          rw [hb hxy]
          go_wp2_with fail
          go_roundw
          case rel => exact ⟨j + 1, HLT.out, by simp, Aside0.mk ⟨fun k hk => by
            by_cases e : k = j
            · subst e; rw [E0.out, E1.out, hxy]
            · exact HJ.out.1 k (by omega), pw_below_drewN HJ.out.2 _⟩⟩
          case measure => have := HLT.out; simp [intOf]; omega
        · have hb := (line_ne x y).1
          rw [hb hxy]
          go_wp2_with fail
          go_ret
          exact ⟨false, rfl, ⟨fun h => by simp at h, fun h => by have := E0.out; rw [h, E1.out] at this; exact absurd (Option.some.inj this).symm hxy⟩, pw_below_drewN HJ.out.2 _⟩
      · obtain rfl : j = l0.length := by omega
        have p2 : ((l0.length : Int) < (l0.length : Int)) = False := eq_false (by omega)
        go_wp2_with fail
        go_ret
        exact ⟨true, rfl, ⟨fun _ => List.ext_getElem? (fun k => by
          by_cases hk : k < l0.length
          · exact HJ.out.1 k hk
          · rw [List.getElem?_eq_none (by omega), List.getElem?_eq_none (by have := HL.out; omega)]), fun _ => rfl⟩, HJ.out.2⟩
  · have p1 : ((l0.length : Int) != (l1.length : Int)) = true := by simp; omega
    go_wp2_with fail
    go_ret
    exact ⟨false, rfl, ⟨fun h => by simp at h, fun h => by rw [h] at hlen; exact absurd rfl hlen⟩, Below.refl _ _⟩
set_option maxHeartbeats 4000000 in
set_option maxRecDepth 100000 in
theorem same1_calls (A0 A1 : Option Addr) (c0 c1 : Nat) (l0 l1 : List S60) (w : World) (hr0 : Kd.C k60 w A0 l0.length l0) (hr1 : Kd.C k60 w A1 l1.length l1) (hc0 : l0.length ≤ c0) (hc1 : l1.length ≤ c1) :
 Calls Try.prog 51 #[.agg #[.slice A0 l0.length c0], .agg #[.slice A1 l1.length c1]] w fun e w' => ∃ r : Bool, e = .returned (.bool r) ∧ (r = true ↔ l0 = l1) ∧ Below w.heap.size w w' := by
 have hu := Try.underlying58
 have HR0 := Aside0.mk hr0
 have HR1 := Aside0.mk hr1
 clear hr0 hr1
 obtain ⟨W1, hW1⟩ : ∃ W1, W1 = (w.alloc (.cells #[.slice A0 l0.length c0] 58)).alloc (.cells #[.slice A1 l1.length c1] 58) := ⟨_, rfl⟩
 have bA : W1.heap[w.heap.size]? = some (.cells #[.slice A0 l0.length c0] 58 (0, 0)) := by rw [hW1]; exact blk_alloc (blk_new w _) _
 have bB : W1.heap[w.heap.size + 1]? = some (.cells #[.slice A1 l1.length c1] 58 (0, 0)) := by
  have := blk_new (w.alloc (.cells #[.slice A0 l0.length c0] 58)) (.cells #[.slice A1 l1.length c1] 58)
  rw [World.size_alloc] at this; rw [hW1]; exact this
 have hB1 : Below w.heap.size w W1 := by rw [hW1]; exact below_alloc (below_alloc (Below.refl _ _) _) _
 have x0 : W1.cell? ⟨w.heap.size, 0, none⟩ = some (.slice A0 l0.length c0) := (blk_cell bA 0).trans rfl
 have y0 : W1.cell? ⟨w.heap.size + 1, 0, none⟩ = some (.slice A1 l1.length c1) := (blk_cell bB 0).trans rfl
 have HW1 := Aside0.mk hW1
 have HB1 := Aside0.mk hB1
 clear hW1 bA bB hB1
 go_enter Try.func51, Try.ntmps51
 go_upto_region 1 with fail
 rw [← HW1.out]
 go_wp2_with fail
 refine (equal_calls A0 A1 c0 c1 l0 l1 W1 (Kd.C_below HR0.out HB1.out) (Kd.C_below HR1.out HB1.out) hc0 hc1).mono ?_
 rintro e w2 ⟨r, rfl, hr, hb2⟩
 have HR := Aside0.mk hr
 have HB2 := Aside0.mk (below_step HB1.out hb2)
 clear hr hb2 x0 y0
 go_wp2_with fail
 go_ret
 exact ⟨r, rfl, HR.out, HB2.out⟩
set_option maxHeartbeats 4000000 in
set_option maxRecDepth 100000 in
theorem equalF_calls (A0 A1 : Option Addr) (c0 c1 : Nat) (l0 l1 : List S58) (w : World) (hr0 : Kd.C k58 w A0 l0.length l0) (hr1 : Kd.C k58 w A1 l1.length l1) (hc0 : l0.length ≤ c0) (hc1 : l1.length ≤ c1) :
    Calls Try.prog 50 #[.slice A0 l0.length c0, .slice A1 l1.length c1, .func (.func 51) #[] #[]] w fun e w' => ∃ r : Bool, e = .returned (.bool r) ∧ (r = true ↔ l0 = l1) ∧ Below w.heap.size w w' := by
  have hu := Try.underlying58
  have hE : ∀ args w, (callFunc 51 args).run Try.prog w = .ok (.enter 51 args) w := fun args w => by kernel_rfl
  have hm0 := hr0.2.1
  have hm1 := hr1.2.1
  have HR0 := Aside0.mk hr0
  have HR1 := Aside0.mk hr1
  clear hr0 hr1
  go_enter Try.func50, Try.ntmps50
  by_cases hlen : l0.length = l1.length
  · have p1 : ((l0.length : Int) != (l1.length : Int)) = false := by simp [hlen]
    have HL := Aside0.mk hlen
    clear hlen
    go_wp2_with fail
    go_loopw [17] (fun i wr => ∃ j : Nat, j ≤ l0.length ∧ i = .int .i64 j ∧ Aside0 ((∀ k, k < j → l0[k]? = l1[k]?) ∧ Below w.heap.size w wr)) (fun i _ => l0.length - (intOf i).toNat)
    case atStart => exact ⟨0, Nat.zero_le _, rfl, Aside0.mk ⟨fun k h => by omega, Below.refl _ _⟩⟩
    case round =>
      obtain ⟨j, hj, rfl, HJ⟩ := hrel
      by_cases hlt : j < l0.length
      · have p2 : ((j : Int) < (l0.length : Int)) = True := eq_true (by omega)
        have p3 : ((j : Int) < (l1.length : Int)) = True := eq_true (by have := HL.out; omega)
        have p4 : (0 ≤ (j : Int)) = True := eq_true (by omega)
        have p5 : (j < l0.length) = True := eq_true hlt
        have p6 : (j < l1.length) = True := eq_true (by have := HL.out; omega)
        have s3 : (j : Int) + 1 ≤ 9223372036854775807 := by omega
        have s4 : -9223372036854775808 ≤ (j : Int) + 1 := by omega
        obtain ⟨ad0, B0, d0, rfl, x0, hd0, hC0⟩ := at_T58 (Kd.C_below HR0.out HJ.out.2) (j : Int) (by omega) (by omega)
        obtain ⟨ad1, B1, d1, rfl, y0, hd1, hC1⟩ := at_T58 (Kd.C_below HR1.out HJ.out.2) (j : Int) (by omega) (by have := HL.out; omega)
        rw [Int.toNat_natCast] at x0 y0
        have e0 : l0[j]? = some (rd_T58 l0 (j : Int)) := by unfold rd_T58; rw [Int.toNat_natCast, List.getD_eq_getElem?_getD, List.getElem?_eq_getElem hlt]; rfl
        have e1 : l1[j]? = some (rd_T58 l1 (j : Int)) := by unfold rd_T58; rw [Int.toNat_natCast, List.getD_eq_getElem?_getD, List.getElem?_eq_getElem (show j < l1.length by have := HL.out; omega)]; rfl
        have E0 := Aside0.mk e0
        have E1 := Aside0.mk e1
        have HLT := Aside0.mk hlt
        have HC0 := Aside0.mk hC0
        have HC1 := Aside0.mk hC1
        clear e0 e1 hlt hC0 hC1
        generalize rd_T58 l0 (j : Int) = x at *
        generalize rd_T58 l1 (j : Int) = y at *
        have y0' : (wr.alloc (.cells #[.slice B0 x.f0.length d0] 58)).cell? (ad1.add j) = some (.slice B1 y.f0.length d1) := Lib.cell?_alloc_some _ y0
        go_upto_region 7 with fail
        obtain ⟨W2, hW2⟩ : ∃ W2, W2 = (wr.alloc (.cells #[.slice B0 x.f0.length d0] 58)).alloc (.cells #[.slice B1 y.f0.length d1] 58) := ⟨_, rfl⟩
        have bA : W2.heap[wr.heap.size]? = some (.cells #[.slice B0 x.f0.length d0] 58 (0, 0)) := by rw [hW2]; exact blk_alloc (blk_new wr _) _
        have bB : W2.heap[wr.heap.size + 1]? = some (.cells #[.slice B1 y.f0.length d1] 58 (0, 0)) := by
          have := blk_new (wr.alloc (.cells #[.slice B0 x.f0.length d0] 58)) (.cells #[.slice B1 y.f0.length d1] 58)
          rw [World.size_alloc] at this; rw [hW2]; exact this
        have hBB : Below wr.heap.size wr W2 := by rw [hW2]; exact below_alloc (below_alloc (Below.refl _ _) _) _
        have z0 : W2.cell? ⟨wr.heap.size, 0, none⟩ = some (.slice B0 x.f0.length d0) := (blk_cell bA 0).trans rfl
        have z1 : W2.cell? ⟨wr.heap.size + 1, 0, none⟩ = some (.slice B1 y.f0.length d1) := (blk_cell bB 0).trans rfl
        rw [← hW2]
        have HBB := Aside0.mk hBB
        clear hW2 bA bB hBB x0 y0 y0'
        go_wp2_with fail
        refine (same1_calls B0 B1 d0 d1 x.f0 y.f0 W2 (Kd.C_below HC0.out HBB.out) (Kd.C_below HC1.out HBB.out) hd0 hd1).mono ?_
        rintro e w3 ⟨r, rfl, hr, hb3⟩
        have HB3 := Aside0.mk (below_step (below_step HJ.out.2 HBB.out) hb3)
        have HRR := Aside0.mk hr
        clear hr hb3 z0 z1
        cases r with
        | true =>
          go_wp2_with fail
          go_roundw
          case rel => exact ⟨j + 1, HLT.out, by simp, Aside0.mk ⟨fun k hk => by
            by_cases e : k = j
            · subst e; rw [E0.out, E1.out]
              have := HRR.out.1 trivial
              obtain ⟨x0⟩ := x
              obtain ⟨y0⟩ := y
              cases this; rfl
            · exact HJ.out.1 k (by omega), HB3.out⟩⟩
          case measure => have := HLT.out; simp [intOf]; omega
        | false =>
          go_wp2_with fail
          go_ret
          exact ⟨false, rfl, ⟨fun h => by simp at h, fun h => by have := E0.out; rw [h, E1.out] at this; have := HRR.out.2 (by rw [Option.some.inj this]); simp at this⟩, HB3.out⟩
      · obtain rfl : j = l0.length := by omega
        have p2 : ((l0.length : Int) < (l0.length : Int)) = False := eq_false (by omega)
        go_wp2_with fail
        go_ret
        exact ⟨true, rfl, ⟨fun _ => List.ext_getElem? (fun k => by
          by_cases hk : k < l0.length
          · exact HJ.out.1 k hk
          · rw [List.getElem?_eq_none (by omega), List.getElem?_eq_none (by have := HL.out; omega)]), fun _ => rfl⟩, HJ.out.2⟩
  · have p1 : ((l0.length : Int) != (l1.length : Int)) = true := by simp; omega
    go_wp2_with fail
    go_ret
    exact ⟨false, rfl, ⟨fun h => by simp at h, fun h => by rw [h] at hlen; exact absurd rfl hlen⟩, Below.refl _ _⟩
set_option maxHeartbeats 4000000 in
set_option maxRecDepth 100000 in
theorem same_calls (a0 b0 : ByteArray) (A1 A2 A4 B1 B2 B4 : Option Addr) (n1 c1 c2 n4 c4 m1 d1 d2 m4 d4 : Nat) (a3 b3 : Bool) (l0 l1 : List S58) (w : World) (hr0 : Kd.C k58 w A2 l0.length l0) (hr1 : Kd.C k58 w B2 l1.length l1) (hc0 : l0.length ≤ c2) (hc1 : l1.length ≤ d2) :
 Calls Try.prog 38 #[.agg #[.string a0, .slice A1 n1 c1, .slice A2 l0.length c2, .bool a3, .slice A4 n4 c4], .agg #[.string b0, .slice B1 m1 d1, .slice B2 l1.length d2, .bool b3, .slice B4 m4 d4]] w fun e w' => ∃ r : Bool, e = .returned (.bool r) ∧ (r = true ↔ l0 = l1) ∧ Below w.heap.size w w' := by
 have hu := Try.underlying30
 have HR0 := Aside0.mk hr0
 have HR1 := Aside0.mk hr1
 clear hr0 hr1
 obtain ⟨W1, hW1⟩ : ∃ W1, W1 = (w.alloc (.cells #[.string a0, .slice A1 n1 c1, .slice A2 l0.length c2, .bool a3, .slice A4 n4 c4] 30)).alloc (.cells #[.string b0, .slice B1 m1 d1, .slice B2 l1.length d2, .bool b3, .slice B4 m4 d4] 30) := ⟨_, rfl⟩
 have bA : W1.heap[w.heap.size]? = some (.cells #[.string a0, .slice A1 n1 c1, .slice A2 l0.length c2, .bool a3, .slice A4 n4 c4] 30 (0, 0)) := by rw [hW1]; exact blk_alloc (blk_new w _) _
 have bB : W1.heap[w.heap.size + 1]? = some (.cells #[.string b0, .slice B1 m1 d1, .slice B2 l1.length d2, .bool b3, .slice B4 m4 d4] 30 (0, 0)) := by
  have := blk_new (w.alloc (.cells #[.string a0, .slice A1 n1 c1, .slice A2 l0.length c2, .bool a3, .slice A4 n4 c4] 30)) (.cells #[.string b0, .slice B1 m1 d1, .slice B2 l1.length d2, .bool b3, .slice B4 m4 d4] 30)
  rw [World.size_alloc] at this; rw [hW1]; exact this
 have hB1 : Below w.heap.size w W1 := by rw [hW1]; exact below_alloc (below_alloc (Below.refl _ _) _) _
 have x0 : W1.cell? ⟨w.heap.size, 2, none⟩ = some (.slice A2 l0.length c2) := (blk_cell bA 2).trans rfl
 have y0 : W1.cell? ⟨w.heap.size + 1, 2, none⟩ = some (.slice B2 l1.length d2) := (blk_cell bB 2).trans rfl
 have HW1 := Aside0.mk hW1
 have HB1 := Aside0.mk hB1
 clear hW1 bA bB hB1
 go_enter Try.func38, Try.ntmps38
 go_upto_region 1 with fail
 rw [← HW1.out]
 go_wp2_with fail
 refine (equalF_calls A2 B2 c2 d2 l0 l1 W1 (Kd.C_below HR0.out HB1.out) (Kd.C_below HR1.out HB1.out) hc0 hc1).mono ?_
 rintro e w2 ⟨r, rfl, hr, hb2⟩
 have HR := Aside0.mk hr
 have HB2 := Aside0.mk (below_step HB1.out hb2)
 clear hr hb2 x0 y0
 go_wp2_with fail
 go_ret
 exact ⟨r, rfl, HR.out, HB2.out⟩
end Go.Proofs.Ytijpfonbeepmfaa.Print
