/- ref10.Step: its Lean function and its contract. -/
import Derived.Test.YteobpfgncohloaaHRjSt
import Derived.Test.YteobpfgncohloaaHRjStep
namespace Go.Proofs.Yteobpfgncohloaa.Print
open Go.RowKit Go.Proofs.YteobpfgncohloaaW.PrintWords Go.Proofs.YteobpfgncohloaaW.PrintLast Go.Proofs.YteobpfgncohloaaW.PrintMore
set_option linter.unusedVariables false
set_option linter.unusedSimpArgs false
theorem w64s {x : Int} (h0 : -9223372036854775808 ≤ x) (h1 : x ≤ 9223372036854775807) : wrap64 x = x := by
 unfold wrap64; omega
section
variable {A : List Int} {B : List (List S42)} {mem : List Int} {ths : List S39}
theorem ats_yes (h2 : ths.length = B.length) {t : Nat} {x : S39} (hx : ths[t]? = some x) (h3 : 0 ≤ x.f0) (hl : x.f0 < ((rd_L2 B (t : Int)).length : Int)) : fencepostref10_At.f A B mem ths (t : Int) = some ((rd_T42 (rd_L2 B (t : Int)) x.f0).f0, (rd_T42 (rd_L2 B (t : Int)) x.f0).f1, (rd_T42 (rd_L2 B (t : Int)) x.f0).f2, (rd_T42 (rd_L2 B (t : Int)) x.f0).f3, (rd_T42 (rd_L2 B (t : Int)) x.f0).f4, true) := by
 have h1 := (List.getElem?_eq_some_iff.1 hx).1
 have e : rd_T39 ths (t : Int) = x := by unfold rd_T39; rw [Int.toNat_natCast, List.getD_eq_getElem?_getD, hx]; rfl
 unfold fencepostref10_At.f
 simp only [e, if_neg (show ¬ (t : Int) < 0 by omega), if_neg (show ¬ (t : Int) ≥ (ths.length : Int) by omega), if_pos (show (0 : Int) ≤ (t : Int) by omega), if_pos (show (t : Int) < (ths.length : Int) by omega), if_pos (show (t : Int) < (B.length : Int) by omega), if_neg (show ¬ x.f0 ≥ ((rd_L2 B (t : Int)).length : Int) by omega), if_pos h3, if_pos hl]
theorem ats_no (h2 : ths.length = B.length) (a : Int) (ha : a < 0 ∨ (ths.length : Int) ≤ a ∨ ((rd_L2 B a).length : Int) ≤ (rd_T39 ths a).f0) : fencepostref10_At.f A B mem ths a = some (0, 0, 0, 0, 0, false) := by
 unfold fencepostref10_At.f
 by_cases c1 : a < 0
 ·rw [if_pos c1]
 ·rw [if_neg c1]
  by_cases c2 : a ≥ (ths.length : Int)
  ·rw [if_pos c2]
  ·rw [if_neg c2, if_pos (by omega), if_pos (by omega), if_pos (by omega), if_pos (by omega)]
theorem own_l0 (h : ∀ x ∈ ths, x.f1.length = 4 ∧ x.f3.length ≤ 1000000) (hl : ths.length ≤ 1000) : ∀ (d : Nat) (t : Nat), ths.length - t ≤ d → t ≤ ths.length → Ev (fun k => fencepostref10_Own.l0 k (t : Int) mem ths mem (ths.take t)) (mem, ths) := by
 intro d
 induction d with
 | zero =>
  intro t h1 h2
  refine Ev.step (fun k => by rw [fencepostref10_Own.l0]) ?_
  simp only [if_neg (show ¬ (t : Int) < (ths.length : Int) by omega), List.take_of_length_le (show ths.length ≤ t by omega)]
  exact Ev.now _
 | succ d ih =>
  intro t h1 h2
  by_cases c : t < ths.length
  ·obtain ⟨x, hx⟩ : ∃ x, ths[t]? = some x := ⟨_, List.getElem?_eq_getElem c⟩
   have e : rd_T39 ths (t : Int) = x := by unfold rd_T39; rw [Int.toNat_natCast, List.getD_eq_getElem?_getD, hx]; rfl
   have ho := h x (List.mem_of_getElem? hx)
   have hk : (ths.take t).length = t := by rw [List.length_take]; omega
   refine Ev.step (fun k => by rw [fencepostref10_Own.l0]) ?_
   simp only [e, Option.bind_some, List.nil_append, if_pos (show (t : Int) < (ths.length : Int) by omega), if_pos (show (0 : Int) ≤ (t : Int) by omega), if_pos (show ([] : List Int).length + x.f1.length < 17592186044416 by simp; omega), if_pos (show ([] : List S69).length + x.f3.length < 8796093022208 by simp; omega), if_pos (show (ths.take t).length < 2199023255552 by omega), w64s (show -9223372036854775808 ≤ (t : Int) + 1 by omega) (by omega)]
   have e2 : ths.take t ++ [x] = ths.take (t + 1) := by rw [List.take_add_one, hx]; rfl
   rw [e2]
   exact ih (t + 1) (by omega) (by omega)
  ·refine Ev.step (fun k => by rw [fencepostref10_Own.l0]) ?_
   simp only [if_neg (show ¬ (t : Int) < (ths.length : Int) by omega), List.take_of_length_le (show ths.length ≤ t by omega)]
   exact Ev.now _
theorem own_some (h : ∀ x ∈ ths, x.f1.length = 4 ∧ x.f3.length ≤ 1000000) (hl : ths.length ≤ 1000) (hm : mem.length ≤ 1000000) : ∃ k, fencepostref10_Own.f k mem ths = some (mem, ths) := by
 obtain ⟨k, hk⟩ := (own_l0 (mem := mem) h hl ths.length 0 (by omega) (by omega)).rounds
 refine ⟨k, ?_⟩
 unfold fencepostref10_Own.f
 simp only [Option.bind_some, List.nil_append, if_pos (show ([] : List Int).length + mem.length < 17592186044416 by simp; omega)]
 exact hk
end
set_option maxRecDepth 100000 in
set_option maxHeartbeats 4000000 in
theorem refStep_no (A0_0 : Option Addr) (c0_0 : Nat) (l0_0 : List Int) (A0_1 : Option Addr) (c0_1 : Nat) (l0_1 : List (List S42)) (A1_0 : Option Addr) (c1_0 : Nat) (l1_0 : List Int) (A1_1 : Option Addr) (c1_1 : Nat) (l1_1 : List S39) (a2 : Int) (kk : Nat) (w : World)
 (hr0_0 : Kd.C (Kd.int .i64) w A0_0 l0_0.length l0_0) (hc0_0 : l0_0.length ≤ c0_0) (hr0_1 : Kd.C (Kd.slice 42 k42) w A0_1 l0_1.length l0_1) (hc0_1 : l0_1.length ≤ c0_1) (hr1_0 : Kd.C (Kd.int .i64) w A1_0 l1_0.length l1_0) (hc1_0 : l1_0.length ≤ c1_0) (hr1_1 : Kd.C k39 w A1_1 l1_1.length l1_1) (hc1_1 : l1_1.length ≤ c1_1)
 (hown : fencepostref10_Own.f kk l1_0 l1_1 = some (l1_0, l1_1)) (hat : fencepostref10_At.f l0_0 l0_1 l1_0 l1_1 a2 = some (0, 0, 0, 0, 0, false)) :
 Calls Try.prog 22 #[.agg #[.slice A0_0 l0_0.length c0_0, .slice A0_1 l0_1.length c0_1], .agg #[.slice A1_0 l1_0.length c1_0, .slice A1_1 l1_1.length c1_1], .int .i64 a2] w fun e w' => ∃ v0_ v1_ : Value, e = .returned (.tuple #[.agg #[v0_, v1_], .bool false]) ∧ SJ w.heap.size v0_ v1_ l1_0 l1_1 w' ∧ Below w.heap.size w w' := by
 have hu1 := Try.underlying31
 have hu2 := Try.underlying25
 have hu3 := Try.underlying39
 have hu4 := Try.underlying42
 have HR00 := Aside0.mk hr0_0
 have HR01 := Aside0.mk hr0_1
 have HR10 := Aside0.mk hr1_0
 have HR11 := Aside0.mk hr1_1
 have HC00 := Aside0.mk hc0_0
 have HC01 := Aside0.mk hc0_1
 have HC10 := Aside0.mk hc1_0
 have HC11 := Aside0.mk hc1_1
 have HOWN := Aside0.mk hown
 have HAT := Aside0.mk hat
 clear hr0_0 hc0_0 hr0_1 hc0_1 hr1_0 hc1_0 hr1_1 hc1_1 hown hat
 obtain ⟨W1, hW1⟩ : ∃ W1, W1 = ((w.alloc (.cells #[.slice A0_0 l0_0.length c0_0, .slice A0_1 l0_1.length c0_1] 25)).alloc (.cells #[.slice A1_0 l1_0.length c1_0, .slice A1_1 l1_1.length c1_1] 31)).alloc (.cells #[.slice none 0 0, .slice none 0 0] 31) := ⟨_, rfl⟩
 have bP : W1.heap[w.heap.size]? = some (.cells #[.slice A0_0 l0_0.length c0_0, .slice A0_1 l0_1.length c0_1] 25 (0, 0)) := by rw [hW1]; exact blk_alloc (blk_alloc (blk_new w _) _) _
 have bS : W1.heap[w.heap.size + 1]? = some (.cells #[.slice A1_0 l1_0.length c1_0, .slice A1_1 l1_1.length c1_1] 31 (0, 0)) := by
  have := blk_alloc (blk_new (w.alloc (.cells #[.slice A0_0 l0_0.length c0_0, .slice A0_1 l0_1.length c0_1] 25)) (.cells #[.slice A1_0 l1_0.length c1_0, .slice A1_1 l1_1.length c1_1] 31)) (.cells #[.slice none 0 0, .slice none 0 0] 31)
  rw [World.size_alloc] at this; rw [hW1]; exact this
 have bR : W1.heap[w.heap.size + 1 + 1]? = some (.cells #[.slice none 0 0, .slice none 0 0] 31 (0, 0)) := by
  have := blk_new ((w.alloc (.cells #[.slice A0_0 l0_0.length c0_0, .slice A0_1 l0_1.length c0_1] 25)).alloc (.cells #[.slice A1_0 l1_0.length c1_0, .slice A1_1 l1_1.length c1_1] 31)) (.cells #[.slice none 0 0, .slice none 0 0] 31)
  rw [World.size_alloc, World.size_alloc] at this; rw [hW1]; exact this
 have hB1 : Below w.heap.size w W1 := by rw [hW1]; exact below_alloc (below_alloc (below_alloc (Below.refl _ _) _) _) _
 have es0 : W1.cell? ⟨w.heap.size + 1, 0, none⟩ = some (.slice A1_0 l1_0.length c1_0) := (blk_cell bS 0).trans rfl
 have es1 : W1.cell? ⟨w.heap.size + 1, 1, none⟩ = some (.slice A1_1 l1_1.length c1_1) := (blk_cell bS 1).trans rfl
 have HW1 := Aside0.mk hW1
 have BP := Aside0.mk bP
 have BS := Aside0.mk bS
 have BR := Aside0.mk bR
 have HBW := Aside0.mk hB1
 clear hW1 bP bS bR hB1
 go_enter Try.func22, Try.ntmps22
 (try simp only [List.append_eq, List.cons_append, List.nil_append])
 go_upto_region 1 with fail
 rw [← HW1.out]
 go_upto_region 2 with (go_at_call 25; refine (fencepostref10_Own.calls kk A1_0 c1_0 l1_0 A1_1 c1_1 l1_1 l1_0 l1_1 W1 (Kd.C_below HR10.out HBW.out) HC10.out (Kd.C_below HR11.out HBW.out) HC11.out HOWN.out).mono ?_; rintro e w2 ⟨vm, vt, rfl, hRm, hSt, hb2⟩; obtain ⟨Am, cm, rfl⟩ := Kd.R_slice hRm; obtain ⟨At, ct, rfl⟩ := Kd.S_slice hSt; have HRM := Aside0.mk hRm; have HST := Aside0.mk hSt; have HB2' := Aside0.mk hb2; clear hRm hSt hb2)
 obtain ⟨W3, hW3⟩ : ∃ W3, W3 = w2.alloc (.cells #[.slice Am l1_0.length cm, .slice At l1_1.length ct] 31) := ⟨_, rfl⟩
 have hb23 : Below w2.heap.size w2 W3 := by rw [hW3]; exact below_alloc (Below.refl _ _) _
 have bO : W3.heap[w2.heap.size]? = some (.cells #[.slice Am l1_0.length cm, .slice At l1_1.length ct] 31 (0, 0)) := by rw [hW3]; exact blk_new w2 _
 have BP3 := Aside0.mk (blk_below (blk_below BP.out HB2'.out) hb23)
 have BS3 := Aside0.mk (blk_below (blk_below BS.out HB2'.out) hb23)
 have BR3 := Aside0.mk (blk_below (blk_below BR.out HB2'.out) hb23)
 have HB3 := Aside0.mk (below_step (below_step HBW.out HB2'.out) hb23)
 have HJ3 : Aside0 (SJ w.heap.size (.slice Am l1_0.length cm) (.slice At l1_1.length ct) l1_0 l1_1 W3) := Aside0.mk (SJ.below ⟨Kd.R_lower HRM.out HBW.out.size, Kd.S_lower HST.out HBW.out.size⟩ hb23)
 have BO := Aside0.mk bO
 have HO2 : Aside0 (w.heap.size + 1 + 1 < w2.heap.size) := Aside0.mk (Nat.lt_of_lt_of_le (blk_lt BR.out) HB2'.out.size)
 have ep0 : W3.cell? ⟨w.heap.size, 0, none⟩ = some (.slice A0_0 l0_0.length c0_0) := (blk_cell BP3.out 0).trans rfl
 have ep1 : W3.cell? ⟨w.heap.size, 1, none⟩ = some (.slice A0_1 l0_1.length c0_1) := (blk_cell BP3.out 1).trans rfl
 have eq0 : W3.cell? ⟨w.heap.size + 1, 0, none⟩ = some (.slice A1_0 l1_0.length c1_0) := (blk_cell BS3.out 0).trans rfl
 have eq1 : W3.cell? ⟨w.heap.size + 1, 1, none⟩ = some (.slice A1_1 l1_1.length c1_1) := (blk_cell BS3.out 1).trans rfl
 rw [← hW3]
 clear BP BS BR HBW HRM HST HB2' es0 es1 hb23 hW3 bO
 go_upto_region 4 with (go_at_call 27; refine (fencepostref10_At.calls A0_0 c0_0 l0_0 A0_1 c0_1 l0_1 A1_0 c1_0 l1_0 A1_1 c1_1 l1_1 a2 _ _ _ _ _ _ W3 (Kd.C_below HR00.out HB3.out) HC00.out (Kd.C_below HR01.out HB3.out) HC01.out (Kd.C_below HR10.out HB3.out) HC10.out (Kd.C_below HR11.out HB3.out) HC11.out HAT.out).mono ?_; rintro e w4 ⟨rfl, hb4⟩; have HB4 := Aside0.mk hb4; clear hb4)
 obtain ⟨W5, hW5⟩ : ∃ W5, W5 = w4.alloc (.cells #[.int .i64 0, .int .i64 0, .int .i64 0, .int .i64 0, .int .i64 0] 42) := ⟨_, rfl⟩
 have hb45 : Below w4.heap.size w4 W5 := by rw [hW5]; exact below_alloc (Below.refl _ _) _
 have BO5 := Aside0.mk (blk_below (blk_below BO.out HB4.out) hb45)
 have BR5 := Aside0.mk (blk_below (blk_below BR3.out HB4.out) hb45)
 have HB5 := Aside0.mk (below_step (below_step HB3.out HB4.out) hb45)
 have HJ5 := Aside0.mk ((HJ3.out.below HB4.out).below hb45)
 rw [← hW5]
 clear hW5 hb45 BO BR3 BP3 BS3 HB4 HJ3 ep0 ep1 eq0 eq1 HO2
 have o0 : W5.cell? ⟨w2.heap.size, 0, none⟩ = some (.slice Am l1_0.length cm) := (blk_cell BO5.out 0).trans rfl
 have o1 : W5.cell? ⟨w2.heap.size, 1, none⟩ = some (.slice At l1_1.length ct) := (blk_cell BO5.out 1).trans rfl
 have rz0 : W5.cell? ⟨w.heap.size + 1 + 1, 0, none⟩ = some (.slice none 0 0) := (blk_cell BR5.out 0).trans rfl
 have rz1 : W5.cell? ⟨w.heap.size + 1 + 1, 1, none⟩ = some (.slice none 0 0) := (blk_cell BR5.out 1).trans rfl
 have rf0 := blk_frozen BR5.out 0
 have rf1 := blk_frozen BR5.out 1
 go_wp2_with fail
 have eb0 : ((W5.setCell ⟨w.heap.size + 1 + 1, 0, none⟩ (.slice Am l1_0.length cm)).setCell ⟨w.heap.size + 1 + 1, 1, none⟩ (.slice At l1_1.length ct)).cell? ⟨w.heap.size + 1 + 1, 0, none⟩ = some (.slice Am l1_0.length cm) := (blk_cell (blk_set (blk_set BR5.out 0 _) 1 _) 0).trans rfl
 have eb1 : ((W5.setCell ⟨w.heap.size + 1 + 1, 0, none⟩ (.slice Am l1_0.length cm)).setCell ⟨w.heap.size + 1 + 1, 1, none⟩ (.slice At l1_1.length ct)).cell? ⟨w.heap.size + 1 + 1, 1, none⟩ = some (.slice At l1_1.length ct) := (blk_cell (blk_set (blk_set BR5.out 0 _) 1 _) 1).trans rfl
 have hJf := (HJ5.out.other BR5.out (j := 0) (by decide) (by decide) (by decide) (.slice Am l1_0.length cm)).other (blk_set BR5.out 0 _) (j := 1) (by decide) (by decide) (by decide) (.slice At l1_1.length ct)
 exact bodyPost_ret (v := .tuple #[.agg #[.slice Am l1_0.length cm, .slice At l1_1.length ct], .bool false]) (by simp [results, Try.results22, go_sem, eb0, eb1]) rfl ⟨_, _, rfl, hJf, below_set (below_set HB5.out (by omega)) (by omega)⟩
def fencepostref10_Step.f (l0_0 : List Int) (l0_1 : List (List S42)) (l1_0 : List Int) (l1_1 : List S39) (a2 : Int) : Option (List Int × (List S39) × Bool) :=
 if stateB l0_1 l1_0 l1_1 = true then
  (if a2 < 0 ∨ (l1_1.length : Int) ≤ a2 then some (l1_0, l1_1, false)
   else if ((rd_L2 l0_1 a2).length : Int) ≤ (rd_T39 l1_1 a2).f0 then some (l1_0, l1_1, false)
   else if stepB l1_0.length (rd_T42 (rd_L2 l0_1 a2) (rd_T39 l1_1 a2).f0) = true then some ((refF (rd_T42 (rd_L2 l0_1 a2) (rd_T39 l1_1 a2).f0) l1_0 (rd_T39 l1_1 a2)).1, l1_1.set a2.toNat (refF (rd_T42 (rd_L2 l0_1 a2) (rd_T39 l1_1 a2).f0) l1_0 (rd_T39 l1_1 a2)).2, true)
   else none)
 else none
theorem fencepostref10_Step.calls (A0_0 : Option Addr) (c0_0 : Nat) (l0_0 : List Int) (A0_1 : Option Addr) (c0_1 : Nat) (l0_1 : List (List S42)) (A1_0 : Option Addr) (c1_0 : Nat) (l1_0 : List Int) (A1_1 : Option Addr) (c1_1 : Nat) (l1_1 : List S39) (a2 : Int) (r1 : List Int) (r2 : List S39) (r3 : Bool) (w : World)
 (hr0_0 : Kd.C (Kd.int .i64) w A0_0 l0_0.length l0_0) (hc0_0 : l0_0.length ≤ c0_0) (hr0_1 : Kd.C (Kd.slice 42 k42) w A0_1 l0_1.length l0_1) (hc0_1 : l0_1.length ≤ c0_1) (hr1_0 : Kd.C (Kd.int .i64) w A1_0 l1_0.length l1_0) (hc1_0 : l1_0.length ≤ c1_0) (hr1_1 : Kd.C k39 w A1_1 l1_1.length l1_1) (hc1_1 : l1_1.length ≤ c1_1)
 (h : fencepostref10_Step.f l0_0 l0_1 l1_0 l1_1 a2 = some (r1, r2, r3)) :
 Calls Try.prog 22 #[.agg #[.slice A0_0 l0_0.length c0_0, .slice A0_1 l0_1.length c0_1], .agg #[.slice A1_0 l1_0.length c1_0, .slice A1_1 l1_1.length c1_1], .int .i64 a2] w fun e w' => ∃ v0_ v1_ : Value, e = .returned (.tuple #[.agg #[v0_, v1_], .bool r3]) ∧ Kd.V (Kd.int .i64) 3 w' w.heap.size (fun k_ => (w.heap.size ≤ k_)) v0_ r1 ∧ Kd.V k39 39 w' w.heap.size (fun k_ => (w.heap.size ≤ k_)) v1_ r2 ∧ Below w.heap.size w w' := by
 unfold fencepostref10_Step.f at h
 by_cases hst : stateB l0_1 l1_0 l1_1 = true
 ·rw [if_pos hst] at h
  obtain ⟨b1, b2, b3, b4, b5⟩ := stateB_of hst
  obtain ⟨kk, hown⟩ := own_some (fun x hx => ⟨(b4 x hx).1, (b4 x hx).2.1⟩) b2 b1
  have no : a2 < 0 ∨ (l1_1.length : Int) ≤ a2 ∨ ((rd_L2 l0_1 a2).length : Int) ≤ (rd_T39 l1_1 a2).f0 → some (l1_0, l1_1, false) = some (r1, r2, r3) → Calls Try.prog 22 #[.agg #[.slice A0_0 l0_0.length c0_0, .slice A0_1 l0_1.length c0_1], .agg #[.slice A1_0 l1_0.length c1_0, .slice A1_1 l1_1.length c1_1], .int .i64 a2] w fun e w' => ∃ v0_ v1_ : Value, e = .returned (.tuple #[.agg #[v0_, v1_], .bool r3]) ∧ Kd.V (Kd.int .i64) 3 w' w.heap.size (fun k_ => (w.heap.size ≤ k_)) v0_ r1 ∧ Kd.V k39 39 w' w.heap.size (fun k_ => (w.heap.size ≤ k_)) v1_ r2 ∧ Below w.heap.size w w' := fun hn he => by
   simp only [Option.some.injEq, Prod.mk.injEq] at he
   obtain ⟨rfl, rfl, rfl⟩ := he
   refine (refStep_no A0_0 c0_0 l0_0 A0_1 c0_1 l0_1 A1_0 c1_0 l1_0 A1_1 c1_1 l1_1 a2 kk w hr0_0 hc0_0 hr0_1 hc0_1 hr1_0 hc1_0 hr1_1 hc1_1 hown (ats_no b3 a2 hn)).mono ?_
   rintro e w' ⟨v0_, v1_, rfl, hJ, hb⟩
   exact ⟨_, _, rfl, Kd.R_V (Kd.R_mono (Kd.R_bound hJ.mem) (fun _ hk => hk.2.1)), Kd.S_V (Kd.S_mono (Kd.S_bound hJ.ths) (fun _ hk => hk.2.1)), hb⟩
  by_cases q1 : a2 < 0 ∨ (l1_1.length : Int) ≤ a2
  ·rw [if_pos q1] at h
   exact no (q1.elim .inl (fun q => .inr (.inl q))) h
  rw [if_neg q1] at h
  by_cases q3 : ((rd_L2 l0_1 a2).length : Int) ≤ (rd_T39 l1_1 a2).f0
  ·rw [if_pos q3] at h
   exact no (.inr (.inr q3)) h
  rw [if_neg q3] at h
  by_cases q4 : stepB l1_0.length (rd_T42 (rd_L2 l0_1 a2) (rd_T39 l1_1 a2).f0) = true
  ·rw [if_pos q4] at h
   simp only [Option.some.injEq, Prod.mk.injEq] at h
   obtain ⟨rfl, rfl, rfl⟩ := h
   obtain ⟨t, rfl⟩ : ∃ t : Nat, a2 = (t : Int) := ⟨a2.toNat, by omega⟩
   have ht : t < l1_1.length := by omega
   obtain ⟨x, hx⟩ : ∃ x, l1_1[t]? = some x := ⟨_, List.getElem?_eq_getElem ht⟩
   have hxe : rd_T39 l1_1 (t : Int) = x := by unfold rd_T39; rw [Int.toNat_natCast, List.getD_eq_getElem?_getD, hx]; rfl
   rw [hxe] at q3 q4 ⊢
   obtain ⟨hx1, hx3, hx0, hx9⟩ := b4 x (List.mem_of_getElem? hx)
   have hat := ats_yes (A := l0_0) (mem := l1_0) b3 hx hx0 (by omega)
   generalize rd_T42 (rd_L2 l0_1 (t : Int)) x.f0 = s at q4 hat ⊢
   unfold stepB at q4
   simp only [Bool.and_eq_true, Bool.or_eq_true, Bool.not_eq_true', Bool.or_eq_false_iff, decide_eq_true_eq, beq_eq_false_iff_ne] at q4
   obtain ⟨⟨s1, s2⟩, ⟨s3, s4⟩, s5⟩ := q4
   refine (refStep_any A0_0 c0_0 l0_0 A0_1 c0_1 l0_1 A1_0 c1_0 l1_0 A1_1 c1_1 l1_1 t x s kk s.f1.toNat w hr0_0 hc0_0 hr0_1 hc0_1 hr1_0 hc1_0 hr1_1 hc1_1 hx hx1 hx0 hx9 hown hat ⟨s1, s2⟩ (by omega) (by omega) (fun hh => by rcases s5 with s5 | s5 <;> omega)).mono ?_
   rintro e w' ⟨v0_, v1_, rfl, hJ, hb⟩
   exact ⟨_, _, rfl, Kd.R_V (Kd.R_mono (Kd.R_bound hJ.mem) (fun _ hk => hk.2.1)), Kd.S_V (Kd.S_mono (Kd.S_bound hJ.ths) (fun _ hk => hk.2.1)), hb⟩
  ·rw [if_neg q4] at h; exact absurd h (by simp)
 ·rw [if_neg hst] at h; exact absurd h (by simp)
end Go.Proofs.Yteobpfgncohloaa.Print
