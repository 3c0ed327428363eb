/- slots.Fence: its Lean function and its contract. -/
import Derived.Test.YtijpfonbeepmfaaHSlLines
namespace Go.Proofs.Ytijpfonbeepmfaa.Print
open Go.RowKit Go.Maps Go.Proofs.YtijpfonbeepmfaaW.PrintWords Go.Proofs.YtijpfonbeepmfaaW.PrintLast Go.Proofs.YtijpfonbeepmfaaW.PrintMore
set_option linter.unusedVariables false
set_option linter.unusedSimpArgs false
def fenceTT (g : List Int) (x : S60) (n : Int) (_ : Unit) : List S60 × Int × Unit := (fenceT g x n, n + 1, ())
def eraseTT (g : List Int) (x : S60) (n : Int) (op : Int) : List S60 × Int × Int := eraseT g x n op
theorem fence_short (g : List Int) : Short (fenceTT g) := fun x n s => by unfold fenceTT fenceT; split <;> simp <;> omega
theorem erase_short (g : List Int) : Short (eraseTT g) := fun x n s => by unfold eraseTT eraseT; split <;> simp <;> omega
/-- A program and a row that are no more than may be. -/
def fileB (l2 : List S58) (g : List Int) : Bool := decide (totLn l2 ≤ 1000000) && (decide (l2.length ≤ 1000000) && (decide (g.length ≤ 1000000) && g.all fun x => (Lit.int .i64 x).wf))
theorem fileB_of {l2 : List S58} {g : List Int} (h : fileB l2 g = true) : totLn l2 ≤ 1000000 ∧ l2.length ≤ 1000000 ∧ g.length ≤ 1000000 ∧ ∀ x ∈ g, (Lit.int .i64 x).wf = true := by
 unfold fileB at h
 simp only [Bool.and_eq_true, decide_eq_true_eq, List.all_eq_true] at h
 exact h
def slots_Fence.f (a0_0 : ByteArray) (l0_1 : List S62) (l0_2 : List S58) (a0_3 : Bool) (l0_4 : List S64) (l1 : List Int) : Option (ByteArray × List S62 × List S58 × Bool × List S64) :=
 if fileB l0_2 l1 = true then some (a0_0, l0_1, (linesF (fenceTT l1) l0_2 ()).1, a0_3, l0_4) else none
theorem below_grownN {B : Nat} {w w1 w2 : World} (h : Below B w w1) (hg : w1.grownBy w2 none) (hB : B ≤ w1.heap.size := by omega) : Below B w w2 := pw_below_grown h none hB hg (fun k e => by cases e)
/-- What the functions have captured. -/
def HasI (hb B nn : Nat) (g : List Int) (W : World) : Prop := W.cell? ⟨hb, 0, none⟩ = some (.map (some B)) ∧ MapIs W B nn (cntF g)
theorem HasI.kept {hb B nn : Nat} {g : List Int} {W W' : World} {r : Option Nat} (h : HasI hb B nn g W) (hg : W.grownBy W' r) (h1 : some hb ≠ r) (h2 : some B ≠ r) : HasI hb B nn g W' := ⟨hg.cell h.1 h1, h.2.kept hg h2⟩
theorem turn_fence (g : List Int) (hb B nn : Nat) : Turn 43 #[.pointer (some ⟨hb, 0, none⟩)] (fun (_ : Unit) W => HasI hb B nn g W) none (fenceTT g) := fun x n s W hn hI =>
 (fence_turn x n hb B nn g W hn hI.1 hI.2).mono fun e w' ⟨v, he, hR, hB⟩ => ⟨v, he, hR, hI.kept (grown_of_below hB none) (by simp) (by simp), grown_of_below hB none⟩
set_option maxHeartbeats 4000000 in
set_option maxRecDepth 100000 in
theorem slots_Fence.calls (a0_0 : ByteArray) (P0_1_ : Nat → Prop) (A0_1 : Option Addr) (c0_1 : Nat) (l0_1 : List (S62)) (A0_2 : Option Addr) (c0_2 : Nat) (l0_2 : List (S58)) (a0_3 : Bool) (P0_4_ : Nat → Prop) (A0_4 : Option Addr) (c0_4 : Nat) (l0_4 : List (S64)) (A1 : Option Addr) (c1 : Nat) (l1 : List Int) (r1 : ByteArray) (r2 : List (S62)) (r3 : List (S58)) (r4 : Bool) (r5 : List (S64)) (w : World)
 (hs0_1 : Kd.V k62 62 w w.heap.size (fun k_ => P0_1_ k_) (.slice A0_1 l0_1.length c0_1) l0_1) (hr0_2 : Kd.C k58 w A0_2 l0_2.length l0_2) (hc0_2 : l0_2.length ≤ c0_2) (hs0_4 : Kd.V k64 64 w w.heap.size (fun k_ => P0_4_ k_) (.slice A0_4 l0_4.length c0_4) l0_4) (hr1 : Kd.C (Kd.int .i64) w A1 l1.length l1) (hc1 : l1.length ≤ c1) (h : slots_Fence.f a0_0 l0_1 l0_2 a0_3 l0_4 l1 = some (r1, r2, r3, r4, r5)) :
 Calls Try.prog 25 #[.agg #[.string a0_0, .slice A0_1 l0_1.length c0_1, .slice A0_2 l0_2.length c0_2, .bool a0_3, .slice A0_4 l0_4.length c0_4], .slice A1 l1.length c1] w fun e w' => ∃ v1_ v2_ v4_ : Value, e = .returned (.agg #[.string r1, v1_, v2_, .bool r4, v4_]) ∧ Kd.V k62 62 w' w.heap.size (fun k_ => ((P0_1_ k_ ∨ P0_4_ k_) ∨ w.heap.size ≤ k_) ∧ some k_ ≠ (v2_ : Value).ownBlock) v1_ r2 ∧ Kd.S k58 58 w' w.heap.size (fun k_ => (w.heap.size ≤ k_)) v2_ r3 ∧ Kd.V k64 64 w' w.heap.size (fun k_ => ((P0_1_ k_ ∨ P0_4_ k_) ∨ w.heap.size ≤ k_) ∧ some k_ ≠ (v2_ : Value).ownBlock) v4_ r5 ∧ Below w.heap.size w w' := by
 unfold slots_Fence.f at h
 by_cases hfb : fileB l0_2 l1 = true
 ·rw [if_pos hfb] at h
  simp only [Option.some.injEq, Prod.mk.injEq] at h
  obtain ⟨rfl, rfl, rfl, rfl, rfl⟩ := h
  obtain ⟨b1, b2, b3, b4⟩ := fileB_of hfb
  have hu1 := Try.underlying30
  have HS1 := Aside0.mk hs0_1
  have HS4 := Aside0.mk hs0_4
  have HR2 := Aside0.mk hr0_2
  have HR1 := Aside0.mk hr1
  have HB4 := Aside0.mk b4
  clear hs0_1 hs0_4 hr0_2 hr1 b4 hfb
  obtain ⟨W1, hW1⟩ : ∃ W1, W1 = (w.alloc (.cells #[.string a0_0, .slice A0_1 l0_1.length c0_1, .slice A0_2 l0_2.length c0_2, .bool a0_3, .slice A0_4 l0_4.length c0_4] 30)).alloc (.cells #[.string ⟨#[]⟩, .slice none 0 0, .slice none 0 0, .bool false, .slice none 0 0] 30) := ⟨_, rfl⟩
  have bF : W1.heap[w.heap.size]? = some (.cells #[.string a0_0, .slice A0_1 l0_1.length c0_1, .slice A0_2 l0_2.length c0_2, .bool a0_3, .slice A0_4 l0_4.length c0_4] 30 (0, 0)) := by rw [hW1]; exact blk_alloc (blk_new w _) _
  have bR : W1.heap[w.heap.size + 1]? = some (.cells #[.string ⟨#[]⟩, .slice none 0 0, .slice none 0 0, .bool false, .slice none 0 0] 30 (0, 0)) := by
   have := blk_new (w.alloc (.cells #[.string a0_0, .slice A0_1 l0_1.length c0_1, .slice A0_2 l0_2.length c0_2, .bool a0_3, .slice A0_4 l0_4.length c0_4] 30)) (.cells #[.string ⟨#[]⟩, .slice none 0 0, .slice none 0 0, .bool false, .slice none 0 0] 30)
   rw [World.size_alloc] at this; rw [hW1]; exact this
  have hB1 : Below w.heap.size w W1 := by rw [hW1]; exact below_alloc (below_alloc (Below.refl _ _) _) _
  have HW1 := Aside0.mk hW1
  have BF := Aside0.mk bF
  have BR := Aside0.mk bR
  have HB1 := Aside0.mk hB1
  clear hW1 bF bR hB1
  go_enter Try.func25, Try.ntmps25
  go_upto_region 1 with fail
  rw [← HW1.out]
  go_upto_region 2 with fail
  refine (keys_calls A1 c1 l1 W1 (Kd.C_below HR1.out HB1.out) hc1 HB4.out b3).mono ?_
  rintro e w2 ⟨B, nn, rfl, hM, hBs, hb2⟩
  have HM := Aside0.mk hM
  have HB2 := Aside0.mk hb2
  clear hM hb2
  go_upto_region 2 with fail
  obtain ⟨W3, hW3⟩ : ∃ W3, W3 = w2.alloc (.cells #[.map (some B)] 70) := ⟨_, rfl⟩
  have hb23 : Below w2.heap.size w2 W3 := by rw [hW3]; exact below_alloc (Below.refl _ _) _
  have bH : W3.heap[w2.heap.size]? = some (.cells #[.map (some B)] 70 (0, 0)) := by rw [hW3]; exact blk_new w2 _
  have BF3 := Aside0.mk (blk_below (blk_below BF.out HB2.out) hb23)
  have BR3 := Aside0.mk (blk_below (blk_below BR.out HB2.out) hb23)
  have HB3 := Aside0.mk (below_step (below_step HB1.out HB2.out) hb23)
  have HI3 : Aside0 (HasI w2.heap.size B nn l1 W3) := Aside0.mk ⟨(blk_cell bH 0).trans rfl, HM.out.below hb23⟩
  have hlt : w2.heap.size < W3.heap.size := blk_lt bH
  have hBlt : B < W3.heap.size := by have := HM.out.lt; omega
  rw [← hW3]
  clear hW3 hb23 bH BF BR HB1 HB2 HM
  generalize w2.heap.size = hb at HI3 hlt ⊢
  have f0 : W3.cell? ⟨w.heap.size, 0, none⟩ = some (.string a0_0) := (blk_cell BF3.out 0).trans rfl
  have f1 : W3.cell? ⟨w.heap.size, 1, none⟩ = some (.slice A0_1 l0_1.length c0_1) := (blk_cell BF3.out 1).trans rfl
  have f2 : W3.cell? ⟨w.heap.size, 2, none⟩ = some (.slice A0_2 l0_2.length c0_2) := (blk_cell BF3.out 2).trans rfl
  have f3 : W3.cell? ⟨w.heap.size, 3, none⟩ = some (.bool a0_3) := (blk_cell BF3.out 3).trans rfl
  have f4 : W3.cell? ⟨w.heap.size, 4, none⟩ = some (.slice A0_4 l0_4.length c0_4) := (blk_cell BF3.out 4).trans rfl
  go_wp2_with fail
  refine (lines_calls 43 #[.pointer (some ⟨hb, 0, none⟩)] (fun (_ : Unit) W => HasI hb B nn l1 W) none (fenceTT l1) (Aside0.mk (turn_fence l1 hb B nn)) (fun args w => by kernel_rfl) (Aside0.mk (fence_short l1)) a0_0 A0_1 l0_1.length c0_1 A0_2 c0_2 l0_2 a0_3 A0_4 l0_4.length c0_4 () w W3 HR2.out HB3 hc0_2 (Aside0.mk (fun k e => by cases e)) HI3.out (Aside0.mk (fun s W W' r hI hsz hg hr => hI.kept hg (fun e => by have := hr _ e.symm; omega) (fun e => by have := hr _ e.symm; omega))) b1 b2).mono ?_
  rintro e w4 ⟨v, rfl, hS, hI4, hg4⟩
  obtain ⟨Av, cv, rfl⟩ := Kd.S_slice hS
  have hb4 : Below W3.heap.size W3 w4 := below_grownN (Below.refl _ _) hg4
  have BR4 := Aside0.mk (blk_below BR3.out hb4)
  have HB4' := Aside0.mk (below_step HB3.out hb4)
  have hw3 : w.heap.size ≤ W3.heap.size := HB3.out.size
  have hS4 : Kd.S k58 58 w4 w.heap.size (fun k_ => w.heap.size ≤ k_) (.slice Av (linesF (fenceTT l1) l0_2 ()).1.length cv) (linesF (fenceTT l1) l0_2 ()).1 := Kd.S_lower (Kd.S_mono (Kd.S_bound hS) (fun k hk => by have := hk.2.1; omega)) hw3
  have hv2 : ∀ k, (Value.slice Av (linesF (fenceTT l1) l0_2 ()).1.length cv).ownBlock = some k → W3.heap.size ≤ k := fun k e => Kd.S_base hS k e
  have HV1 := Aside0.mk (Kd.V_below (Kd.V_bound HS1.out) HB4'.out)
  have HV4 := Aside0.mk (Kd.V_below (Kd.V_bound HS4.out) HB4'.out)
  have hw1 : w.heap.size + 1 < W3.heap.size := blk_lt BR3.out
  clear hS hI4 hg4 hb4 f0 f1 f2 f3 f4
  have r0 : w4.cell? ⟨w.heap.size + 1, 0, none⟩ = some (.string ⟨#[]⟩) := (blk_cell BR4.out 0).trans rfl
  have r1 : w4.cell? ⟨w.heap.size + 1, 1, none⟩ = some (.slice none 0 0) := (blk_cell BR4.out 1).trans rfl
  have r2 : w4.cell? ⟨w.heap.size + 1, 2, none⟩ = some (.slice none 0 0) := (blk_cell BR4.out 2).trans rfl
  have r3 : w4.cell? ⟨w.heap.size + 1, 3, none⟩ = some (.bool false) := (blk_cell BR4.out 3).trans rfl
  have r4 : w4.cell? ⟨w.heap.size + 1, 4, none⟩ = some (.slice none 0 0) := (blk_cell BR4.out 4).trans rfl
  have rf0 := blk_frozen BR4.out 0
  have rf1 := blk_frozen BR4.out 1
  have rf2 := blk_frozen BR4.out 2
  have rf3 := blk_frozen BR4.out 3
  have rf4 := blk_frozen BR4.out 4
  have HS4' := Aside0.mk hS4
  have HV2 := Aside0.mk hv2
  clear hS4 hv2
  unfold fileC
  go_wp2_with fail
  clear r0 r1 r2 r3 r4
  have e0 : ((((((w4.setCell ⟨w.heap.size + 1, 0, none⟩ (.string a0_0)).setCell ⟨w.heap.size + 1, 1, none⟩ (.slice A0_1 l0_1.length c0_1)).setCell ⟨w.heap.size + 1, 2, none⟩ (.slice Av (linesF (fenceTT l1) l0_2 ()).1.length cv)).setCell ⟨w.heap.size + 1, 3, none⟩ (.bool a0_3)).setCell ⟨w.heap.size + 1, 4, none⟩ (.slice A0_4 l0_4.length c0_4))).cell? ⟨w.heap.size + 1, 0, none⟩ = some (.string a0_0) := (blk_cell (blk_set (blk_set (blk_set (blk_set (blk_set BR4.out 0 _) 1 _) 2 _) 3 _) 4 _) 0).trans rfl
  have e1 : ((((((w4.setCell ⟨w.heap.size + 1, 0, none⟩ (.string a0_0)).setCell ⟨w.heap.size + 1, 1, none⟩ (.slice A0_1 l0_1.length c0_1)).setCell ⟨w.heap.size + 1, 2, none⟩ (.slice Av (linesF (fenceTT l1) l0_2 ()).1.length cv)).setCell ⟨w.heap.size + 1, 3, none⟩ (.bool a0_3)).setCell ⟨w.heap.size + 1, 4, none⟩ (.slice A0_4 l0_4.length c0_4))).cell? ⟨w.heap.size + 1, 1, none⟩ = some (.slice A0_1 l0_1.length c0_1) := (blk_cell (blk_set (blk_set (blk_set (blk_set (blk_set BR4.out 0 _) 1 _) 2 _) 3 _) 4 _) 1).trans rfl
  have e2 : ((((((w4.setCell ⟨w.heap.size + 1, 0, none⟩ (.string a0_0)).setCell ⟨w.heap.size + 1, 1, none⟩ (.slice A0_1 l0_1.length c0_1)).setCell ⟨w.heap.size + 1, 2, none⟩ (.slice Av (linesF (fenceTT l1) l0_2 ()).1.length cv)).setCell ⟨w.heap.size + 1, 3, none⟩ (.bool a0_3)).setCell ⟨w.heap.size + 1, 4, none⟩ (.slice A0_4 l0_4.length c0_4))).cell? ⟨w.heap.size + 1, 2, none⟩ = some (.slice Av (linesF (fenceTT l1) l0_2 ()).1.length cv) := (blk_cell (blk_set (blk_set (blk_set (blk_set (blk_set BR4.out 0 _) 1 _) 2 _) 3 _) 4 _) 2).trans rfl
  have e3 : ((((((w4.setCell ⟨w.heap.size + 1, 0, none⟩ (.string a0_0)).setCell ⟨w.heap.size + 1, 1, none⟩ (.slice A0_1 l0_1.length c0_1)).setCell ⟨w.heap.size + 1, 2, none⟩ (.slice Av (linesF (fenceTT l1) l0_2 ()).1.length cv)).setCell ⟨w.heap.size + 1, 3, none⟩ (.bool a0_3)).setCell ⟨w.heap.size + 1, 4, none⟩ (.slice A0_4 l0_4.length c0_4))).cell? ⟨w.heap.size + 1, 3, none⟩ = some (.bool a0_3) := (blk_cell (blk_set (blk_set (blk_set (blk_set (blk_set BR4.out 0 _) 1 _) 2 _) 3 _) 4 _) 3).trans rfl
  have e4 : ((((((w4.setCell ⟨w.heap.size + 1, 0, none⟩ (.string a0_0)).setCell ⟨w.heap.size + 1, 1, none⟩ (.slice A0_1 l0_1.length c0_1)).setCell ⟨w.heap.size + 1, 2, none⟩ (.slice Av (linesF (fenceTT l1) l0_2 ()).1.length cv)).setCell ⟨w.heap.size + 1, 3, none⟩ (.bool a0_3)).setCell ⟨w.heap.size + 1, 4, none⟩ (.slice A0_4 l0_4.length c0_4))).cell? ⟨w.heap.size + 1, 4, none⟩ = some (.slice A0_4 l0_4.length c0_4) := (blk_cell (blk_set (blk_set (blk_set (blk_set (blk_set BR4.out 0 _) 1 _) 2 _) 3 _) 4 _) 4).trans rfl
  have hty : ∀ q', q' ∈ 58 :: k58.E → q' ≠ 30 := by
   intro q' hq'; have hq2 : q' ∈ ([58, 60] : List Nat) := hq'; simp at hq2; rcases hq2 with rfl | rfl <;> decide
  have hS4 := HS4'.out
  have hfar : ∀ {P : Nat → Prop} (k : Nat), P k ∧ k < w.heap.size → k ≠ w.heap.size + 1 := fun k hk => by omega
  have hap : ∀ {P Q : Nat → Prop} (k : Nat), P k ∧ k < w.heap.size → (∀ k, P k → Q k) → (Q k ∨ w.heap.size ≤ k) ∧ some k ≠ (Value.slice Av (linesF (fenceTT l1) l0_2 ()).1.length cv).ownBlock := fun k hk hQ => ⟨.inl (hQ k hk.1), fun e => by have := HV2.out k e.symm; omega⟩
  refine bodyPost_ret (v := .agg #[.string a0_0, .slice A0_1 l0_1.length c0_1, .slice Av (linesF (fenceTT l1) l0_2 ()).1.length cv, .bool a0_3, .slice A0_4 l0_4.length c0_4]) (by simp [results, Try.results25, go_sem, e0, e1, e2, e3, e4]) rfl ⟨_, _, _, rfl, Kd.V_mono (Kd.V_far (p := ⟨w.heap.size + 1, 4, none⟩) (Kd.V_far (p := ⟨w.heap.size + 1, 3, none⟩) (Kd.V_far (p := ⟨w.heap.size + 1, 2, none⟩) (Kd.V_far (p := ⟨w.heap.size + 1, 1, none⟩) (Kd.V_far (p := ⟨w.heap.size + 1, 0, none⟩) HV1.out hfar _) hfar _) hfar _) hfar _) hfar _) (fun k hk => hap (P := P0_1_) (Q := fun k => P0_1_ k ∨ P0_4_ k) k hk (fun _ h => Or.inl h)), (Kd.S_set (Kd.S_set (Kd.S_set (Kd.S_set (Kd.S_set hS4 BR4.out hty 0 _) (blk_set BR4.out 0 _) hty 1 _) (blk_set (blk_set BR4.out 0 _) 1 _) hty 2 _) (blk_set (blk_set (blk_set BR4.out 0 _) 1 _) 2 _) hty 3 _) (blk_set (blk_set (blk_set (blk_set BR4.out 0 _) 1 _) 2 _) 3 _) hty 4 _), Kd.V_mono (Kd.V_far (p := ⟨w.heap.size + 1, 4, none⟩) (Kd.V_far (p := ⟨w.heap.size + 1, 3, none⟩) (Kd.V_far (p := ⟨w.heap.size + 1, 2, none⟩) (Kd.V_far (p := ⟨w.heap.size + 1, 1, none⟩) (Kd.V_far (p := ⟨w.heap.size + 1, 0, none⟩) HV4.out hfar _) hfar _) hfar _) hfar _) hfar _) (fun k hk => hap (P := P0_4_) (Q := fun k => P0_1_ k ∨ P0_4_ k) k hk (fun _ h => Or.inr h)), (below_set (below_set (below_set (below_set (below_set HB4'.out (by omega)) (by omega)) (by omega)) (by omega)) (by omega))⟩
 ·rw [if_neg hfb] at h; exact absurd h (by simp)
end Go.Proofs.Ytijpfonbeepmfaa.Print
