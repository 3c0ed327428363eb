/- adm.Slots and adm.Keep: their Lean functions and their contracts. -/
import Derived.Test.YtphklaajolpieaaHKept
import Derived.Test.YtphklaajolpieaaHMetF
namespace Go.Proofs.Ytphklaajolpieaa.Print
open Go.RowKit Go.Shelf Go.Proofs.YtphklaajolpieaaW.PrintWords Go.Proofs.YtphklaajolpieaaW.PrintLast Go.Proofs.YtphklaajolpieaaW.PrintMore
set_option linter.unusedVariables false
set_option linter.unusedSimpArgs false
set_option maxRecDepth 100000 in
set_option maxHeartbeats 2000000 in
theorem index_calls (A : Option Addr) (c : Nat) (l : List Int) (v : Int) (w : World) (hC : Kd.C (Kd.int .i64) w A l.length l) (hl : l.length ≤ 1000000) :
    Calls Try.prog 29 #[.slice A l.length c, .int .i64 v] w fun e w' => (∃ i : Int, e = .returned (.int .i64 i) ∧ (0 ≤ i ↔ v ∈ l)) ∧ w' = w := by
  refine (callsIn_wide (n := 5)).1 ?_
  refine callsIn_of_wp Try.func29 rfl trivial ?_ rfl
  simp only [Try.ntmps29, List.size_toArray, List.length_cons, List.length_nil, Nat.reduceAdd, Nat.reduceSub, Array.replicate_succ, Array.replicate_zero, List.push_toArray, List.append_toArray, List.nil_append, List.cons_append]
  gi_wp2
  gi_loopw [8] (fun v8 wr => ∃ k : Nat, k ≤ l.length ∧ v8 = .int .i64 (k : Int) ∧ wr = w ∧ ∀ j : Nat, j < k → ¬ rd l (j : Int) = v) (fun v8 _ => l.length - (intOf v8).toNat)
  case atStart => exact ⟨0, Nat.zero_le _, rfl, rfl, fun j h => by omega⟩
  case round =>
    obtain ⟨k, hk, rfl, rfl, hn⟩ := hrel
    by_cases hlt : k < l.length
    · obtain ⟨q, hq⟩ : ∃ q : Int, q = (k : Int) := ⟨_, rfl⟩
      rw [← hq]
      obtain ⟨ad, rfl, x0⟩ := Kd.at_int hC q (by omega) (by omega)
      have p1 : (0 ≤ q) = True := eq_true (by omega)
      have q1 : (q < (l.length : Int)) = True := eq_true (by omega)
      have s1 : q + 1 ≤ 9223372036854775807 := by omega
      have s2 : -9223372036854775808 ≤ q + 1 := by omega
      have HQ := Aside0.mk hq
      have HLT := Aside0.mk hlt
      obtain ⟨y, hy⟩ : ∃ y, y = rd l q := ⟨_, rfl⟩
      rw [← hy] at x0
      have HY := Aside0.mk hy
      clear hq hlt hk hy
      by_cases cv : v = y
      · have b : (v == y) = true := by simpa using cv
        have CV := Aside0.mk cv
        clear cv
        gi_wp2
        refine bodyPost_ret (results_tmp rfl _ _ _) rfl ?_
        refine ⟨⟨q, rfl, fun _ => ?_, fun _ => by rw [HQ.out]; omega⟩, rfl⟩
        rw [CV.out, HY.out]
        unfold rd
        have := HLT.out
        have := HQ.out
        rw [List.getD_eq_getElem?_getD, List.getElem?_eq_getElem (show q.toNat < l.length by omega)]
        exact List.getElem_mem _
      · have b : (v == y) = false := by simpa using cv
        have CV := Aside0.mk cv
        clear cv
        gi_wp2
        go_roundw
        case rel => exact ⟨k + 1, by have := HLT.out; omega, by have h_ := HQ.out; first | (simp; done) | (simp; omega) | (rw [h_]; simp), by trivial, fun j hj => by
          rcases Nat.lt_or_ge j k with h | h
          · exact hn j h
          · have e : j = k := by omega
            rw [e, ← HQ.out, ← HY.out]; exact fun h => CV.out h.symm⟩
        case measure => have := HLT.out; have := HQ.out; simp [intOf]; omega
    · obtain rfl : k = l.length := by omega
      gi_wp2
      refine bodyPost_ret (results_tmp rfl _ _ _) rfl ?_
      refine ⟨⟨-1, rfl, fun h => by omega, fun h => ?_⟩, rfl⟩
      obtain ⟨j, hj, e⟩ := List.getElem_of_mem h
      exact absurd (by unfold rd; rw [List.getD_eq_getElem?_getD, show ((j : Int)).toNat = j by omega, List.getElem?_eq_getElem hj]; exact e) (hn j hj)
set_option maxRecDepth 100000 in
set_option maxHeartbeats 2000000 in
theorem contains_calls (A : Option Addr) (c : Nat) (l : List Int) (v : Int) (w : World) (hC : Kd.C (Kd.int .i64) w A l.length l) (hl : l.length ≤ 1000000) :
 Calls Try.prog 19 #[.slice A l.length c, .int .i64 v] w fun e w' => e = .returned (.bool (decide (v ∈ l))) ∧ w' = w := by
 refine (callsIn_wide (n := 9)).1 ?_
 refine callsIn_of_wp Try.func19 rfl trivial ?_ rfl
 simp only [Try.ntmps19, List.size_toArray, List.length_cons, List.length_nil, Nat.reduceAdd, Nat.reduceSub, Array.replicate_succ, Array.replicate_zero, List.push_toArray, List.append_toArray, List.nil_append, List.cons_append]
 gi_wp2_with (refine ⟨trivial, ?_⟩; gi_at_call 29; refine (callsIn_wide.2 (index_calls _ _ l v _ hC hl)).mono ?_; rintro e w' ⟨⟨i, rfl, hi⟩, rfl⟩)
 refine bodyPost_ret (results_tmp rfl _ _ _) rfl ?_
 exact ⟨rfl, rfl⟩
set_option maxHeartbeats 1000000 in
theorem slots1_calls (n : Int) (w : World) : Calls Try.prog 20 #[.int .i64 n] w fun e w' => e = .returned (.bool true) ∧ Below w.heap.size w w' := by
 refine (callsIn_wide (n := 5)).1 ?_
 refine callsIn_of_wp Try.func20 rfl trivial ?_ rfl
 simp only [Try.ntmps20, List.size_toArray, List.length_cons, List.length_nil, Nat.reduceAdd, Nat.reduceSub, Array.replicate_succ, Array.replicate_zero, List.push_toArray, List.append_toArray, List.nil_append, List.cons_append]
 gi_wp2
 refine bodyPost_ret (results_tmp rfl _ _ _) rfl ?_
 exact ⟨rfl, Below.refl _ _⟩
set_option maxRecDepth 100000 in
set_option maxHeartbeats 1000000 in
theorem keep1_calls (A : Option Addr) (c B : Nat) (l : List Int) (n : Int) (w : World) (hC : Kd.C (Kd.int .i64) w A l.length l) (hl : l.length ≤ 1000000) (hB : w.cell? ⟨B, 0, none⟩ = some (.slice A l.length c)) :
 Calls Try.prog 18 #[.int .i64 n, .pointer (some ⟨B, 0, none⟩)] w fun e w' => e = .returned (.bool (decide (n ∈ l))) ∧ Below w.heap.size w w' := by
 refine (callsIn_wide (n := 19)).1 ?_
 refine callsIn_of_wp Try.func18 rfl trivial ?_ rfl
 simp only [Try.ntmps18, List.size_toArray, List.length_cons, List.length_nil, Nat.reduceAdd, Nat.reduceSub, Array.replicate_succ, Array.replicate_zero, List.push_toArray, List.append_toArray, List.nil_append, List.cons_append]
 gi_wp2_with (refine ⟨trivial, ?_⟩; gi_at_call 19; refine (callsIn_wide.2 (contains_calls _ _ l n _ hC hl)).mono ?_; rintro e w' ⟨rfl, rfl⟩)
 refine bodyPost_ret (results_tmp rfl _ _ _) rfl ?_
 exact ⟨rfl, Below.refl _ _⟩
theorem adm_size (w : World) (o : Obj) : (w.alloc o).heap.size = w.heap.size + 1 := World.size_alloc w o
/-- Right for these two. -/
def admOk (zs : List (List S36)) : Bool := decide (zs.length ≤ 1000) && (decide (tot zs ≤ 1000000) && zs.all fun l => decide (l.length ≤ 1000) && fwdB l)
theorem admOk_of {zs : List (List S36)} (h : admOk zs = true) : zs.length ≤ 1000 ∧ tot zs ≤ 1000000 ∧ ∀ l ∈ zs, l.length ≤ 1000 ∧ fwdB l = true ∧ (metF l).length = l.length + 1 ∧ ∃ kk, cfg_Met.f kk l = some (metF l) := by
 unfold admOk at h
 simp only [Bool.and_eq_true, decide_eq_true_eq, List.all_eq_true] at h
 exact ⟨h.1, h.2.1, fun l hl => ⟨(h.2.2 l hl).1, (h.2.2 l hl).2, metF_length l, (metF_ev l (h.2.2 l hl).1 (h.2.2 l hl).2).rounds⟩⟩
def adm_Slots.f (l0_0 : List Int) (l0_1 : List (List S36)) : Option (List Int) := if admOk l0_1 = true then some (keptF metF l0_1 (fun _ => true) l0_1.length) else none
def adm_Keep.f (l0_0 : List Int) (l0_1 : List (List S36)) (l1 : List Int) : Option (List Int) := if admOk l0_1 = true ∧ l1.length ≤ 1000000 then some (keptF metF l0_1 (fun n => decide (n ∈ l1)) l0_1.length) else none
set_option maxRecDepth 100000 in
set_option maxHeartbeats 1000000 in
theorem adm_Slots.calls (A0_0 : Option Addr) (c0_0 : Nat) (l0_0 : List Int) (A0_1 : Option Addr) (c0_1 : Nat) (l0_1 : List (List S36)) (r : List Int) (w : World) (hr0_0 : Kd.C (Kd.int .i64) w A0_0 l0_0.length l0_0) (hc0_0 : l0_0.length ≤ c0_0) (hr0_1 : Kd.C (Kd.slice 36 k36) w A0_1 l0_1.length l0_1) (hc0_1 : l0_1.length ≤ c0_1) (h : adm_Slots.f l0_0 l0_1 = some r) :
 Calls Try.prog 10 #[.agg #[.slice A0_0 l0_0.length c0_0, .slice A0_1 l0_1.length c0_1]] w fun e w' => ∃ v0_ : Value, e = .returned (v0_) ∧ Kd.R (Kd.int .i64) 3 w' w.heap.size (fun _ => True) v0_ r ∧ Below w.heap.size w w' := by
 unfold adm_Slots.f at h
 by_cases hok : admOk l0_1 = true
 ·rw [if_pos hok] at h
  obtain rfl := Option.some.inj h
  obtain ⟨h1, h2, h3⟩ := admOk_of hok
  refine (callsIn_wide (n := 41)).1 ?_
  refine callsIn_of_wp Try.func10 rfl trivial ?_ rfl
  simp only [Try.ntmps10, List.size_toArray, List.length_cons, List.length_nil, Nat.reduceAdd, Nat.reduceSub, Array.replicate_succ, Array.replicate_zero, List.push_toArray, List.append_toArray, List.nil_append, List.cons_append]
  obtain ⟨W2, hW2⟩ : ∃ W2, W2 = w.alloc (.cells #[.slice A0_0 l0_0.length c0_0, .slice A0_1 l0_1.length c0_1] 25) := ⟨_, rfl⟩
  have sz : W2.heap.size = w.heap.size + 1 := by rw [hW2]; exact adm_size _ _
  have hC2 : (Kd.slice 36 k36).C W2 A0_1 l0_1.length l0_1 := by rw [hW2]; exact Kd.C_alloc hr0_1 _
  have hb2 : Below w.heap.size w W2 := by rw [hW2]; exact below_alloc (Below.refl _ _) _
  have HW2 := Aside0.mk hW2
  clear hW2
  gi_wp2_with (refine ⟨trivial, ?_⟩; gi_at_call 17; rw [← HW2.out]; refine (kept_in A0_0 A0_1 l0_0.length c0_0 c0_1 l0_1 20 #[] (fun _ => true) metF W2 hC2 h3 h1 h2 (enters_of Try.func20 (by kernel_rfl) rfl) (fun n W _ => slots1_calls n W)).mono ?_; rintro e w' ⟨v, rfl, hR, hb⟩)
  gi_wp2
  refine bodyPost_ret (results_tmp rfl _ _ _) rfl ?_
  exact ⟨v, rfl, Kd.R_lower hR (by omega), hb2.trans (hb.mono (by omega))⟩
 ·rw [if_neg hok] at h; exact absurd h (by simp)
set_option maxRecDepth 100000 in
set_option maxHeartbeats 1000000 in
theorem adm_Keep.calls (A0_0 : Option Addr) (c0_0 : Nat) (l0_0 : List Int) (A0_1 : Option Addr) (c0_1 : Nat) (l0_1 : List (List S36)) (A1 : Option Addr) (c1 : Nat) (l1 : List Int) (r : List Int) (w : World) (hr0_0 : Kd.C (Kd.int .i64) w A0_0 l0_0.length l0_0) (hc0_0 : l0_0.length ≤ c0_0) (hr0_1 : Kd.C (Kd.slice 36 k36) w A0_1 l0_1.length l0_1) (hc0_1 : l0_1.length ≤ c0_1) (hr1 : Kd.C (Kd.int .i64) w A1 l1.length l1) (hc1 : l1.length ≤ c1) (h : adm_Keep.f l0_0 l0_1 l1 = some r) :
 Calls Try.prog 8 #[.agg #[.slice A0_0 l0_0.length c0_0, .slice A0_1 l0_1.length c0_1], .slice A1 l1.length c1] w fun e w' => ∃ v0_ : Value, e = .returned (v0_) ∧ Kd.R (Kd.int .i64) 3 w' w.heap.size (fun _ => True) v0_ r ∧ Below w.heap.size w w' := by
 unfold adm_Keep.f at h
 by_cases hok : admOk l0_1 = true ∧ l1.length ≤ 1000000
 ·rw [if_pos hok] at h
  obtain rfl := Option.some.inj h
  obtain ⟨h1, h2, h3⟩ := admOk_of hok.1
  have hl1 := hok.2
  refine (callsIn_wide (n := 41)).1 ?_
  refine callsIn_of_wp Try.func8 rfl trivial ?_ rfl
  simp only [Try.ntmps8, List.size_toArray, List.length_cons, List.length_nil, Nat.reduceAdd, Nat.reduceSub, Array.replicate_succ, Array.replicate_zero, List.push_toArray, List.append_toArray, List.nil_append, List.cons_append]
  obtain ⟨W1, hW1⟩ : ∃ W1, W1 = w.alloc (.cells #[.slice A0_0 l0_0.length c0_0, .slice A0_1 l0_1.length c0_1] 25) := ⟨_, rfl⟩
  obtain ⟨W2, hW2⟩ : ∃ W2, W2 = W1.alloc (.cells #[.slice A1 l1.length c1] 22) := ⟨_, rfl⟩
  have sz1 : W1.heap.size = w.heap.size + 1 := by rw [hW1]; exact adm_size _ _
  have sz : W2.heap.size = W1.heap.size + 1 := by rw [hW2]; exact adm_size _ _
  have hC2 : (Kd.slice 36 k36).C W2 A0_1 l0_1.length l0_1 := by rw [hW2, hW1]; exact Kd.C_alloc (Kd.C_alloc hr0_1 _) _
  have hL2 : (Kd.int .i64).C W2 A1 l1.length l1 := by rw [hW2, hW1]; exact Kd.C_alloc (Kd.C_alloc hr1 _) _
  have hB2 : W2.heap[w.heap.size + 1]? = some (.cells #[.slice A1 l1.length c1] 22 (0, 0)) := by rw [hW2, ← sz1]; exact blk_new _ _
  have hb2 : Below w.heap.size w W2 := by rw [hW2, hW1]; exact ((Below.refl _ _).alloc (Nat.le_refl _) _).alloc (by rw [← hW1]; omega) _
  have HW2 : Aside0 (W2 = (w.alloc (.cells #[.slice A0_0 l0_0.length c0_0, .slice A0_1 l0_1.length c0_1] 25)).alloc (.cells #[.slice A1 l1.length c1] 22)) := Aside0.mk (by rw [hW2, hW1])
  clear hW2 hW1
  have hcell : ∀ W : World, Below W2.heap.size W2 W → W.cell? ⟨w.heap.size + 1, 0, none⟩ = some (.slice A1 l1.length c1) := by
   intro W hb
   have e : W.heap[w.heap.size + 1]? = some (.cells #[.slice A1 l1.length c1] 22 (0, 0)) := (hb.block _ (by omega)).trans hB2
   simp [World.cell?, e]
  have HB2 := Aside0.mk hB2
  clear hB2
  gi_wp2_with (refine ⟨trivial, ?_⟩; gi_at_call 17; rw [← HW2.out]; refine (kept_in A0_0 A0_1 l0_0.length c0_0 c0_1 l0_1 18 #[.pointer (some ⟨w.heap.size + 1, 0, none⟩)] (fun n => decide (n ∈ l1)) metF W2 hC2 h3 h1 h2 (enters_of Try.func18 (by kernel_rfl) rfl) (fun n W hb => keep1_calls A1 c1 (w.heap.size + 1) l1 n W (Kd.C_below hL2 hb) hl1 (hcell W hb))).mono ?_; rintro e w' ⟨v, rfl, hR, hb⟩)
  refine bodyPost_ret (results_tmp rfl _ _ _) rfl ?_
  exact ⟨v, rfl, Kd.R_lower hR (by omega), hb2.trans (hb.mono (by omega))⟩
 ·rw [if_neg hok] at h; exact absurd h (by simp)
end Go.Proofs.Ytphklaajolpieaa.Print
