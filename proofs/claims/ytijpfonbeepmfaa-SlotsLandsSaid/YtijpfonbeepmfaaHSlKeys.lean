/- slots.keys: the map that it makes of a row of numbers. -/
import Derived.Test.YtijpfonbeepmfaaHMap
import Derived.Lib.Hide
import Derived.Maps.RangeWalk
namespace Go.Proofs.Ytijpfonbeepmfaa.Print
open Go.RowKit Go.Maps Go.Proofs.YtijpfonbeepmfaaW.PrintWords Go.Proofs.YtijpfonbeepmfaaW.PrintLast Go.Proofs.YtijpfonbeepmfaaW.PrintMore
set_option linter.unusedVariables false
set_option linter.unusedSimpArgs false
/-- Cells keep what they hold while a map's block alone turns. -/
theorem cell_map {w w' : World} {B : Nat} {n : Nat} {m : Int → Int} (h : MapIs w B n m) (hg : w.grownBy w' (some B)) {a : Addr} {v : Value} (hc : w.cell? a = some v) : w'.cell? a = some v := by
 have hlt := World.block_lt_of_cell? w a hc
 have hne : some a.block ≠ some B := by
  intro e
  injection e with e
  obtain ⟨D, ⟨es, clock, hb, _⟩, _⟩ := h
  rw [World.cell?, e, hb] at hc
  simp at hc
 have := hg.block a.block hlt hne
 rw [← hc]
 simp only [World.cell?, this]
theorem CI_map {w w' : World} {B : Nat} {n : Nat} {m : Int → Int} (h : MapIs w B n m) (hg : w.grownBy w' (some B)) {A : Option Addr} {c : Nat} {l : List Int} (hc : Kd.C (Kd.int .i64) w A c l) : Kd.C (Kd.int .i64) w' A c l :=
 ⟨hc.1, hc.2.1, fun hn => by
  obtain ⟨ad, e, hr⟩ := hc.2.2 hn
  refine ⟨ad, e, fun j p hp => ?_⟩
  obtain ⟨cs, h1, h2, h3⟩ := hr j p hp
  exact ⟨cs, h1, h2, fun i u hu => cell_map h hg (h3 i u hu)⟩⟩
/-- How often a number stands in a row. -/
def cntF (l : List Int) : Int → Int := l.foldl (fun m x => upd m x (m x + 1)) (fun _ => 0)
theorem cnt_from (l : List Int) : ∀ (m : Int → Int) (n : Nat), (∀ x, 0 ≤ m x ∧ m x ≤ n) → ∀ x, 0 ≤ l.foldl (fun m x => upd m x (m x + 1)) m x ∧ l.foldl (fun m x => upd m x (m x + 1)) m x ≤ n + l.length ∧ (0 < l.foldl (fun m x => upd m x (m x + 1)) m x ↔ 0 < m x ∨ x ∈ l) := by
 induction l with
 | nil => intro m n h x; have := h x; simp; omega
 | cons y r ih =>
  intro m n h x
  have hu : ∀ z, 0 ≤ upd m y (m y + 1) z ∧ upd m y (m y + 1) z ≤ ((n + 1 : Nat) : Int) := fun z => by
   have h1 := h z
   have h2 := h y
   unfold upd
   split <;> omega
  obtain ⟨h1, h2, h3⟩ := ih (upd m y (m y + 1)) (n + 1) hu x
  have hy := h y
  have hx := h x
  refine ⟨h1, by simp only [List.foldl_cons, List.length_cons]; omega, ?_⟩
  rw [List.foldl_cons, h3, List.mem_cons]
  unfold upd
  by_cases e : x = y
  ·simp [e]; omega
  ·simp [e]
theorem cnt_range (l : List Int) (x : Int) : 0 ≤ cntF l x ∧ cntF l x ≤ l.length := by
 have := cnt_from l (fun _ => 0) 0 (fun _ => by simp) x
 unfold cntF
 omega
theorem cnt_pos (l : List Int) (x : Int) : 0 < cntF l x ↔ x ∈ l := by
 have := (cnt_from l (fun _ => 0) 0 (fun _ => by simp) x).2.2
 unfold cntF
 rw [this]
 simp
theorem cnt_snoc (l : List Int) (j : Nat) (h : j < l.length) : cntF (l.take (j + 1)) = upd (cntF (l.take j)) (rd l (j : Int)) (cntF (l.take j) (rd l (j : Int)) + 1) := by
 have e : l.take (j + 1) = l.take j ++ [rd l (j : Int)] := by
  rw [List.take_succ_eq_append_getElem h]; simp [rd, h]
 unfold cntF
 rw [e, List.foldl_append]
 rfl
set_option maxHeartbeats 4000000 in
set_option maxRecDepth 100000 in
theorem keys_calls (A : Option Addr) (c : Nat) (l : List Int) (w : World) (hr : Kd.C (Kd.int .i64) w A l.length l) (hc : l.length ≤ c) (hwf : ∀ x ∈ l, (Lit.int .i64 x).wf = true) (hl : l.length ≤ 1000000) :
 Calls Try.prog 35 #[.slice A l.length c] w fun e w' => ∃ B n, e = .returned (.map (some B)) ∧ MapIs w' B n (cntF l) ∧ w.heap.size ≤ B ∧ Below w.heap.size w w' := by
 have HR := Aside0.mk hr
 have HW := Aside0.mk hwf
 clear hr hwf
 go_enter Try.func35, Try.ntmps35
 have hmm := @run_makeMap Try.prog
 go_wp2_with fail
 have hM0 := Aside0.mk (MapIs.made w)
 clear hmm
 go_loopw [9] (fun i wr => ∃ j : Nat, j ≤ l.length ∧ i = .int .i64 j ∧ Aside0 (∃ n, n ≤ j ∧ MapIs wr w.heap.size n (cntF (l.take j)) ∧ (w.alloc (.map #[] 0)).grownBy wr (some w.heap.size))) (fun i _ => l.length - (intOf i).toNat)
 case atStart => exact ⟨0, Nat.zero_le _, rfl, Aside0.mk ⟨0, Nat.le_refl _, hM0.out, World.grownBy.refl _ _⟩⟩
 case round =>
  obtain ⟨j, hj, rfl, HJ⟩ := hrel
  by_cases hlt : j < l.length
  ·obtain ⟨n, hn, hm, hg⟩ := HJ.out
   have hxm : rd l (j : Int) ∈ l := by
    have e : rd l (j : Int) = l[j] := by simp [rd, hlt]
    rw [e]; exact List.getElem_mem _
   have hwf := HW.out _ hxm
   have hC := CI_map (hM0.out) hg (Kd.C_alloc HR.out _)
   obtain ⟨ad, eA, hx⟩ := Kd.at_int hC (j : Int) (by omega) (by omega)
   cases eA
   rw [Int.toNat_natCast] at hx
   have hsn := cnt_snoc l j hlt
   have hrg := cnt_range (l.take j) (rd l (j : Int))
   rw [List.length_take] at hrg
   generalize rd l (j : Int) = x at hx hxm hwf hsn hrg
   generalize hmj : cntF (l.take j) = m at hm hsn hrg
   have hwf1 : (Lit.int .i64 (m x + 1)).wf = true := wf_i64_of (by omega) (by omega)
   have hlook := (hm.look x hwf).1
   have p1 : ((j : Int) < (l.length : Int)) = True := eq_true (by omega)
   have p2 : (0 ≤ (j : Int)) = True := eq_true (by omega)
   have p3 : (j < l.length) = True := eq_true hlt
   have s1 : m x + 1 ≤ 9223372036854775807 := by omega
   have s2 : -9223372036854775808 ≤ m x + 1 := by omega
   have s3 : (j : Int) + 1 ≤ 9223372036854775807 := by omega
   have s4 : -9223372036854775808 ≤ (j : Int) + 1 := by omega
   have HM := Aside0.mk hm
   have HG := Aside0.mk hg
   have HSN := Aside0.mk hsn
   have HLT := Aside0.mk hlt
   clear hm hg hsn hmj hlt hC HJ
   go_wp2_with (at_mapUpdate; refine wpList_put _ rfl _ _ _ rfl w.heap.size n m rfl HM.out (by omega) x (m x + 1) rfl rfl hwf hwf1 ?_; intro w2 hm2 hg2)
   go_roundw
   case rel => exact ⟨j + 1, HLT.out, by simp, Aside0.mk ⟨n + 1, by omega, by rw [HSN.out]; exact hm2, HG.out.trans hg2⟩⟩
   case measure => have := HLT.out; simp [intOf]; omega
  ·obtain rfl : j = l.length := by omega
   have p1 : ((l.length : Int) < (l.length : Int)) = False := eq_false (by omega)
   go_wp2_with fail
   go_ret
   obtain ⟨n, hn, hm, hg⟩ := HJ.out
   rw [List.take_length] at hm
   refine ⟨_, n, rfl, hm, Nat.le_refl _, ?_⟩
   exact pw_below_grown (below_alloc (Below.refl _ _) _) _ (by rw [World.size_alloc]; omega) hg (fun k e => by cases e; omega)
end Go.Proofs.Ytijpfonbeepmfaa.Print
