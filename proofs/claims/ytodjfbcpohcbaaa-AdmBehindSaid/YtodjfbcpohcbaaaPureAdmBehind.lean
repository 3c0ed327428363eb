/- The slot right behind a step that writes, and is come to, is admissible, if its step does not drain; that right behind one that drains is, only if a jump goes there (law AdmBehind): what the printed functions answer. -/
import Derived.Test.YtodjfbcpohcbaaaPrint7
import Derived.Test.YtodjfbcpohcbaaaHAdmOk
import Derived.Test.YtodjfbcpohcbaaaHHas
import Derived.Test.YtodjfbcpohcbaaaHHead19
import Derived.Test.YtodjfbcpohcbaaaOpens
namespace Go.Proofs.Ytodjfbcpohcbaaa.Print
open Go.RowKit Go.Maps Go.Proofs.YtodjfbcpohcbaaaW.PrintWords Go.Proofs.YtodjfbcpohcbaaaW.PrintLast Go.Proofs.YtodjfbcpohcbaaaW.PrintMore
set_option linter.unusedVariables false
set_option linter.unusedSimpArgs false

theorem way_last {l : List S49} {thr : S49 → Bool} {a c : Int} (h : Way l thr a c) : ∃ y, (y = a ∨ (y < (l.length : Int) ∧ thr (rd_T49 l y) = true)) ∧ c ∈ nexts l y := by
  induction h with
  | @one a b h => exact ⟨a, .inl rfl, h⟩
  | @on a b c h hl ht hw ih =>
    obtain ⟨y, hy, hc⟩ := ih
    rcases hy with rfl | ⟨h2, h3⟩
    · exact ⟨y, .inr ⟨hl, ht⟩, hc⟩
    · exact ⟨y, .inr ⟨h2, h3⟩, hc⟩
theorem next_cases {l : List S49} {y c : Int} (h : c ∈ nexts l y) : 0 ≤ y ∧ y < (l.length : Int) ∧ (c = y + 1 ∨ ((rd_T49 l y).f0 ≥ 8 ∧ (rd_T49 l y).f4 = c)) := by
  unfold nexts at h
  split at h
  · simp at h
  · split at h
    · refine ⟨by omega, by assumption, ?_⟩
      unfold nextOf at h
      repeat' split at h
      all_goals (simp at h; omega)
    · simp at h
theorem next_plain {l : List S49} {y : Int} (h0 : 0 ≤ y) (h1 : y < (l.length : Int)) (h : (rd_T49 l y).f0 < 8) : nexts l y = [y + 1] := by
  unfold nexts nextOf
  rw [if_neg (by omega), if_pos h1, if_neg (by omega), if_neg (by omega), if_neg (by omega)]
def plainAt (l : List S49) (j : Nat) : Bool := decide ((rd_T49 l (j : Int)).f0 < 8)
def jumpAt (l : List S49) (c : Int) (j : Nat) : Bool := decide ((rd_T49 l (j : Int)).f0 ≥ 8) && ((rd_T49 l (j : Int)).f4 == c)
theorem plain_way {l : List S49} (h : (List.range l.length).all (plainAt l) = true) : ∀ k : Nat, k ≤ l.length → k = 0 ∨ Way l anyStep 0 (k : Int)
  | 0, _ => .inl rfl
  | k + 1, hk => by
    rw [List.all_eq_true] at h
    have hp := h k (by rw [List.mem_range]; omega)
    unfold plainAt at hp
    have hn := next_plain (l := l) (y := (k : Int)) (by omega) (by omega) (by simpa using hp)
    have h1 : ((k + 1 : Nat) : Int) ∈ nexts l (k : Int) := by rw [hn]; simp
    rcases plain_way (by rw [List.all_eq_true]; exact h) k (by omega) with rfl | hw
    · exact .inr (.one h1)
    · exact .inr (hw.trans (by omega) rfl (.one h1))
/-- Behind a write, of a thread that does not jump. -/
theorem behind_write {l : List S49} (hF : Fwd l) (k : Nat) (hk : k + 1 < l.length) (hp : (List.range l.length).all (plainAt l) = true) (hw : ((rd_T49 l (k : Int)).f0 == 3 || (rd_T49 l (k : Int)).f0 == 4) = true) : aheadF l (metF l) (k + 1) = true := by
  unfold aheadF
  rw [List.any_eq_true]
  refine ⟨k, by simp, ?_⟩
  unfold aheadAt
  rw [metF_rd l (k : Int) (by omega) (by omega), hw]
  have hm : metAt l (k : Int) = true := by
    rw [metAt_iff hF]
    rcases plain_way hp k (by omega) with rfl | h
    · exact .inl rfl
    · exact .inr h
  have hf : freeD l (k : Int) ((k + 1 : Nat) : Int) = true := by
    rw [freeD_iff hF]
    rw [List.all_eq_true] at hp
    have := hp k (by simp; omega)
    unfold plainAt at this
    exact .one (by rw [next_plain (by omega) (by omega) (by simpa using this)]; simp)
  unfold freeD at hf
  rw [hm, hf]; rfl
/-- Behind a step that drains. -/
theorem behind_drain {l : List S49} (hF : Fwd l) (k : Nat) (hk : k + 1 < l.length) (hd : noDrain (rd_T49 l (k : Int)) = false) (hj : (List.range l.length).any (jumpAt l ((k : Int) + 1)) = false) : aheadF l (metF l) (k + 1) = false := by
  cases h : aheadF l (metF l) (k + 1) with
  | false => rfl
  | true =>
    exfalso
    unfold aheadF at h
    rw [List.any_eq_true] at h
    obtain ⟨i, hi, ha⟩ := h
    rw [List.mem_range] at hi
    unfold aheadAt at ha
    simp only [Bool.and_eq_true] at ha
    obtain ⟨⟨_, hw⟩, hf⟩ := ha
    have hf2 := (freeD_iff hF (a := (i : Int)) (b := ((k + 1 : Nat) : Int))).1 hf
    obtain ⟨y, hy, hc⟩ := way_last hf2
    obtain ⟨h0, h1, h2⟩ := next_cases hc
    have ey : y = (k : Int) := by
      rcases h2 with h2 | ⟨h8, h4⟩
      · omega
      · exfalso
        have : (List.range l.length).any (jumpAt l ((k : Int) + 1)) = true := by
          rw [List.any_eq_true]
          refine ⟨y.toNat, by simp; omega, ?_⟩
          unfold jumpAt
          rw [show ((y.toNat : Nat) : Int) = y by omega]
          simp only [Bool.and_eq_true, decide_eq_true_eq, beq_iff_eq]
          exact ⟨h8, by omega⟩
        rw [this] at hj
        exact absurd hj (by simp)
    subst ey
    rcases hy with hy | ⟨_, hy⟩
    · have e : i = k := by omega
      subst e
      unfold noDrain at hd
      simp only [Bool.or_eq_true, beq_iff_eq] at hw
      rcases hw with hw | hw <;> rw [hw] at hd <;> simp at hd
    · rw [hy] at hd; exact absurd hd (by simp)
theorem slot_inj {B : List (List S49)} {t t' j j' : Nat} (ht : t < B.length) (ht' : t' < B.length) (hj : j < B[t].length) (hj' : j' < B[t'].length) (h : tot (B.take t) + j = tot (B.take t') + j') : t = t' ∧ j = j' := by
  rcases Nat.lt_trichotomy t t' with c | c | c
  · have := tot_take_mono B (show t + 1 ≤ t' by omega)
    rw [tot_take_succ B ht] at this
    omega
  · subst c; exact ⟨rfl, by omega⟩
  · have := tot_take_mono B (show t' + 1 ≤ t by omega)
    rw [tot_take_succ B ht'] at this
    omega
theorem adm_has (B : List (List S49)) (t j : Nat) (ht : t < B.length) (hj : j < B[t].length) : decide (((tot (B.take t) : Int) + (j : Int)) ∈ admFrom 0 B) = admAt B[t] j := by
  rw [Bool.eq_iff_iff, decide_eq_true_eq, admFrom_mem]
  constructor
  · rintro ⟨t', j', ht', hj', ha, e⟩
    obtain ⟨rfl, rfl⟩ := slot_inj ht ht' hj hj' (by omega)
    exact ha
  · intro ha
    exact ⟨t, j, ht, hj, ha, by omega⟩
theorem num_l0 (A : List Int) (B : List (List S49)) (htot : tot B ≤ 1000000) (hB : B.length ≤ 1000) (t j : Nat) (ht : t < B.length) (hj : j < B[t].length) : ∀ (d i : Nat), t - i ≤ d → i ≤ t →
    Ev (fun k => fencepostref08_Num.l0 k (t : Int) ((tot (B.take i) : Int) + (j : Int)) (i : Int) A B) ((tot (B.take t) : Int) + (j : Int)) := by
  have done : Ev (fun k => fencepostref08_Num.l0 k (t : Int) ((tot (B.take t) : Int) + (j : Int)) (t : Int) A B) ((tot (B.take t) : Int) + (j : Int)) := by
    refine Ev.step (fun k => by rw [fencepostref08_Num.l0]) ?_
    simp only [if_neg (show ¬ (t : Int) < (t : Int) by omega)]
    exact Ev.now _
  have h3 := tot_take_le B (t + 1)
  rw [tot_take_succ B ht] at h3
  intro d
  induction d with
  | zero =>
    intro i h1 h2
    obtain rfl : i = t := by omega
    exact done
  | succ d ih =>
    intro i h1 h2
    by_cases c : i < t
    · have hi : i < B.length := by omega
      have h4 := tot_take_mono B (show i + 1 ≤ t by omega)
      have ha := ih (i + 1) (by omega) (by omega)
      rw [tot_take_succ B hi] at h4 ha
      have p1 : (i : Int) < (B.length : Int) := by omega
      have p2 : (0 : Int) ≤ (i : Int) := by omega
      have p3 : (i : Int) < (t : Int) := by omega
      have p6 : wrap64 ((tot (B.take i) : Int) + (j : Int) + (B[i].length : Int)) = ((tot (B.take i) + B[i].length : Nat) : Int) + (j : Int) := by rw [w64 (by omega) (by omega)]; omega
      have p7 := wcast i (by omega)
      refine Ev.step (fun k => by rw [fencepostref08_Num.l0]) ?_
      simp only [rdL2_nat B i hi, if_pos p1, if_pos p2, if_pos p3, p6, p7]
      exact ha
    · obtain rfl : i = t := by omega
      exact done
theorem num_ev (A : List Int) (B : List (List S49)) (htot : tot B ≤ 1000000) (hB : B.length ≤ 1000) (t j : Nat) (ht : t < B.length) (hj : j < B[t].length) :
    Ev (fun k => fencepostref08_Num.f k A B (t : Int) (j : Int)) ((tot (B.take t) : Int) + (j : Int)) := by
  unfold fencepostref08_Num.f
  have := num_l0 A B htot hB t j ht hj t 0 (by omega) (by omega)
  simp only [rdL2_nat B t ht, if_neg (show ¬ (t : Int) < 0 by omega), if_neg (show ¬ (t : Int) ≥ (B.length : Int) by omega), if_neg (show ¬ (j : Int) < 0 by omega), if_pos (show (0 : Int) ≤ (t : Int) by omega), if_pos (show (t : Int) < (B.length : Int) by omega), decide_eq_false (show ¬ (j : Int) ≥ (B[t].length : Int) by omega)]
  refine Ev.step (fun k => by rw [fencepostref08_Num.j0]) ?_
  simp only [Bool.false_eq_true, if_false]
  simpa [tot] using this
theorem bwrites_f (s0 s1 s2 s3 s4 : Int) : fencepostref19_Writes.f s0 s1 s2 s3 s4 = some (s0 == 3 || s0 == 4) := by
  unfold fencepostref19_Writes.f
  by_cases c : s0 = 3
  · simp [c]
  · simp [c]
theorem behind_l0 (l : List S49) (hlen : l.length ≤ 80) (hF : Fwd l) (k : Nat) (hk : k + 1 < l.length) : ∀ (d i : Nat), l.length - i ≤ d → i ≤ l.length →
    Ev (fun q => fencepostlaw19_AdmBehind.l0 q true l (k : Int) (admAt l (k + 1)) (rd_T49 l ((k + 1 : Nat) : Int)).f0 ((List.range i).any (jumpAt l ((k : Int) + 1))) ((List.range i).all (plainAt l)) (i : Int)) true := by
  have fin : Ev (fun q => fencepostlaw19_AdmBehind.l0 q true l (k : Int) (admAt l (k + 1)) (rd_T49 l ((k + 1 : Nat) : Int)).f0 ((List.range l.length).any (jumpAt l ((k : Int) + 1))) ((List.range l.length).all (plainAt l)) (l.length : Int)) true := by
    have p1 : (0 : Int) ≤ (k : Int) := by omega
    have p2 : (k : Int) < (l.length : Int) := by omega
    refine Ev.step (fun q => by rw [fencepostlaw19_AdmBehind.l0]) ?_
    simp only [if_neg (show ¬ (l.length : Int) < (l.length : Int) by omega), if_pos p1, if_pos p2, bwrites_f, Option.bind_some, if_true]
    have tail : Ev (fun _ => if (rd_T49 l (k : Int)).f0 = 6 then (if (List.range l.length).any (jumpAt l ((k : Int) + 1)) = true then (some true) else (some (!admAt l (k + 1)))) else (if (rd_T49 l (k : Int)).f0 = 5 then (if (List.range l.length).any (jumpAt l ((k : Int) + 1)) = true then (some true) else (some (!admAt l (k + 1)))) else (some true))) true := by
      have key : noDrain (rd_T49 l (k : Int)) = false → (if (List.range l.length).any (jumpAt l ((k : Int) + 1)) = true then (some true) else (some (!admAt l (k + 1)))) = some true := by
        intro hd
        cases hj : (List.range l.length).any (jumpAt l ((k : Int) + 1)) with
        | true => rfl
        | false =>
          have := behind_drain hF k hk hd hj
          unfold admAt
          rw [this]; rfl
      by_cases c6 : (rd_T49 l (k : Int)).f0 = 6
      · simp only [if_pos c6]; rw [key (by unfold noDrain; rw [c6]; rfl)]; exact Ev.now _
      · by_cases c5 : (rd_T49 l (k : Int)).f0 = 5
        · simp only [if_neg c6, if_pos c5]; rw [key (by unfold noDrain; rw [c5]; rfl)]; exact Ev.now _
        · simp only [if_neg c6, if_neg c5]; exact Ev.now _
    cases hp : (List.range l.length).all (plainAt l) with
    | false => simp only [Bool.false_eq_true, if_false]; exact tail
    | true =>
      simp only [if_true]
      cases hw : ((rd_T49 l (k : Int)).f0 == 3 || (rd_T49 l (k : Int)).f0 == 4) with
      | false => simp only [Bool.false_eq_true, if_false]; exact tail
      | true =>
        simp only [if_true]
        have hb := behind_write hF k hk hp hw
        by_cases c6 : (rd_T49 l ((k + 1 : Nat) : Int)).f0 = 6
        · have : admAt l (k + 1) = false := by unfold admAt noDrain; rw [c6]; simp
          simp only [if_pos c6, this, bne_self_eq_false, Bool.false_eq_true, if_false]
          rw [this] at tail; exact tail
        · have : admAt l (k + 1) = ((rd_T49 l ((k + 1 : Nat) : Int)).f0 != 5) := by
            unfold admAt noDrain
            rw [hb, Bool.true_and]
            have : ((rd_T49 l ((k + 1 : Nat) : Int)).f0 == 6) = false := by simpa using c6
            rw [this]; rfl
          simp only [if_neg c6, ← this, bne_self_eq_false, Bool.false_eq_true, if_false]
          exact tail
  intro d
  induction d with
  | zero =>
    intro i h1 h2
    obtain rfl : i = l.length := by omega
    exact fin
  | succ d ih =>
    intro i h1 h2
    by_cases c : i < l.length
    · have ha := ih (i + 1) (by omega) (by omega)
      have p1 : (i : Int) < (l.length : Int) := by omega
      have p2 : (0 : Int) ≤ (i : Int) := by omega
      have e1 := wcast i (by omega)
      have e2 : wrap64 ((k : Int) + 1) = (k : Int) + 1 := w64 (by omega) (by omega)
      rw [List.range_succ, List.any_append, List.all_append, List.any_cons, List.any_nil, List.all_cons, List.all_nil, Bool.or_false, Bool.and_true] at ha
      refine Ev.step (fun q => by rw [fencepostlaw19_AdmBehind.l0]) ?_
      simp only [if_pos p1, if_pos p2, e1, e2]
      cases hj : (List.range i).any (jumpAt l ((k : Int) + 1)) with
      | true =>
        rw [hj, Bool.true_or] at ha
        cases hp : (List.range i).all (plainAt l) with
        | true => rw [hp, Bool.true_and] at ha; simp only [if_true]; exact ha
        | false => rw [hp, Bool.false_and] at ha; simp only [if_true, Bool.false_eq_true, if_false]; exact ha
      | false =>
        rw [hj, Bool.false_or] at ha
        unfold jumpAt at ha
        by_cases c8 : (rd_T49 l (i : Int)).f0 ≥ 8
        · rw [decide_eq_true c8, Bool.true_and] at ha
          cases hp : (List.range i).all (plainAt l) with
          | true => rw [hp, Bool.true_and] at ha; simp only [if_true, Bool.false_eq_true, if_false, if_pos c8]; exact ha
          | false => rw [hp, Bool.false_and] at ha; simp only [if_true, Bool.false_eq_true, if_false, if_pos c8]; exact ha
        · rw [decide_eq_false c8, Bool.false_and] at ha
          cases hp : (List.range i).all (plainAt l) with
          | true => rw [hp, Bool.true_and] at ha; simp only [if_true, Bool.false_eq_true, if_false, if_neg c8]; exact ha
          | false => rw [hp, Bool.false_and] at ha; simp only [if_true, Bool.false_eq_true, if_false, if_neg c8]; exact ha
    · obtain rfl : i = l.length := by omega
      exact fin
theorem u8_of_wf {x : Int} (h : (Lit.int .u8 x).wf = true) : 0 ≤ x ∧ x < 256 := by
  have : 0 ≤ x ∧ x ≤ 255 := by simpa [Lit.wf, IntKind.min, IntKind.max, IntKind.bits, IntKind.signed] using h
  omega
end Go.Proofs.Ytodjfbcpohcbaaa.Print
namespace Go.Proofs.Ytodjfbcpohcbaaa.Pure
open Go.RowKit Go.Maps Go.Proofs.YtodjfbcpohcbaaaW.PrintWords Go.Proofs.YtodjfbcpohcbaaaW.PrintLast Go.Proofs.YtodjfbcpohcbaaaW.PrintMore Go.Proofs.Ytodjfbcpohcbaaa.Print
theorem AdmBehind (x0 : S25) (x1 : Int) (x2 : Int) (g0 : ok25 x0) (g1 : (Lit.int .u8 x1).wf = true) (g2 : (Lit.int .u8 x2).wf = true) : ∃ k, fencepostlaw19_AdmBehind.f k x0.f0 x0.f1 x1 x2 = some true := by
  obtain ⟨a0, a1⟩ := u8_of_wf g1
  obtain ⟨b0, b1⟩ := u8_of_wf g2
  refine Ev.rounds (r := true) ?_
  unfold fencepostlaw19_AdmBehind.f
  refine Ev.bind head19 ?_
  obtain ⟨g, hg, hok⟩ := great_ev x0.f0 x0.f1
  refine Ev.bind hg ?_
  cases g with
  | true => simp only [if_true]; exact Ev.now _
  | false =>
    have hc := hok rfl
    have h1 := hc.some_
    have h3 := hc.few
    have htot := hc.tot
    obtain ⟨t, ht⟩ : ∃ t : Nat, t = (x1 % (x0.f1.length : Int)).toNat := ⟨_, rfl⟩
    have m1 := Int.emod_nonneg x1 (show (x0.f1.length : Int) ≠ 0 by omega)
    have m2 := Int.emod_lt_of_pos x1 (show (0 : Int) < (x0.f1.length : Int) by omega)
    have e1 : Int.tmod (wrap64 x1) (x0.f1.length : Int) = (t : Int) := by
      rw [w64 (by omega) (by omega), Int.tmod_eq_emod_of_nonneg a0]; omega
    have htl : t < x0.f1.length := by omega
    simp only [Bool.false_eq_true, if_false, e1, if_neg (show ¬ (x0.f1.length : Int) = 0 by omega), if_pos (show (0 : Int) ≤ (t : Int) by omega), if_pos (show (t : Int) < (x0.f1.length : Int) by omega), rdL2_nat x0.f1 t htl]
    have hlm : x0.f1[t] ∈ x0.f1 := List.getElem_mem htl
    have hlen := hc.len _ hlm
    have hF := hc.fwd _ hlm
    by_cases c2 : (x0.f1[t].length : Int) < 2
    · simp only [if_pos c2]; exact Ev.now _
    · have e2 : wrap64 ((x0.f1[t].length : Int) - 1) = (x0.f1[t].length : Int) - 1 := w64 (by omega) (by omega)
      obtain ⟨k, hk⟩ : ∃ k : Nat, k = (x2 % ((x0.f1[t].length : Int) - 1)).toNat := ⟨_, rfl⟩
      have m3 := Int.emod_nonneg x2 (show ((x0.f1[t].length : Int) - 1) ≠ 0 by omega)
      have m4 := Int.emod_lt_of_pos x2 (show (0 : Int) < ((x0.f1[t].length : Int) - 1) by omega)
      have e3 : Int.tmod (wrap64 x2) ((x0.f1[t].length : Int) - 1) = (k : Int) := by
        rw [w64 (by omega) (by omega), Int.tmod_eq_emod_of_nonneg b0]; omega
      have hkl : k + 1 < x0.f1[t].length := by omega
      simp only [if_neg c2, e2, if_neg (show ¬ (x0.f1[t].length : Int) - 1 = 0 by omega), e3, wcast k (by omega), slots_f (by omega) hc x0.f0, Option.bind_some, if_pos (show (0 : Int) ≤ ((k + 1 : Nat) : Int) by omega), if_pos (show ((k + 1 : Nat) : Int) < (x0.f1[t].length : Int) by omega)]
      refine Ev.bind (num_ev x0.f0 x0.f1 (by omega) (by omega) t (k + 1) htl hkl) ?_
      have hal := admFrom_length x0.f1 0
      refine Ev.bind (has_ev (admFrom 0 x0.f1) _ (by omega)) ?_
      rw [adm_has x0.f1 t (k + 1) htl hkl]
      have := behind_l0 x0.f1[t] (by omega) hF k hkl x0.f1[t].length 0 (by omega) (by omega)
      simpa using this
end Go.Proofs.Ytodjfbcpohcbaaa.Pure
