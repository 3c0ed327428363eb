/- The code of a program with fences is its code with these (law SlotsCode): what the printed functions answer. -/
import Derived.Test.YtijpfonbeepmfaaPrint20
import Derived.Test.YtijpfonbeepmfaaHCdCode
import Derived.Test.YtijpfonbeepmfaaHHead08
import Derived.Test.YtijpfonbeepmfaaOpens
namespace Go.Proofs.Ytijpfonbeepmfaa.Print
open Go.RowKit Go.Proofs.YtijpfonbeepmfaaW.PrintWords Go.Proofs.YtijpfonbeepmfaaW.PrintLast Go.Proofs.YtijpfonbeepmfaaW.PrintMore
set_option linter.unusedVariables false
set_option linter.unusedSimpArgs false
theorem toL_range (lab : ByteArray) : ∀ (r : List S60) (m tg : Int), 0 ≤ m → 0 ≤ tg → 0 ≤ toL lab r m tg ∧ (toL lab r m tg ≤ tg ∨ toL lab r m tg ≤ m + cnt r)
 | [], m, tg, h0, h1 => by simp [toL]; omega
 | y :: r, m, tg, h0, h1 => by
  simp only [toL, cnt]
  by_cases c1 : y.f0 = 11
  ·simp only [if_pos c1]
   by_cases c2 : y.f3.toList = lab.toList
   ·have := toL_range lab r m m h0 h0
    simp only [c1, c2, and_self, if_true]
    omega
   ·have := toL_range lab r m tg h0 h1
    simp only [c2, and_false, if_false]
    omega
  ·have := toL_range lab r (m + 1) tg (by omega) h1
   simp only [if_neg c1, c1, false_and, if_false]
   push_cast
   omega
theorem toL_fen (g : List Int) (n : Int) (lab : ByteArray) : ∀ (r : List S60) (m tg : Nat), toL lab (fen g r (n + m)) (((m + cntG g n m : Nat) : Int)) (((tg + cntG g n tg : Nat) : Int)) = toL lab r (m : Int) (tg : Int) + cntG g n (toL lab r (m : Int) (tg : Int)).toNat
 | [], m, tg => by simp [fen, toL]
 | x :: r, m, tg => by
  by_cases c1 : x.f0 = 11
  ·have e1 : fen g (x :: r) (n + m) = x :: fen g r (n + m) := by simp only [fen, if_pos c1]
   rw [e1]
   simp only [toL, if_pos c1]
   by_cases c2 : x.f3.toList = lab.toList
   ·simp only [c1, c2, and_self, if_true]
    exact toL_fen g n lab r m m
   ·simp only [c2, and_false, if_false]
    exact toL_fen g n lab r m tg
  ·have hs := cntG_snoc g m n
   have ih := toL_fen g n lab r (m + 1) tg
   have hm : n + ((m + 1 : Nat) : Int) = n + (m : Int) + 1 := by push_cast; omega
   rw [hm] at ih
   have e0 : toL lab (x :: r) (m : Int) (tg : Int) = toL lab r ((m + 1 : Nat) : Int) (tg : Int) := by
    simp only [toL, if_neg c1, c1, false_and, if_false]; push_cast; rfl
   rw [e0, ← ih]
   have ex : ∀ (q : List S60) (z : Int) (w : Int), toL lab (x :: q) z w = toL lab q (z + 1) w := fun q z w => by simp only [toL, if_neg c1, c1, false_and, if_false]
   by_cases cg : n + (m : Int) ∈ g
   ·have e1 : fen g (x :: r) (n + m) = fenceL :: x :: fen g r (n + m + 1) := by simp only [fen, if_neg c1, fenceT, if_pos cg]; rfl
    have ef : ∀ (q : List S60) (z : Int) (w : Int), toL lab (fenceL :: q) z w = toL lab q (z + 1) w := fun q z w => by
     have : ¬ fenceL.f0 = 11 := by decide
     simp only [toL, if_neg this, this, false_and, if_false]
    rw [if_pos cg] at hs
    rw [e1, ef, ex]
    congr 1
    rw [hs]; push_cast; omega
   ·have e1 : fen g (x :: r) (n + m) = x :: fen g r (n + m + 1) := by simp only [fen, if_neg c1, fenceT, if_neg cg]; rfl
    rw [if_neg cg] at hs
    rw [e1, ex]
    congr 1
    rw [hs]; push_cast; omega
def insL (g : List Int) : List S53 → Int → List S53
 | [], _ => []
 | s :: r, n => (if n ∈ g then [fenceS, s] else [s]) ++ insL g r (n + 1)
theorem insF_insL (g : List Int) : ∀ (l : List S53) (out : List S53) (beg : List Int) (n : Int), (l.foldl (insStep g) (out, beg, n)).1 = out ++ insL g l n
 | [], out, beg, n => by simp [insL]
 | s :: r, out, beg, n => by
  have e : insStep g (out, beg, n) s = ((if n ∈ g then out ++ [fenceS] else out) ++ [s], beg ++ [(out.length : Int)], n + 1) := rfl
  rw [List.foldl_cons, e, insF_insL g r]
  simp only [insL]
  split <;> simp
theorem fenceS_of (L : List ByteArray) (l : List S60) : stepF L l fenceL = fenceS := by
 have e : (⟨#[]⟩ : ByteArray).toList = [] := by rw [Go.ByteArray.toList_eq]
 unfold stepF fenceL fenceS
 simp only [e, if_true]
 rw [if_neg (by decide)]
theorem step_fen (g : List Int) (L : List ByteArray) (l : List S60) (n : Int) (x : S60) : toC g n (stepF L l x) = stepF L (fen g l n) x := by
 have h := toL_fen g n x.f3 l 0 0
 have hc0 : cntG g n 0 = 0 := rfl
 simp only [hc0, Nat.add_zero, Int.natCast_zero, Int.add_zero] at h
 unfold toC stepF
 simp only []
 by_cases c1 : 8 ≤ x.f0 ∧ x.f0 ≤ 10
 ·simp only [if_pos c1, if_pos (show x.f0 ≥ 8 from c1.1), h]
 ·simp only [if_neg c1]
  by_cases c2 : x.f0 ≥ 8
  ·simp only [if_pos c2, Int.toNat_zero, hc0]; rfl
  ·simp only [if_neg c2]
theorem code_fen (g : List Int) (L : List ByteArray) (l : List S60) (n : Int) : ∀ (r : List S60) (m : Int), (insL g (codeR L l r) m).map (toC g n) = codeR L (fen g l n) (fen g r m)
 | [], m => rfl
 | x :: r, m => by
  by_cases c1 : x.f0 = 11
  ·simp only [codeR, fen, if_pos c1]
   exact code_fen g L l n r m
  ·have ih := code_fen g L l n r (m + 1)
   have e1 : codeR L l (x :: r) = stepF L l x :: codeR L l r := by simp only [codeR, if_neg c1]
   have e2 : ∀ q, codeR L (fen g l n) (x :: q) = stepF L (fen g l n) x :: codeR L (fen g l n) q := fun q => by simp only [codeR, if_neg c1]
   have e3 : ∀ q, codeR L (fen g l n) (fenceL :: q) = fenceS :: codeR L (fen g l n) q := fun q => by
    have h6 : ¬ fenceL.f0 = 11 := by decide
    simp only [codeR, if_neg h6, fenceS_of]
   rw [e1]
   simp only [insL, List.map_append, ih]
   by_cases cg : m ∈ g
   ·have e4 : fen g (x :: r) m = fenceL :: x :: fen g r (m + 1) := by simp only [fen, if_neg c1, fenceT, if_pos cg]; rfl
    rw [if_pos cg, e4, e3, e2]
    simp only [List.map_cons, List.map_nil, List.cons_append, List.nil_append, toC_fence, step_fen]
   ·have e4 : fen g (x :: r) m = x :: fen g r (m + 1) := by simp only [fen, if_neg c1, fenceT, if_neg cg]; rfl
    rw [if_neg cg, e4, e2]
    simp only [List.map_cons, List.map_nil, List.cons_append, List.nil_append, step_fen]
theorem codeR_mem (L : List ByteArray) (l : List S60) : ∀ (r : List S60) (s : S53), s ∈ codeR L l r → ∃ x, s = stepF L l x
 | [], s, h => by simp [codeR] at h
 | x :: r, s, h => by
  simp only [codeR] at h
  split at h
  ·exact codeR_mem L l r s h
  ·rcases List.mem_cons.1 h with rfl | h
   ·exact ⟨x, rfl⟩
   ·exact codeR_mem L l r s h
theorem code_jumps (L : List ByteArray) (t : S58) : ∀ s ∈ codeT L t, 8 ≤ s.f0 → 0 ≤ s.f4 ∧ s.f4 ≤ ((codeT L t).length : Int) := fun s hs _ => by
 obtain ⟨x, rfl⟩ := codeR_mem L t.f0 t.f0 s hs
 have hlen : ((codeT L t).length : Int) = cnt t.f0 := by unfold codeT; rw [codeR_len]
 have := toL_range x.f3 t.f0 0 0 (by omega) (by omega)
 rw [hlen]
 show 0 ≤ (if 8 ≤ x.f0 ∧ x.f0 ≤ 10 then toL x.f3 t.f0 0 0 else 0) ∧ (if 8 ≤ x.f0 ∧ x.f0 ≤ 10 then toL x.f3 t.f0 0 0 else 0) ≤ _
 split <;> omega
theorem thF_code (g : List Int) (L : List ByteArray) (t : S58) (n : Int) : thF g (codeT L t) n = codeT L ⟨fen g t.f0 n⟩ := by
 rw [thF_toC g _ n (code_jumps L t)]
 unfold insF
 rw [insF_insL, List.nil_append]
 unfold codeT
 exact code_fen g L t.f0 n t.f0 n
theorem prog_code (g : List Int) (L : List ByteArray) : ∀ (T : List S58) (ts : List (List S53)) (n : Int), ((T.map (codeT L)).foldl (progStep g) (ts, n)).1 = ts ++ (fenT g T n).map (codeT L)
 | [], ts, n => by simp [fenT]
 | t :: r, ts, n => by
  rw [List.map_cons, List.foldl_cons]
  have e : progStep g (ts, n) (codeT L t) = (ts ++ [codeT L ⟨fen g t.f0 n⟩], n + cnt t.f0) := by
   unfold progStep
   simp only [thF_code]
   refine Prod.ext rfl ?_
   show n + ((codeT L t).length : Int) = _
   unfold codeT; rw [codeR_len]
  rw [e, prog_code g L r]
  simp only [fenT, List.map_cons, List.append_assoc, List.cons_append, List.nil_append]
theorem fen_mem (g : List Int) : ∀ (l : List S60) (n : Int) (x : S60), x ∈ fen g l n → x = fenceL ∨ x ∈ l
 | [], n, x, h => by simp [fen] at h
 | y :: r, n, x, h => by
  simp only [fen] at h
  split at h
  ·rcases List.mem_cons.1 h with rfl | h
   ·exact .inr (List.mem_cons_self ..)
   ·exact (fen_mem g r n x h).imp id (List.mem_cons_of_mem _)
  ·rcases List.mem_append.1 h with h | h
   ·unfold fenceT at h
    split at h
    ·simp only [List.mem_cons, List.not_mem_nil, or_false] at h
     rcases h with rfl | rfl
     ·exact .inl rfl
     ·exact .inr (List.mem_cons_self ..)
    ·simp only [List.mem_cons, List.not_mem_nil, or_false] at h
     subst h; exact .inr (List.mem_cons_self ..)
   ·exact (fen_mem g r _ x h).imp id (List.mem_cons_of_mem _)
theorem fenT_mem (g : List Int) : ∀ (T : List S58) (n : Int) (t : S58), t ∈ fenT g T n → ∃ t' ∈ T, ∃ m, t = ⟨fen g t'.f0 m⟩
 | [], n, t, h => by simp [fenT] at h
 | y :: r, n, t, h => by
  simp only [fenT, List.mem_cons] at h
  rcases h with rfl | h
  ·exact ⟨y, List.mem_cons_self .., n, rfl⟩
  ·obtain ⟨t', h1, h2⟩ := fenT_mem g r _ t h
   exact ⟨t', List.mem_cons_of_mem _ h1, h2⟩
theorem fileB_fen {N : ByteArray} {I : List S62} {T : List S58} {C : List S64} (g : List Int) (h : FileB N I T C) (hl : ∀ t ∈ T, t.f0.length ≤ 100) : FileB N I (fenT g T 0) C := by
 refine ⟨h.li, by rw [(fenT_len g T 0).1]; exact h.lt, h.lc, fun t ht => ?_, h.sn, h.si, fun t ht x hx => ?_, h.sc⟩
 ·obtain ⟨t', h1, m, rfl⟩ := fenT_mem g T 0 t ht
  have h2 := hl t' h1
  have h3 := fen_len g t'.f0 m
  show (fen g t'.f0 m).length ≤ 200
  omega
 ·obtain ⟨t', h1, m, rfl⟩ := fenT_mem g T 0 t ht
  rcases fen_mem g t'.f0 m x hx with rfl | hx
  ·exact ⟨by unfold StrOk fenceL; decide, by unfold StrOk fenceL; decide⟩
  ·exact h.sl t' h1 x hx
end Go.Proofs.Ytijpfonbeepmfaa.Print
namespace Go.Proofs.Ytijpfonbeepmfaa.Pure
open Go.Proofs.Ytijpfonbeepmfaa.Print Go.RowKit Go.Proofs.YtijpfonbeepmfaaW.PrintWords Go.Proofs.YtijpfonbeepmfaaW.PrintLast Go.Proofs.YtijpfonbeepmfaaW.PrintMore
set_option linter.unusedVariables false
set_option linter.unusedSimpArgs false
theorem SlotsCode (x0 : S30) (x1 : List Int) (g0 : ok30 x0) (g1 : (GoodL (fun x : Int => (Lit.int .i64 x).wf = true)) x1) : ∃ k, fencepostlaw08_SlotsCode.f k x0.f0 x0.f1 x0.f2 x0.f3 x0.f4 x1 = some true := by
  have no : Ev (fun k => fencepostlaw08_SlotsCode.j0 k x1 true true x0.f0 x0.f1 x0.f2 x0.f3 x0.f4) true := by
    refine Ev.step (fun k => by rw [fencepostlaw08_SlotsCode.j0]) ?_
    simp only [if_true]
    exact Ev.now _
  refine Ev.rounds (r := true) ?_
  unfold fencepostlaw08_SlotsCode.f
  simp only [fencepostlaw08_head.f, Option.bind_some]
  obtain ⟨g, hg, hok⟩ := great4_ev x0.f0 x0.f1 x0.f2 x0.f3 x0.f4
  refine Ev.bind hg ?_
  cases g with
  | true => simp only [if_true]; exact no
  | false =>
    simp only [Bool.false_eq_true, if_false]
    have hf := hok rfl
    by_cases c : (x1.length : Int) > 100
    · simp only [if_pos c]; exact no
    · simp only [if_neg c]
      have hl : x1.length ≤ 100 := by omega
      have hF : FileB x0.f0 x0.f1 x0.f2 x0.f4 := ⟨hf.li, hf.lt, hf.lc, fun t ht => by have := hf.ll t ht; omega, g0.g0, fun c hc => (g0.g1.2 c hc).g0, fun t ht x hx => by
        have := (g0.g2.2 t ht).g0.2 x hx
        exact ⟨this.g2, this.g3⟩, fun a ha => (g0.g4.2 a ha).g1⟩
      have hQ := fileB_fen x1 hF hf.ll
      obtain ⟨r1, hr1, hn1⟩ := right4_ex x0.f0 x0.f1 x0.f2 x0.f3 x0.f4 hF
      refine Ev.bind hr1 ?_
      cases r1 with
      | false => simp only [Bool.not_false]; exact no
      | true =>
        simp only [Bool.not_true]
        have hcp := code7_ev x0.f3 hF hr1 (hn1 rfl)
        have eF := fence_f x0.f0 x0.f3 hf g1.2 hl
        obtain ⟨r2, hr2, hn2⟩ := right4_ex x0.f0 x0.f1 (fenT x1 x0.f2 0) x0.f3 x0.f4 hQ
        refine Ev.step (fun k => by rw [fencepostlaw08_SlotsCode.j0]) ?_
        simp only [Bool.false_eq_true, if_false, eF, Option.bind_some]
        refine Ev.bind hcp ?_
        cases r2 with
        | false =>
          refine Ev.bind (a := (([] : List Int), ([] : List (List S53)), (1 : Int))) ?_ ?_
          · unfold fencepostref07_Code.f
            refine Ev.bind hr2 ?_
            simp only [Bool.false_eq_true, if_false]
            exact Ev.now _
          · simp only [if_neg (show ¬ (1 : Int) = 0 by decide), if_true]
            exact Ev.bind hr2 (Ev.now _)
        | true =>
          have hcq := code7_ev x0.f3 hQ hr2 (hn2 rfl)
          rw [locsF_fen] at hcq
          refine Ev.bind hcq ?_
          simp only [if_true]
          generalize hL : locsF x0.f1 x0.f2 x0.f4 = L
          have hlenL : L.length ≤ 3000 := by
            rw [← hL]
            have h1 := locsF_len x0.f1 x0.f2 x0.f4
            have h2 := totLn_le x0.f2 hf.ll
            have h3 := hf.li
            have h4 := hf.lt
            have h5 := hf.lc
            omega
          have hA : (initS L x0.f1 (List.replicate L.length 0)).length = L.length := by rw [initS_len]; simp
          have hrow : ∀ l ∈ x0.f2.map (codeT L), l.length ≤ 100 := fun l hm => by
            obtain ⟨t, ht, rfl⟩ := List.mem_map.1 hm
            have h1 := hf.ll t ht
            have h2 := cnt_le t.f0
            unfold codeT; rw [codeR_len]; omega
          have htot : ∀ B : List (List S53), (∀ l ∈ B, l.length ≤ 100) → totS B ≤ 100 * B.length := by
            intro B
            induction B with
            | nil => intro _; simp [totS]
            | cons l r ih =>
              intro h
              have h1 := h l (List.mem_cons_self ..)
              have h2 := ih (fun x hx => h x (List.mem_cons_of_mem _ hx))
              simp only [totS, List.map_cons, List.sum_cons, List.length_cons] at h2 ⊢
              omega
          have h9 : (x0.f2.map (codeT L)).length ≤ 9 := by rw [List.length_map]; exact hf.lt
          have ht := htot _ hrow
          have hb : insB (initS L x0.f1 (List.replicate L.length 0)) (x0.f2.map (codeT L)) x1 = true := by
            unfold insB
            simp only [Bool.and_eq_true, decide_eq_true_eq, List.all_eq_true, Bool.or_eq_true, Bool.not_eq_true', decide_eq_false_iff_not]
            refine ⟨by omega, by omega, by omega, by omega, fun l hm s hs => ?_, g1.2⟩
            obtain ⟨t, _, rfl⟩ := List.mem_map.1 hm
            by_cases c8 : 8 ≤ s.f0
            · exact .inr (code_jumps L t s hs c8)
            · exact .inl c8
          have eI : slots_Insert.f (initS L x0.f1 (List.replicate L.length 0)) (x0.f2.map (codeT L)) x1 = some (initS L x0.f1 (List.replicate L.length 0), (fenT x1 x0.f2 0).map (codeT L)) := by
            unfold slots_Insert.f
            rw [if_pos hb]
            have := prog_code x1 L x0.f2 [] 0
            rw [List.nil_append] at this
            unfold progF
            rw [this]
          simp only [eI, Option.bind_some]
          refine Ev.bind (same7_refl _ _ (by omega) (by rw [List.length_map, (fenT_len x1 x0.f2 0).1]; have := hf.lt; omega) (fun l hm => ?_)) (Ev.now _)
          obtain ⟨t, ht', rfl⟩ := List.mem_map.1 hm
          have h1 := hQ.ll t ht'
          have h2 := cnt_le t.f0
          unfold codeT; rw [codeR_len]; omega
end Go.Proofs.Ytijpfonbeepmfaa.Pure
