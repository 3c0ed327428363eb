/- What Erase answers: plain Lean. -/
import Derived.Test.YtijpfonbeepmfaaHSlFile
namespace Go.Proofs.Ytijpfonbeepmfaa.Print
open Go.RowKit Go.Proofs.YtijpfonbeepmfaaW.PrintWords Go.Proofs.YtijpfonbeepmfaaW.PrintLast Go.Proofs.YtijpfonbeepmfaaW.PrintMore
set_option linter.unusedVariables false
set_option linter.unusedSimpArgs false
theorem lines_tot {σ : Type} {T : S60 → Int → σ → List S60 × Int × σ} (h : Short T) (l : List S58) : ∀ st, totLn (l.foldl (thrStep T) st).1 ≤ totLn st.1 + 2 * totLn l := by
  induction l with
  | nil => intro st; simp [totLn]
  | cons t r ih =>
    intro st
    have h1 := ih (thrStep T st t)
    have h2 := (thr_short h t.f0 ([], st.2.1, st.2.2)).1
    have e : totLn (thrStep T st t).1 = totLn st.1 + (thrF T t.f0 st.2.1 st.2.2).1.length := by unfold thrStep totLn; simp
    have e2 : totLn (t :: r) = t.f0.length + totLn r := by simp [totLn]
    have e3 : (thrF T t.f0 st.2.1 st.2.2).1.length ≤ 0 + 2 * t.f0.length := h2
    rw [List.foldl_cons]
    omega
theorem erase_cases {I : List S62} {T : List S58} {C : List S64} {g : List Int} (N : ByteArray) (b : Bool) (h : FileOk I T C) (hg : ∀ x ∈ g, (Lit.int .i64 x).wf = true) (hl : g.length ≤ 100) :
    (∃ U, slots_Erase.f N I T b C g = some (N, I, U, b, C, true) ∧ slots_Fence.f N I U b C g = some (N, I, T, b, C)) ∨ slots_Erase.f N I T b C g = some (N, I, T, b, C, false) := by
  have h1 := h.lt
  have h2 := totLn_le T h.ll
  have h3 : totLn (T.foldl (thrStep (eraseTT g)) ([], 0, -1)).1 ≤ 0 + 2 * totLn T := lines_tot (erase_short g) T ([], 0, -1)
  have h4 := (lines_short (erase_short g) T ([], 0, -1)).1
  have e0 : totLn ([] : List S58) = 0 := rfl
  have hU : fileB (linesF (eraseTT g) T (-1)).1 g = true := by
    unfold fileB linesF
    simp only [Bool.and_eq_true, decide_eq_true_eq, List.all_eq_true]
    simp only [List.length_nil] at h4
    exact ⟨by omega, by omega, by omega, hg⟩
  unfold slots_Erase.f
  rw [if_pos (fileB_ok h hg hl).1, if_pos hU]
  by_cases c : (linesF (fenceTT g) (linesF (eraseTT g) T (-1)).1 ()).1 = T
  · rw [if_pos c]
    refine .inl ⟨_, rfl, ?_⟩
    unfold slots_Fence.f
    rw [if_pos hU, c]
  · rw [if_neg c]; exact .inr rfl
end Go.Proofs.Ytijpfonbeepmfaa.Print
