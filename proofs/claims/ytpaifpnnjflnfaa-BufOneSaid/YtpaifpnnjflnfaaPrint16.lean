-- Written by ownprint.py (this session's) with the kit's print.py: functions, contracts, rows; Lean checks it.
import Derived.Test.YtpaifpnnjflnfaaPrint0
import Derived.Test.YtpaifpnnjflnfaaPrint2
import Derived.Test.YtpaifpnnjflnfaaPrint15
import Derived.Test.YtpaifpnnjflnfaaHLast
import Derived.Test.YtpaifpnnjflnfaaHPush
namespace Go.Proofs.Ytpaifpnnjflnfaa.Print
open Go.RowKit Go.Proofs.YtpaifpnnjflnfaaW.PrintWords Go.Proofs.YtpaifpnnjflnfaaW.PrintLast Go.Proofs.YtpaifpnnjflnfaaW.PrintMore
attribute [local go_sem] max2_int min2_int max_two min_two max_three min_three max_four min_four   -- for this text's walks alone
set_option linter.unusedVariables false
set_option linter.unusedSimpArgs false

/-! ### fencepostlaw09_head: function 29 -/
def fencepostlaw09_head.g (k : Nat)  : Option (Bool) := (buf_Push.f ([] : List (S51)) 1 5).bind fun t551 => ((buf_Push.f t551 1 6).bind fun t554 => ((buf_Last.f t554 1).bind fun bt557 => ((buf_Last.f t554 0).bind fun bt559 => ((buf_View.f t554 (([7, 8] : List Int)) 0).bind fun bt564 => ((buf_View.f t554 (([7, 8] : List Int)) 2).bind fun bt569 => ((buf_Drain.f k t554 (([7, 8] : List Int))).bind fun bt574 => ((buf_Drain.f k ([] : List (S51)) (([7] : List Int))).bind fun bt584 => (if bt557.1 = 6 then (if bt557.2 = true then (if bt559.2 = true then (some false) else (if bt564.1 = 7 then (if bt564.2 = true then (if bt569.2 = true then (some false) else ((fencepostref09_Same.f k bt574.1 (([(⟨1, 6⟩ : S51)] : List (S51)))).bind fun t594 => (if t594 = true then ((fencepostref07_SameInts.f k bt574.2.1 (([7, 5] : List Int))).bind fun t598 => (if t598 = true then (if bt574.2.2 = true then (if bt584.2.2 = true then (some false) else ((buf_All.f k t554 (([7, 8] : List Int))).bind fun t602 => ((fencepostref07_SameInts.f k t602 (([7, 6] : List Int))).bind fun t608 => (some t608)))) else (some false)) else (some false))) else (some false)))) else (some false)) else (some false))) else (some false)) else (some false)))))))))
theorem fencepostlaw09_head.monoT : ∀ k, LeO (fencepostlaw09_head.g k ) (fencepostlaw09_head.g (k + 1) ) := by
  intro  k
  unfold fencepostlaw09_head.g
  repeat' first
      | (with_reducible exact buf_All.mono _ _ _)
      | (with_reducible exact buf_Drain.mono _ _ _)
      | (with_reducible exact fencepostref07_SameInts.mono _ _ _)
      | (with_reducible exact fencepostref09_Same.mono _ _ _)
      | (with_reducible exact LeO.refl _)
      | (with_reducible exact LeO.none _)
      | (with_reducible refine LeO.ite ?_ ?_)
      | (with_reducible refine LeO.bind ?_ (fun _ => ?_))
      | exact buf_All.mono _ _ _
      | exact buf_Drain.mono _ _ _
      | exact fencepostref07_SameInts.mono _ _ _
      | exact fencepostref09_Same.mono _ _ _
      | exact LeO.none _
      | refine LeO.ite ?_ ?_
      | refine LeO.bind ?_ (fun _ => ?_)
set_option maxHeartbeats 8000000 in
set_option maxRecDepth 100000 in
theorem fencepostlaw09_head.callsT (k : Nat)  (r : Bool) (w : World) (ht_ : r = true) (h : fencepostlaw09_head.g k  = some r) :
    Calls Try.prog 29 #[] w fun e w' => e = .returned (.bool r) ∧ Below w.heap.size w w' := by
  have hu51 := Try.underlying51
  have HB := Aside0.mk (Below.refl w.heap.size w)
  have HT := Aside0.mk ht_
  clear ht_
  have H : ((buf_Push.f ([] : List (S51)) 1 5).bind fun t551 => ((buf_Push.f t551 1 6).bind fun t554 => ((buf_Last.f t554 1).bind fun bt557 => ((buf_Last.f t554 0).bind fun bt559 => ((buf_View.f t554 (([7, 8] : List Int)) 0).bind fun bt564 => ((buf_View.f t554 (([7, 8] : List Int)) 2).bind fun bt569 => ((buf_Drain.f k t554 (([7, 8] : List Int))).bind fun bt574 => ((buf_Drain.f k ([] : List (S51)) (([7] : List Int))).bind fun bt584 => (if bt557.1 = 6 then (if bt557.2 = true then (if bt559.2 = true then (some false) else (if bt564.1 = 7 then (if bt564.2 = true then (if bt569.2 = true then (some false) else ((fencepostref09_Same.f k bt574.1 (([(⟨1, 6⟩ : S51)] : List (S51)))).bind fun t594 => (if t594 = true then ((fencepostref07_SameInts.f k bt574.2.1 (([7, 5] : List Int))).bind fun t598 => (if t598 = true then (if bt574.2.2 = true then (if bt584.2.2 = true then (some false) else ((buf_All.f k t554 (([7, 8] : List Int))).bind fun t602 => ((fencepostref07_SameInts.f k t602 (([7, 6] : List Int))).bind fun t608 => (some t608)))) else (some false)) else (some false))) else (some false)))) else (some false)) else (some false))) else (some false)) else (some false)))))))))) = some r := h
  clear h
  replace H := Option.bind_eq_some_iff.mp H
  obtain ⟨t551, A10, H⟩ := H
  replace H : ((buf_Push.f t551 1 6).bind fun t554 => ((buf_Last.f t554 1).bind fun bt557 => ((buf_Last.f t554 0).bind fun bt559 => ((buf_View.f t554 (([7, 8] : List Int)) 0).bind fun bt564 => ((buf_View.f t554 (([7, 8] : List Int)) 2).bind fun bt569 => ((buf_Drain.f k t554 (([7, 8] : List Int))).bind fun bt574 => ((buf_Drain.f k ([] : List (S51)) (([7] : List Int))).bind fun bt584 => (if bt557.1 = 6 then (if bt557.2 = true then (if bt559.2 = true then (some false) else (if bt564.1 = 7 then (if bt564.2 = true then (if bt569.2 = true then (some false) else ((fencepostref09_Same.f k bt574.1 (([(⟨1, 6⟩ : S51)] : List (S51)))).bind fun t594 => (if t594 = true then ((fencepostref07_SameInts.f k bt574.2.1 (([7, 5] : List Int))).bind fun t598 => (if t598 = true then (if bt574.2.2 = true then (if bt584.2.2 = true then (some false) else ((buf_All.f k t554 (([7, 8] : List Int))).bind fun t602 => ((fencepostref07_SameInts.f k t602 (([7, 6] : List Int))).bind fun t608 => (some t608)))) else (some false)) else (some false))) else (some false)))) else (some false)) else (some false))) else (some false)) else (some false))))))))) = some r := H
  have A1 := Aside0.mk A10
  clear A10
  replace H := Option.bind_eq_some_iff.mp H
  obtain ⟨t554, A20, H⟩ := H
  replace H : ((buf_Last.f t554 1).bind fun bt557 => ((buf_Last.f t554 0).bind fun bt559 => ((buf_View.f t554 (([7, 8] : List Int)) 0).bind fun bt564 => ((buf_View.f t554 (([7, 8] : List Int)) 2).bind fun bt569 => ((buf_Drain.f k t554 (([7, 8] : List Int))).bind fun bt574 => ((buf_Drain.f k ([] : List (S51)) (([7] : List Int))).bind fun bt584 => (if bt557.1 = 6 then (if bt557.2 = true then (if bt559.2 = true then (some false) else (if bt564.1 = 7 then (if bt564.2 = true then (if bt569.2 = true then (some false) else ((fencepostref09_Same.f k bt574.1 (([(⟨1, 6⟩ : S51)] : List (S51)))).bind fun t594 => (if t594 = true then ((fencepostref07_SameInts.f k bt574.2.1 (([7, 5] : List Int))).bind fun t598 => (if t598 = true then (if bt574.2.2 = true then (if bt584.2.2 = true then (some false) else ((buf_All.f k t554 (([7, 8] : List Int))).bind fun t602 => ((fencepostref07_SameInts.f k t602 (([7, 6] : List Int))).bind fun t608 => (some t608)))) else (some false)) else (some false))) else (some false)))) else (some false)) else (some false))) else (some false)) else (some false)))))))) = some r := H
  have A2 := Aside0.mk A20
  clear A20
  replace H := Option.bind_eq_some_iff.mp H
  obtain ⟨⟨t557, t558⟩, A30, H⟩ := H
  replace H : ((buf_Last.f t554 0).bind fun bt559 => ((buf_View.f t554 (([7, 8] : List Int)) 0).bind fun bt564 => ((buf_View.f t554 (([7, 8] : List Int)) 2).bind fun bt569 => ((buf_Drain.f k t554 (([7, 8] : List Int))).bind fun bt574 => ((buf_Drain.f k ([] : List (S51)) (([7] : List Int))).bind fun bt584 => (if t557 = 6 then (if t558 = true then (if bt559.2 = true then (some false) else (if bt564.1 = 7 then (if bt564.2 = true then (if bt569.2 = true then (some false) else ((fencepostref09_Same.f k bt574.1 (([(⟨1, 6⟩ : S51)] : List (S51)))).bind fun t594 => (if t594 = true then ((fencepostref07_SameInts.f k bt574.2.1 (([7, 5] : List Int))).bind fun t598 => (if t598 = true then (if bt574.2.2 = true then (if bt584.2.2 = true then (some false) else ((buf_All.f k t554 (([7, 8] : List Int))).bind fun t602 => ((fencepostref07_SameInts.f k t602 (([7, 6] : List Int))).bind fun t608 => (some t608)))) else (some false)) else (some false))) else (some false)))) else (some false)) else (some false))) else (some false)) else (some false))))))) = some r := H
  have A3 := Aside0.mk A30
  clear A30
  replace H := Option.bind_eq_some_iff.mp H
  obtain ⟨⟨t559, t560⟩, A40, H⟩ := H
  replace H : ((buf_View.f t554 (([7, 8] : List Int)) 0).bind fun bt564 => ((buf_View.f t554 (([7, 8] : List Int)) 2).bind fun bt569 => ((buf_Drain.f k t554 (([7, 8] : List Int))).bind fun bt574 => ((buf_Drain.f k ([] : List (S51)) (([7] : List Int))).bind fun bt584 => (if t557 = 6 then (if t558 = true then (if t560 = true then (some false) else (if bt564.1 = 7 then (if bt564.2 = true then (if bt569.2 = true then (some false) else ((fencepostref09_Same.f k bt574.1 (([(⟨1, 6⟩ : S51)] : List (S51)))).bind fun t594 => (if t594 = true then ((fencepostref07_SameInts.f k bt574.2.1 (([7, 5] : List Int))).bind fun t598 => (if t598 = true then (if bt574.2.2 = true then (if bt584.2.2 = true then (some false) else ((buf_All.f k t554 (([7, 8] : List Int))).bind fun t602 => ((fencepostref07_SameInts.f k t602 (([7, 6] : List Int))).bind fun t608 => (some t608)))) else (some false)) else (some false))) else (some false)))) else (some false)) else (some false))) else (some false)) else (some false)))))) = some r := H
  have A4 := Aside0.mk A40
  clear A40
  obtain ⟨y561, hy561⟩ : ∃ y_ : List Int, y_ = (([7, 8] : List Int)) := ⟨_, rfl⟩
  replace H : ((buf_View.f t554 y561 0).bind fun bt564 => ((buf_View.f t554 (([7, 8] : List Int)) 2).bind fun bt569 => ((buf_Drain.f k t554 (([7, 8] : List Int))).bind fun bt574 => ((buf_Drain.f k ([] : List (S51)) (([7] : List Int))).bind fun bt584 => (if t557 = 6 then (if t558 = true then (if t560 = true then (some false) else (if bt564.1 = 7 then (if bt564.2 = true then (if bt569.2 = true then (some false) else ((fencepostref09_Same.f k bt574.1 (([(⟨1, 6⟩ : S51)] : List (S51)))).bind fun t594 => (if t594 = true then ((fencepostref07_SameInts.f k bt574.2.1 (([7, 5] : List Int))).bind fun t598 => (if t598 = true then (if bt574.2.2 = true then (if bt584.2.2 = true then (some false) else ((buf_All.f k t554 (([7, 8] : List Int))).bind fun t602 => ((fencepostref07_SameInts.f k t602 (([7, 6] : List Int))).bind fun t608 => (some t608)))) else (some false)) else (some false))) else (some false)))) else (some false)) else (some false))) else (some false)) else (some false)))))) = some r := by first | (rw [hy561]; with_reducible exact H) | (have H2_ := (Option.bind_some _ _).symm.trans H; rw [hy561]; with_reducible exact H2_) | (have H2_ := (Option.bind_some _ _).symm.trans H; with_reducible exact H2_) | with_reducible exact H | (rw [hy561]; exact H) | exact H
  have Ny561 := Aside0.mk hy561
  clear hy561
  replace H := Option.bind_eq_some_iff.mp H
  obtain ⟨⟨t564, t565⟩, A50, H⟩ := H
  replace H : ((buf_View.f t554 (([7, 8] : List Int)) 2).bind fun bt569 => ((buf_Drain.f k t554 (([7, 8] : List Int))).bind fun bt574 => ((buf_Drain.f k ([] : List (S51)) (([7] : List Int))).bind fun bt584 => (if t557 = 6 then (if t558 = true then (if t560 = true then (some false) else (if t564 = 7 then (if t565 = true then (if bt569.2 = true then (some false) else ((fencepostref09_Same.f k bt574.1 (([(⟨1, 6⟩ : S51)] : List (S51)))).bind fun t594 => (if t594 = true then ((fencepostref07_SameInts.f k bt574.2.1 (([7, 5] : List Int))).bind fun t598 => (if t598 = true then (if bt574.2.2 = true then (if bt584.2.2 = true then (some false) else ((buf_All.f k t554 (([7, 8] : List Int))).bind fun t602 => ((fencepostref07_SameInts.f k t602 (([7, 6] : List Int))).bind fun t608 => (some t608)))) else (some false)) else (some false))) else (some false)))) else (some false)) else (some false))) else (some false)) else (some false))))) = some r := H
  have A5 := Aside0.mk A50
  clear A50
  obtain ⟨y566, hy566⟩ : ∃ y_ : List Int, y_ = (([7, 8] : List Int)) := ⟨_, rfl⟩
  replace H : ((buf_View.f t554 y566 2).bind fun bt569 => ((buf_Drain.f k t554 (([7, 8] : List Int))).bind fun bt574 => ((buf_Drain.f k ([] : List (S51)) (([7] : List Int))).bind fun bt584 => (if t557 = 6 then (if t558 = true then (if t560 = true then (some false) else (if t564 = 7 then (if t565 = true then (if bt569.2 = true then (some false) else ((fencepostref09_Same.f k bt574.1 (([(⟨1, 6⟩ : S51)] : List (S51)))).bind fun t594 => (if t594 = true then ((fencepostref07_SameInts.f k bt574.2.1 (([7, 5] : List Int))).bind fun t598 => (if t598 = true then (if bt574.2.2 = true then (if bt584.2.2 = true then (some false) else ((buf_All.f k t554 (([7, 8] : List Int))).bind fun t602 => ((fencepostref07_SameInts.f k t602 (([7, 6] : List Int))).bind fun t608 => (some t608)))) else (some false)) else (some false))) else (some false)))) else (some false)) else (some false))) else (some false)) else (some false))))) = some r := by first | (rw [hy566]; with_reducible exact H) | (have H2_ := (Option.bind_some _ _).symm.trans H; rw [hy566]; with_reducible exact H2_) | (have H2_ := (Option.bind_some _ _).symm.trans H; with_reducible exact H2_) | with_reducible exact H | (rw [hy566]; exact H) | exact H
  have Ny566 := Aside0.mk hy566
  clear hy566
  replace H := Option.bind_eq_some_iff.mp H
  obtain ⟨⟨t569, t570⟩, A60, H⟩ := H
  replace H : ((buf_Drain.f k t554 (([7, 8] : List Int))).bind fun bt574 => ((buf_Drain.f k ([] : List (S51)) (([7] : List Int))).bind fun bt584 => (if t557 = 6 then (if t558 = true then (if t560 = true then (some false) else (if t564 = 7 then (if t565 = true then (if t570 = true then (some false) else ((fencepostref09_Same.f k bt574.1 (([(⟨1, 6⟩ : S51)] : List (S51)))).bind fun t594 => (if t594 = true then ((fencepostref07_SameInts.f k bt574.2.1 (([7, 5] : List Int))).bind fun t598 => (if t598 = true then (if bt574.2.2 = true then (if bt584.2.2 = true then (some false) else ((buf_All.f k t554 (([7, 8] : List Int))).bind fun t602 => ((fencepostref07_SameInts.f k t602 (([7, 6] : List Int))).bind fun t608 => (some t608)))) else (some false)) else (some false))) else (some false)))) else (some false)) else (some false))) else (some false)) else (some false)))) = some r := H
  have A6 := Aside0.mk A60
  clear A60
  obtain ⟨y571, hy571⟩ : ∃ y_ : List Int, y_ = (([7, 8] : List Int)) := ⟨_, rfl⟩
  replace H : ((buf_Drain.f k t554 y571).bind fun bt574 => ((buf_Drain.f k ([] : List (S51)) (([7] : List Int))).bind fun bt584 => (if t557 = 6 then (if t558 = true then (if t560 = true then (some false) else (if t564 = 7 then (if t565 = true then (if t570 = true then (some false) else ((fencepostref09_Same.f k bt574.1 (([(⟨1, 6⟩ : S51)] : List (S51)))).bind fun t594 => (if t594 = true then ((fencepostref07_SameInts.f k bt574.2.1 (([7, 5] : List Int))).bind fun t598 => (if t598 = true then (if bt574.2.2 = true then (if bt584.2.2 = true then (some false) else ((buf_All.f k t554 (([7, 8] : List Int))).bind fun t602 => ((fencepostref07_SameInts.f k t602 (([7, 6] : List Int))).bind fun t608 => (some t608)))) else (some false)) else (some false))) else (some false)))) else (some false)) else (some false))) else (some false)) else (some false)))) = some r := by first | (rw [hy571]; with_reducible exact H) | (have H2_ := (Option.bind_some _ _).symm.trans H; rw [hy571]; with_reducible exact H2_) | (have H2_ := (Option.bind_some _ _).symm.trans H; with_reducible exact H2_) | with_reducible exact H | (rw [hy571]; exact H) | exact H
  have Ny571 := Aside0.mk hy571
  clear hy571
  replace H := Option.bind_eq_some_iff.mp H
  obtain ⟨⟨t574, t575, t576⟩, A70, H⟩ := H
  replace H : ((buf_Drain.f k ([] : List (S51)) (([7] : List Int))).bind fun bt584 => (if t557 = 6 then (if t558 = true then (if t560 = true then (some false) else (if t564 = 7 then (if t565 = true then (if t570 = true then (some false) else ((fencepostref09_Same.f k t574 (([(⟨1, 6⟩ : S51)] : List (S51)))).bind fun t594 => (if t594 = true then ((fencepostref07_SameInts.f k t575 (([7, 5] : List Int))).bind fun t598 => (if t598 = true then (if t576 = true then (if bt584.2.2 = true then (some false) else ((buf_All.f k t554 (([7, 8] : List Int))).bind fun t602 => ((fencepostref07_SameInts.f k t602 (([7, 6] : List Int))).bind fun t608 => (some t608)))) else (some false)) else (some false))) else (some false)))) else (some false)) else (some false))) else (some false)) else (some false))) = some r := H
  have A7 := Aside0.mk A70
  clear A70
  obtain ⟨y581, hy581⟩ : ∃ y_ : List Int, y_ = (([7] : List Int)) := ⟨_, rfl⟩
  replace H : ((buf_Drain.f k ([] : List (S51)) y581).bind fun bt584 => (if t557 = 6 then (if t558 = true then (if t560 = true then (some false) else (if t564 = 7 then (if t565 = true then (if t570 = true then (some false) else ((fencepostref09_Same.f k t574 (([(⟨1, 6⟩ : S51)] : List (S51)))).bind fun t594 => (if t594 = true then ((fencepostref07_SameInts.f k t575 (([7, 5] : List Int))).bind fun t598 => (if t598 = true then (if t576 = true then (if bt584.2.2 = true then (some false) else ((buf_All.f k t554 (([7, 8] : List Int))).bind fun t602 => ((fencepostref07_SameInts.f k t602 (([7, 6] : List Int))).bind fun t608 => (some t608)))) else (some false)) else (some false))) else (some false)))) else (some false)) else (some false))) else (some false)) else (some false))) = some r := by first | (rw [hy581]; with_reducible exact H) | (have H2_ := (Option.bind_some _ _).symm.trans H; rw [hy581]; with_reducible exact H2_) | (have H2_ := (Option.bind_some _ _).symm.trans H; with_reducible exact H2_) | with_reducible exact H | (rw [hy581]; exact H) | exact H
  have Ny581 := Aside0.mk hy581
  clear hy581
  replace H := Option.bind_eq_some_iff.mp H
  obtain ⟨⟨t584, t585, t586⟩, A80, H⟩ := H
  replace H : (if t557 = 6 then (if t558 = true then (if t560 = true then (some false) else (if t564 = 7 then (if t565 = true then (if t570 = true then (some false) else ((fencepostref09_Same.f k t574 (([(⟨1, 6⟩ : S51)] : List (S51)))).bind fun t594 => (if t594 = true then ((fencepostref07_SameInts.f k t575 (([7, 5] : List Int))).bind fun t598 => (if t598 = true then (if t576 = true then (if t586 = true then (some false) else ((buf_All.f k t554 (([7, 8] : List Int))).bind fun t602 => ((fencepostref07_SameInts.f k t602 (([7, 6] : List Int))).bind fun t608 => (some t608)))) else (some false)) else (some false))) else (some false)))) else (some false)) else (some false))) else (some false)) else (some false)) = some r := H
  have A8 := Aside0.mk A80
  clear A80
  by_cases c9 : t557 = 6
  · rw [if_pos c9] at H
    have c9b0 : (t557 == 6) = true := beq_iff_eq.mpr c9
    have c9b1 : (t557 != 6) = false := bne_eq_false_iff_eq.mpr c9
    clear c9
    by_cases c10 : t558 = true
    · subst c10
      have H1 : (if t560 = true then (some false) else (if t564 = 7 then (if t565 = true then (if t570 = true then (some false) else ((fencepostref09_Same.f k t574 (([(⟨1, 6⟩ : S51)] : List (S51)))).bind fun t594 => (if t594 = true then ((fencepostref07_SameInts.f k t575 (([7, 5] : List Int))).bind fun t598 => (if t598 = true then (if t576 = true then (if t586 = true then (some false) else ((buf_All.f k t554 (([7, 8] : List Int))).bind fun t602 => ((fencepostref07_SameInts.f k t602 (([7, 6] : List Int))).bind fun t608 => (some t608)))) else (some false)) else (some false))) else (some false)))) else (some false)) else (some false))) = some r := by rw [if_pos rfl] at H; exact H
      clear H
      have H := H1
      clear H1
      by_cases c11 : t560 = true
      · subst c11
        have H1 : (some false) = some r := by rw [if_pos rfl] at H; exact H
        clear H
        have H := H1
        clear H1
        exact absurd ((Option.some.inj H).trans HT.out) (by simp)
      · replace c11 := Bool.eq_false_iff.mpr c11
        subst c11
        have H1 : (if t564 = 7 then (if t565 = true then (if t570 = true then (some false) else ((fencepostref09_Same.f k t574 (([(⟨1, 6⟩ : S51)] : List (S51)))).bind fun t594 => (if t594 = true then ((fencepostref07_SameInts.f k t575 (([7, 5] : List Int))).bind fun t598 => (if t598 = true then (if t576 = true then (if t586 = true then (some false) else ((buf_All.f k t554 (([7, 8] : List Int))).bind fun t602 => ((fencepostref07_SameInts.f k t602 (([7, 6] : List Int))).bind fun t608 => (some t608)))) else (some false)) else (some false))) else (some false)))) else (some false)) else (some false)) = some r := by rw [if_neg (show ¬ (false = true) by decide)] at H; exact H
        clear H
        have H := H1
        clear H1
        by_cases c12 : t564 = 7
        · rw [if_pos c12] at H
          have c12b0 : (t564 == 7) = true := beq_iff_eq.mpr c12
          have c12b1 : (t564 != 7) = false := bne_eq_false_iff_eq.mpr c12
          clear c12
          by_cases c13 : t565 = true
          · subst c13
            have H1 : (if t570 = true then (some false) else ((fencepostref09_Same.f k t574 (([(⟨1, 6⟩ : S51)] : List (S51)))).bind fun t594 => (if t594 = true then ((fencepostref07_SameInts.f k t575 (([7, 5] : List Int))).bind fun t598 => (if t598 = true then (if t576 = true then (if t586 = true then (some false) else ((buf_All.f k t554 (([7, 8] : List Int))).bind fun t602 => ((fencepostref07_SameInts.f k t602 (([7, 6] : List Int))).bind fun t608 => (some t608)))) else (some false)) else (some false))) else (some false)))) = some r := by rw [if_pos rfl] at H; exact H
            clear H
            have H := H1
            clear H1
            by_cases c14 : t570 = true
            · subst c14
              have H1 : (some false) = some r := by rw [if_pos rfl] at H; exact H
              clear H
              have H := H1
              clear H1
              exact absurd ((Option.some.inj H).trans HT.out) (by simp)
            · replace c14 := Bool.eq_false_iff.mpr c14
              subst c14
              have H1 : ((fencepostref09_Same.f k t574 (([(⟨1, 6⟩ : S51)] : List (S51)))).bind fun t594 => (if t594 = true then ((fencepostref07_SameInts.f k t575 (([7, 5] : List Int))).bind fun t598 => (if t598 = true then (if t576 = true then (if t586 = true then (some false) else ((buf_All.f k t554 (([7, 8] : List Int))).bind fun t602 => ((fencepostref07_SameInts.f k t602 (([7, 6] : List Int))).bind fun t608 => (some t608)))) else (some false)) else (some false))) else (some false))) = some r := by rw [if_neg (show ¬ (false = true) by decide)] at H; exact H
              clear H
              have H := H1
              clear H1
              obtain ⟨y591, hy591⟩ : ∃ y_ : List (S51), y_ = (([(⟨1, 6⟩ : S51)] : List (S51))) := ⟨_, rfl⟩
              replace H : ((fencepostref09_Same.f k t574 y591).bind fun t594 => (if t594 = true then ((fencepostref07_SameInts.f k t575 (([7, 5] : List Int))).bind fun t598 => (if t598 = true then (if t576 = true then (if t586 = true then (some false) else ((buf_All.f k t554 (([7, 8] : List Int))).bind fun t602 => ((fencepostref07_SameInts.f k t602 (([7, 6] : List Int))).bind fun t608 => (some t608)))) else (some false)) else (some false))) else (some false))) = some r := by first | (rw [hy591]; with_reducible exact H) | (have H2_ := (Option.bind_some _ _).symm.trans H; rw [hy591]; with_reducible exact H2_) | (have H2_ := (Option.bind_some _ _).symm.trans H; with_reducible exact H2_) | with_reducible exact H | (rw [hy591]; exact H) | exact H
              have Ny591 := Aside0.mk hy591
              clear hy591
              replace H := Option.bind_eq_some_iff.mp H
              obtain ⟨t594, A150, H⟩ := H
              replace H : (if t594 = true then ((fencepostref07_SameInts.f k t575 (([7, 5] : List Int))).bind fun t598 => (if t598 = true then (if t576 = true then (if t586 = true then (some false) else ((buf_All.f k t554 (([7, 8] : List Int))).bind fun t602 => ((fencepostref07_SameInts.f k t602 (([7, 6] : List Int))).bind fun t608 => (some t608)))) else (some false)) else (some false))) else (some false)) = some r := H
              have A15 := Aside0.mk A150
              clear A150
              by_cases c16 : t594 = true
              · subst c16
                have H1 : ((fencepostref07_SameInts.f k t575 (([7, 5] : List Int))).bind fun t598 => (if t598 = true then (if t576 = true then (if t586 = true then (some false) else ((buf_All.f k t554 (([7, 8] : List Int))).bind fun t602 => ((fencepostref07_SameInts.f k t602 (([7, 6] : List Int))).bind fun t608 => (some t608)))) else (some false)) else (some false))) = some r := by rw [if_pos rfl] at H; exact H
                clear H
                have H := H1
                clear H1
                obtain ⟨y595, hy595⟩ : ∃ y_ : List Int, y_ = (([7, 5] : List Int)) := ⟨_, rfl⟩
                replace H : ((fencepostref07_SameInts.f k t575 y595).bind fun t598 => (if t598 = true then (if t576 = true then (if t586 = true then (some false) else ((buf_All.f k t554 (([7, 8] : List Int))).bind fun t602 => ((fencepostref07_SameInts.f k t602 (([7, 6] : List Int))).bind fun t608 => (some t608)))) else (some false)) else (some false))) = some r := by first | (rw [hy595]; with_reducible exact H) | (have H2_ := (Option.bind_some _ _).symm.trans H; rw [hy595]; with_reducible exact H2_) | (have H2_ := (Option.bind_some _ _).symm.trans H; with_reducible exact H2_) | with_reducible exact H | (rw [hy595]; exact H) | exact H
                have Ny595 := Aside0.mk hy595
                clear hy595
                replace H := Option.bind_eq_some_iff.mp H
                obtain ⟨t598, A170, H⟩ := H
                replace H : (if t598 = true then (if t576 = true then (if t586 = true then (some false) else ((buf_All.f k t554 (([7, 8] : List Int))).bind fun t602 => ((fencepostref07_SameInts.f k t602 (([7, 6] : List Int))).bind fun t608 => (some t608)))) else (some false)) else (some false)) = some r := H
                have A17 := Aside0.mk A170
                clear A170
                by_cases c18 : t598 = true
                · subst c18
                  have H1 : (if t576 = true then (if t586 = true then (some false) else ((buf_All.f k t554 (([7, 8] : List Int))).bind fun t602 => ((fencepostref07_SameInts.f k t602 (([7, 6] : List Int))).bind fun t608 => (some t608)))) else (some false)) = some r := by rw [if_pos rfl] at H; exact H
                  clear H
                  have H := H1
                  clear H1
                  by_cases c19 : t576 = true
                  · subst c19
                    have H1 : (if t586 = true then (some false) else ((buf_All.f k t554 (([7, 8] : List Int))).bind fun t602 => ((fencepostref07_SameInts.f k t602 (([7, 6] : List Int))).bind fun t608 => (some t608)))) = some r := by rw [if_pos rfl] at H; exact H
                    clear H
                    have H := H1
                    clear H1
                    by_cases c20 : t586 = true
                    · subst c20
                      have H1 : (some false) = some r := by rw [if_pos rfl] at H; exact H
                      clear H
                      have H := H1
                      clear H1
                      exact absurd ((Option.some.inj H).trans HT.out) (by simp)
                    · replace c20 := Bool.eq_false_iff.mpr c20
                      subst c20
                      have H1 : ((buf_All.f k t554 (([7, 8] : List Int))).bind fun t602 => ((fencepostref07_SameInts.f k t602 (([7, 6] : List Int))).bind fun t608 => (some t608))) = some r := by rw [if_neg (show ¬ (false = true) by decide)] at H; exact H
                      clear H
                      have H := H1
                      clear H1
                      obtain ⟨y599, hy599⟩ : ∃ y_ : List Int, y_ = (([7, 8] : List Int)) := ⟨_, rfl⟩
                      replace H : ((buf_All.f k t554 y599).bind fun t602 => ((fencepostref07_SameInts.f k t602 (([7, 6] : List Int))).bind fun t608 => (some t608))) = some r := by first | (rw [hy599]; with_reducible exact H) | (have H2_ := (Option.bind_some _ _).symm.trans H; rw [hy599]; with_reducible exact H2_) | (have H2_ := (Option.bind_some _ _).symm.trans H; with_reducible exact H2_) | with_reducible exact H | (rw [hy599]; exact H) | exact H
                      have Ny599 := Aside0.mk hy599
                      clear hy599
                      replace H := Option.bind_eq_some_iff.mp H
                      obtain ⟨t602, A210, H⟩ := H
                      replace H : ((fencepostref07_SameInts.f k t602 (([7, 6] : List Int))).bind fun t608 => (some t608)) = some r := H
                      have A21 := Aside0.mk A210
                      clear A210
                      obtain ⟨y605, hy605⟩ : ∃ y_ : List Int, y_ = (([7, 6] : List Int)) := ⟨_, rfl⟩
                      replace H : ((fencepostref07_SameInts.f k t602 y605).bind fun t608 => (some t608)) = some r := by first | (rw [hy605]; with_reducible exact H) | (have H2_ := (Option.bind_some _ _).symm.trans H; rw [hy605]; with_reducible exact H2_) | (have H2_ := (Option.bind_some _ _).symm.trans H; with_reducible exact H2_) | with_reducible exact H | (rw [hy605]; exact H) | exact H
                      have Ny605 := Aside0.mk hy605
                      clear hy605
                      replace H := Option.bind_eq_some_iff.mp H
                      obtain ⟨t608, A220, H⟩ := H
                      replace H : (some t608) = some r := H
                      have A22 := Aside0.mk A220
                      clear A220
                      obtain rfl := Option.some.inj H
                      go_enter Try.func29, Try.ntmps29
                      (try simp only [List.append_eq, List.cons_append, List.nil_append])
                      go_wp2_with (first | ((with_reducible refine gate_callee (f := 38) rfl ?_); refine goesL_ (some 17) rfl rfl Try.func38 (by kernel_rfl) rfl #[.slice none 0 0, .agg #[.int .i64 1, .int .i64 5]] rfl (by (try simp only [List.map_toArray, List.map_cons, List.map_nil]); first | done | rfl | (simp only [List.length_drop, List.length_take]; rfl)) ?_; (refine (buf_Push.calls _ _ ([] : List (S51)) 1 5 t551 _ ?side1 ?side2 A1.out).mono ?_); (case side1 => exact Kd.C_nil _ _); (case side2 => exact Nat.le_refl _); rintro e w23 ⟨v552, rfl, ho0, hb⟩; refine ⟨_, rfl, ?_⟩; have n0_ := Aside0.mk (Kd.R_lower ho0 (below_size (by repeat (first | (with_reducible first | exact HB.out | apply below_alloc | apply pw_below_drewN | apply below_drew1) | exact HB.out)))); have n1_ := Aside0.mk (below_step (by repeat (first | (with_reducible first | exact HB.out | apply below_alloc | apply pw_below_drewN | apply below_drew1) | exact HB.out)) hb); clear HB; have HO553 := n0_; have HB := n1_; clear n0_ n1_; (try clear hb); (try clear hb2); (try clear hk); (try clear hi); (try clear ho0); obtain ⟨Ao24, co24, eo24⟩ := Kd.R_slice HO553.out; subst eo24) | ((with_reducible refine gate_callee (f := 38) rfl ?_); refine goesL_ (some 19) rfl rfl Try.func38 (by kernel_rfl) rfl #[.slice Ao24 t551.length co24, .agg #[.int .i64 1, .int .i64 6]] rfl (by (try simp only [List.map_toArray, List.map_cons, List.map_nil]); first | done | rfl | (simp only [List.length_drop, List.length_take]; rfl)) ?_; (with_reducible refine (buf_Push.calls _ _ t551 1 6 t554 _ ?side1 ?side2 A2.out).mono ?_); (case side1 => repeat (first | exact (Kd.R_reads' HO553.out).2.2 | (with_reducible refine Kd.C_alloc ?_ _) | (with_reducible refine Kd.C_drewN ?_ _) | (with_reducible refine Kd.C_drew ?_))); (case side2 => exact (Kd.R_reads' HO553.out).2.1); rintro e w25 ⟨v555, rfl, ho0, hb⟩; refine ⟨_, rfl, ?_⟩; have n0_ := Aside0.mk (Kd.R_elder' (by (with_reducible repeat (first | apply Kd.R_alloc | apply Kd.R_drewN | apply Kd.R_drew)); exact HO553.out) (Kd.R_base ho0) hb); have n1_ := Aside0.mk (Kd.R_lower (Kd.R_new' ho0 (Kd.R_lt (by (with_reducible repeat (first | apply Kd.R_alloc | apply Kd.R_drewN | apply Kd.R_drew)); exact HO553.out))) (below_size (by repeat (first | (with_reducible first | exact HB.out | apply below_alloc | apply pw_below_drewN | apply below_drew1) | exact HB.out)))); have n2_ := Aside0.mk (below_step (by repeat (first | (with_reducible first | exact HB.out | apply below_alloc | apply pw_below_drewN | apply below_drew1) | exact HB.out)) hb); clear HO553; clear HB; have HO553 := n0_; have HO556 := n1_; have HB := n2_; clear n0_ n1_ n2_; (try clear hb); (try clear hb2); (try clear hk); (try clear hi); (try clear ho0); obtain ⟨Ao26, co26, eo26⟩ := Kd.R_slice HO556.out; subst eo26) | ((with_reducible refine gate_callee (f := 31) rfl ?_); refine goesL_ (some 22) rfl rfl Try.func31 (by kernel_rfl) rfl #[.slice Ao26 t554.length co26, .int .i64 1] rfl (by (try simp only [List.map_toArray, List.map_cons, List.map_nil]); first | done | rfl | (simp only [List.length_drop, List.length_take]; rfl)) ?_; (with_reducible refine (buf_Last.calls _ _ t554 1 t557 true _ ?side1 ?side2 A3.out).mono ?_); (case side1 => repeat (first | exact (Kd.R_reads' HO556.out).2.2 | (with_reducible refine Kd.C_alloc ?_ _) | (with_reducible refine Kd.C_drewN ?_ _) | (with_reducible refine Kd.C_drew ?_))); (case side2 => exact (Kd.R_reads' HO556.out).2.1); rintro e w27 ⟨rfl, hb⟩; refine ⟨_, rfl, ?_⟩; have n0_ := Aside0.mk (Kd.R_below (by (with_reducible repeat (first | apply Kd.R_alloc | apply Kd.R_drewN | apply Kd.R_drew)); exact HO553.out) hb); have n1_ := Aside0.mk (Kd.R_below (by (with_reducible repeat (first | apply Kd.R_alloc | apply Kd.R_drewN | apply Kd.R_drew)); exact HO556.out) hb); have n2_ := Aside0.mk (below_step (by repeat (first | (with_reducible first | exact HB.out | apply below_alloc | apply pw_below_drewN | apply below_drew1) | exact HB.out)) hb); clear HO553; clear HO556; clear HB; have HO553 := n0_; have HO556 := n1_; have HB := n2_; clear n0_ n1_ n2_; (try clear hb); (try clear hb2); (try clear hk); (try clear hi)) | ((with_reducible refine gate_callee (f := 31) rfl ?_); refine goesL_ (some 27) rfl rfl Try.func31 (by kernel_rfl) rfl #[.slice Ao26 t554.length co26, .int .i64 0] rfl (by (try simp only [List.map_toArray, List.map_cons, List.map_nil]); first | done | rfl | (simp only [List.length_drop, List.length_take]; rfl)) ?_; (with_reducible refine (buf_Last.calls _ _ t554 0 t559 false _ ?side1 ?side2 A4.out).mono ?_); (case side1 => repeat (first | exact (Kd.R_reads' HO556.out).2.2 | (with_reducible refine Kd.C_alloc ?_ _) | (with_reducible refine Kd.C_drewN ?_ _) | (with_reducible refine Kd.C_drew ?_))); (case side2 => exact (Kd.R_reads' HO556.out).2.1); rintro e w28 ⟨rfl, hb⟩; refine ⟨_, rfl, ?_⟩; have n0_ := Aside0.mk (Kd.R_below (by (with_reducible repeat (first | apply Kd.R_alloc | apply Kd.R_drewN | apply Kd.R_drew)); exact HO553.out) hb); have n1_ := Aside0.mk (Kd.R_below (by (with_reducible repeat (first | apply Kd.R_alloc | apply Kd.R_drewN | apply Kd.R_drew)); exact HO556.out) hb); have n2_ := Aside0.mk (below_step (by repeat (first | (with_reducible first | exact HB.out | apply below_alloc | apply pw_below_drewN | apply below_drew1) | exact HB.out)) hb); clear HO553; clear HO556; clear HB; have HO553 := n0_; have HO556 := n1_; have HB := n2_; clear n0_ n1_ n2_; (try clear hb); (try clear hb2); (try clear hk); (try clear hi)) | ((with_reducible refine gate_dst (N := 32) rfl ?_); (try (refine gate_guard (by rfl) ?_; dsimp only)); refine Kd.R_lit (Kd.int .i64) _ 3 ?hg (N := 32) ?hd (xs := ([7, 8] : List Int)) (inner := [.int .i64 7, .int .i64 8]) (ok := fun _ => True) (okp := fun _ => True) ?hr ?hp (fun _ hk => hk) trivial (Below.refl _ _) (Nat.le_refl _) (by simp) ?_; (case hd => rfl); (case hg => rfl); (case hr => first | (go_simp; done) | (go_simp; rfl)); (case hp => exact (Reps.one (show Kd.M (Kd.int .i64) _ _ _ 7 [.int .i64 7] from rfl) (Reps.one (show Kd.M (Kd.int .i64) _ _ _ 8 [.int .i64 8] from rfl) (Reps.none _ _)))); intro v562 w29 ho30 hb hg_ hnew_; clear hg_ hnew_; (first | rw [← Ny561.out] at ho30 | (simp only [Int.reduceToNat] at ho30; rw [← Ny561.out] at ho30)); have n0_ := Aside0.mk (Kd.R_below (by (with_reducible repeat (first | apply Kd.R_alloc | apply Kd.R_drewN | apply Kd.R_drew)); exact HO553.out) hb); have n1_ := Aside0.mk (Kd.R_below (by (with_reducible repeat (first | apply Kd.R_alloc | apply Kd.R_drewN | apply Kd.R_drew)); exact HO556.out) hb); have n2_ := Aside0.mk (Kd.R_lower ho30 (below_size (by repeat (first | (with_reducible first | exact HB.out | apply below_alloc | apply pw_below_drewN | apply below_drew1) | exact HB.out)))); have n3_ := Aside0.mk (below_step (by repeat (first | (with_reducible first | exact HB.out | apply below_alloc | apply pw_below_drewN | apply below_drew1) | exact HB.out)) hb); clear HO553; clear HO556; clear HB; have HO553 := n0_; have HO556 := n1_; have HO563 := n2_; have HB := n3_; clear n0_ n1_ n2_ n3_; clear hb ho30; obtain ⟨Ao31, co31, eo31⟩ := Kd.R_slice HO563.out; subst eo31) | ((with_reducible refine gate_callee (f := 33) rfl ?_); refine goesL_ (some 33) rfl rfl Try.func33 (by kernel_rfl) rfl #[.slice Ao26 t554.length co26, .slice Ao31 y561.length co31, .int .i64 0] rfl (by (try simp only [List.map_toArray, List.map_cons, List.map_nil]); first | done | rfl | (simp only [List.length_drop, List.length_take]; rfl)) ?_; (with_reducible refine (buf_View.calls _ _ t554 _ _ y561 0 t564 true _ ?side1 ?side2 ?side3 ?side4 A5.out).mono ?_); (case side1 => repeat (first | exact (Kd.R_reads' HO556.out).2.2 | (with_reducible refine Kd.C_alloc ?_ _) | (with_reducible refine Kd.C_drewN ?_ _) | (with_reducible refine Kd.C_drew ?_))); (case side2 => exact (Kd.R_reads' HO556.out).2.1); (case side3 => repeat (first | exact (Kd.R_reads' HO563.out).2.2 | (with_reducible refine Kd.C_alloc ?_ _) | (with_reducible refine Kd.C_drewN ?_ _) | (with_reducible refine Kd.C_drew ?_))); (case side4 => exact (Kd.R_reads' HO563.out).2.1); rintro e w32 ⟨rfl, hb⟩; refine ⟨_, rfl, ?_⟩; have n0_ := Aside0.mk (Kd.R_below (by (with_reducible repeat (first | apply Kd.R_alloc | apply Kd.R_drewN | apply Kd.R_drew)); exact HO553.out) hb); have n1_ := Aside0.mk (Kd.R_below (by (with_reducible repeat (first | apply Kd.R_alloc | apply Kd.R_drewN | apply Kd.R_drew)); exact HO556.out) hb); have n2_ := Aside0.mk (Kd.R_below (by (with_reducible repeat (first | apply Kd.R_alloc | apply Kd.R_drewN | apply Kd.R_drew)); exact HO563.out) hb); have n3_ := Aside0.mk (below_step (by repeat (first | (with_reducible first | exact HB.out | apply below_alloc | apply pw_below_drewN | apply below_drew1) | exact HB.out)) hb); clear HO553; clear HO556; clear HO563; clear HB; have HO553 := n0_; have HO556 := n1_; have HO563 := n2_; have HB := n3_; clear n0_ n1_ n2_ n3_; (try clear hb); (try clear hb2); (try clear hk); (try clear hi)) | ((with_reducible refine gate_dst (N := 38) rfl ?_); (try (refine gate_guard (by rfl) ?_; dsimp only)); refine Kd.R_lit (Kd.int .i64) _ 3 ?hg (N := 38) ?hd (xs := ([7, 8] : List Int)) (inner := [.int .i64 7, .int .i64 8]) (ok := fun _ => True) (okp := fun _ => True) ?hr ?hp (fun _ hk => hk) trivial (Below.refl _ _) (Nat.le_refl _) (by simp) ?_; (case hd => rfl); (case hg => rfl); (case hr => first | (go_simp; done) | (go_simp; rfl)); (case hp => exact (Reps.one (show Kd.M (Kd.int .i64) _ _ _ 7 [.int .i64 7] from rfl) (Reps.one (show Kd.M (Kd.int .i64) _ _ _ 8 [.int .i64 8] from rfl) (Reps.none _ _)))); intro v567 w33 ho34 hb hg_ hnew_; clear hg_ hnew_; (first | rw [← Ny566.out] at ho34 | (simp only [Int.reduceToNat] at ho34; rw [← Ny566.out] at ho34)); have n0_ := Aside0.mk (Kd.R_below (by (with_reducible repeat (first | apply Kd.R_alloc | apply Kd.R_drewN | apply Kd.R_drew)); exact HO553.out) hb); have n1_ := Aside0.mk (Kd.R_below (by (with_reducible repeat (first | apply Kd.R_alloc | apply Kd.R_drewN | apply Kd.R_drew)); exact HO556.out) hb); have n2_ := Aside0.mk (Kd.R_elder' (by (with_reducible repeat (first | apply Kd.R_alloc | apply Kd.R_drewN | apply Kd.R_drew)); exact HO563.out) (Kd.R_base ho34) hb); have n3_ := Aside0.mk (Kd.R_lower (Kd.R_new' ho34 (Kd.R_lt (by (with_reducible repeat (first | apply Kd.R_alloc | apply Kd.R_drewN | apply Kd.R_drew)); exact HO563.out))) (below_size (by repeat (first | (with_reducible first | exact HB.out | apply below_alloc | apply pw_below_drewN | apply below_drew1) | exact HB.out)))); have n4_ := Aside0.mk (below_step (by repeat (first | (with_reducible first | exact HB.out | apply below_alloc | apply pw_below_drewN | apply below_drew1) | exact HB.out)) hb); clear HO553; clear HO556; clear HO563; clear HB; have HO553 := n0_; have HO556 := n1_; have HO563 := n2_; have HO568 := n3_; have HB := n4_; clear n0_ n1_ n2_ n3_ n4_; clear hb ho34; obtain ⟨Ao35, co35, eo35⟩ := Kd.R_slice HO568.out; subst eo35) | ((with_reducible refine gate_callee (f := 33) rfl ?_); refine goesL_ (some 39) rfl rfl Try.func33 (by kernel_rfl) rfl #[.slice Ao26 t554.length co26, .slice Ao35 y566.length co35, .int .i64 2] rfl (by (try simp only [List.map_toArray, List.map_cons, List.map_nil]); first | done | rfl | (simp only [List.length_drop, List.length_take]; rfl)) ?_; (with_reducible refine (buf_View.calls _ _ t554 _ _ y566 2 t569 false _ ?side1 ?side2 ?side3 ?side4 A6.out).mono ?_); (case side1 => repeat (first | exact (Kd.R_reads' HO556.out).2.2 | (with_reducible refine Kd.C_alloc ?_ _) | (with_reducible refine Kd.C_drewN ?_ _) | (with_reducible refine Kd.C_drew ?_))); (case side2 => exact (Kd.R_reads' HO556.out).2.1); (case side3 => repeat (first | exact (Kd.R_reads' HO568.out).2.2 | (with_reducible refine Kd.C_alloc ?_ _) | (with_reducible refine Kd.C_drewN ?_ _) | (with_reducible refine Kd.C_drew ?_))); (case side4 => exact (Kd.R_reads' HO568.out).2.1); rintro e w36 ⟨rfl, hb⟩; refine ⟨_, rfl, ?_⟩; have n0_ := Aside0.mk (Kd.R_below (by (with_reducible repeat (first | apply Kd.R_alloc | apply Kd.R_drewN | apply Kd.R_drew)); exact HO553.out) hb); have n1_ := Aside0.mk (Kd.R_below (by (with_reducible repeat (first | apply Kd.R_alloc | apply Kd.R_drewN | apply Kd.R_drew)); exact HO556.out) hb); have n2_ := Aside0.mk (Kd.R_below (by (with_reducible repeat (first | apply Kd.R_alloc | apply Kd.R_drewN | apply Kd.R_drew)); exact HO563.out) hb); have n3_ := Aside0.mk (Kd.R_below (by (with_reducible repeat (first | apply Kd.R_alloc | apply Kd.R_drewN | apply Kd.R_drew)); exact HO568.out) hb); have n4_ := Aside0.mk (below_step (by repeat (first | (with_reducible first | exact HB.out | apply below_alloc | apply pw_below_drewN | apply below_drew1) | exact HB.out)) hb); clear HO553; clear HO556; clear HO563; clear HO568; clear HB; have HO553 := n0_; have HO556 := n1_; have HO563 := n2_; have HO568 := n3_; have HB := n4_; clear n0_ n1_ n2_ n3_ n4_; (try clear hb); (try clear hb2); (try clear hk); (try clear hi)) | ((with_reducible refine gate_dst (N := 44) rfl ?_); (try (refine gate_guard (by rfl) ?_; dsimp only)); refine Kd.R_lit (Kd.int .i64) _ 3 ?hg (N := 44) ?hd (xs := ([7, 8] : List Int)) (inner := [.int .i64 7, .int .i64 8]) (ok := fun _ => True) (okp := fun _ => True) ?hr ?hp (fun _ hk => hk) trivial (Below.refl _ _) (Nat.le_refl _) (by simp) ?_; (case hd => rfl); (case hg => rfl); (case hr => first | (go_simp; done) | (go_simp; rfl)); (case hp => exact (Reps.one (show Kd.M (Kd.int .i64) _ _ _ 7 [.int .i64 7] from rfl) (Reps.one (show Kd.M (Kd.int .i64) _ _ _ 8 [.int .i64 8] from rfl) (Reps.none _ _)))); intro v572 w37 ho38 hb hg_ hnew_; clear hg_ hnew_; (first | rw [← Ny571.out] at ho38 | (simp only [Int.reduceToNat] at ho38; rw [← Ny571.out] at ho38)); have n0_ := Aside0.mk (Kd.R_below (by (with_reducible repeat (first | apply Kd.R_alloc | apply Kd.R_drewN | apply Kd.R_drew)); exact HO553.out) hb); have n1_ := Aside0.mk (Kd.R_below (by (with_reducible repeat (first | apply Kd.R_alloc | apply Kd.R_drewN | apply Kd.R_drew)); exact HO556.out) hb); have n2_ := Aside0.mk (Kd.R_elder' (by (with_reducible repeat (first | apply Kd.R_alloc | apply Kd.R_drewN | apply Kd.R_drew)); exact HO563.out) (Kd.R_base ho38) hb); have n3_ := Aside0.mk (Kd.R_elder' (by (with_reducible repeat (first | apply Kd.R_alloc | apply Kd.R_drewN | apply Kd.R_drew)); exact HO568.out) (Kd.R_base ho38) hb); have n4_ := Aside0.mk (Kd.R_lower (Kd.R_new' (Kd.R_new' ho38 (Kd.R_lt (by (with_reducible repeat (first | apply Kd.R_alloc | apply Kd.R_drewN | apply Kd.R_drew)); exact HO563.out))) (Kd.R_lt (by (with_reducible repeat (first | apply Kd.R_alloc | apply Kd.R_drewN | apply Kd.R_drew)); exact HO568.out))) (below_size (by repeat (first | (with_reducible first | exact HB.out | apply below_alloc | apply pw_below_drewN | apply below_drew1) | exact HB.out)))); have n5_ := Aside0.mk (below_step (by repeat (first | (with_reducible first | exact HB.out | apply below_alloc | apply pw_below_drewN | apply below_drew1) | exact HB.out)) hb); clear HO553; clear HO556; clear HO563; clear HO568; clear HB; have HO553 := n0_; have HO556 := n1_; have HO563 := n2_; have HO568 := n3_; have HO573 := n4_; have HB := n5_; clear n0_ n1_ n2_ n3_ n4_ n5_; clear hb ho38; obtain ⟨Ao39, co39, eo39⟩ := Kd.R_slice HO573.out; subst eo39) | ((with_reducible refine gate_callee (f := 35) rfl ?_); refine goesL_ (some 45) rfl rfl Try.func35 (by kernel_rfl) rfl #[.slice Ao26 t554.length co26, .slice Ao39 y571.length co39] rfl (by (try simp only [List.map_toArray, List.map_cons, List.map_nil]); first | done | rfl | (simp only [List.length_drop, List.length_take]; rfl)) ?_; (with_reducible refine (buf_Drain.calls k _ _ t554 _ _ y571 t574 t575 true _ ?side1 ?side2 ?side3 ?side4 A7.out).mono ?_); (case side1 => repeat (first | exact (Kd.R_reads' HO556.out).2.2 | (with_reducible refine Kd.C_alloc ?_ _) | (with_reducible refine Kd.C_drewN ?_ _) | (with_reducible refine Kd.C_drew ?_))); (case side2 => exact (Kd.R_reads' HO556.out).2.1); (case side3 => repeat (first | exact (Kd.R_reads' HO573.out).2.2 | (with_reducible refine Kd.C_alloc ?_ _) | (with_reducible refine Kd.C_drewN ?_ _) | (with_reducible refine Kd.C_drew ?_))); (case side4 => exact (Kd.R_reads' HO573.out).2.1); rintro e w40 ⟨v577, v579, rfl, ho0, ho1, hb⟩; refine ⟨_, rfl, ?_⟩; have n0_ := Aside0.mk (Kd.R_elder' (by (with_reducible repeat (first | apply Kd.R_alloc | apply Kd.R_drewN | apply Kd.R_drew)); exact HO553.out) (Kd.R_base ho0) hb); have n1_ := Aside0.mk (Kd.R_elder' (by (with_reducible repeat (first | apply Kd.R_alloc | apply Kd.R_drewN | apply Kd.R_drew)); exact HO556.out) (Kd.R_base ho0) hb); have n2_ := Aside0.mk (Kd.R_elder' (by (with_reducible repeat (first | apply Kd.R_alloc | apply Kd.R_drewN | apply Kd.R_drew)); exact HO563.out) (Kd.R_base ho1) hb); have n3_ := Aside0.mk (Kd.R_elder' (by (with_reducible repeat (first | apply Kd.R_alloc | apply Kd.R_drewN | apply Kd.R_drew)); exact HO568.out) (Kd.R_base ho1) hb); have n4_ := Aside0.mk (Kd.R_elder' (by (with_reducible repeat (first | apply Kd.R_alloc | apply Kd.R_drewN | apply Kd.R_drew)); exact HO573.out) (Kd.R_base ho1) hb); have n5_ := Aside0.mk (Kd.R_lower (Kd.R_new' (Kd.R_new' ho0 (Kd.R_lt (by (with_reducible repeat (first | apply Kd.R_alloc | apply Kd.R_drewN | apply Kd.R_drew)); exact HO553.out))) (Kd.R_lt (by (with_reducible repeat (first | apply Kd.R_alloc | apply Kd.R_drewN | apply Kd.R_drew)); exact HO556.out))) (below_size (by repeat (first | (with_reducible first | exact HB.out | apply below_alloc | apply pw_below_drewN | apply below_drew1) | exact HB.out)))); have n6_ := Aside0.mk (Kd.R_lower (Kd.R_new' (Kd.R_new' (Kd.R_new' ho1 (Kd.R_lt (by (with_reducible repeat (first | apply Kd.R_alloc | apply Kd.R_drewN | apply Kd.R_drew)); exact HO563.out))) (Kd.R_lt (by (with_reducible repeat (first | apply Kd.R_alloc | apply Kd.R_drewN | apply Kd.R_drew)); exact HO568.out))) (Kd.R_lt (by (with_reducible repeat (first | apply Kd.R_alloc | apply Kd.R_drewN | apply Kd.R_drew)); exact HO573.out))) (below_size (by repeat (first | (with_reducible first | exact HB.out | apply below_alloc | apply pw_below_drewN | apply below_drew1) | exact HB.out)))); have n7_ := Aside0.mk (below_step (by repeat (first | (with_reducible first | exact HB.out | apply below_alloc | apply pw_below_drewN | apply below_drew1) | exact HB.out)) hb); clear HO553; clear HO556; clear HO563; clear HO568; clear HO573; clear HB; have HO553 := n0_; have HO556 := n1_; have HO563 := n2_; have HO568 := n3_; have HO573 := n4_; have HO578 := n5_; have HO580 := n6_; have HB := n7_; clear n0_ n1_ n2_ n3_ n4_ n5_ n6_ n7_; (try clear hb); (try clear hb2); (try clear hk); (try clear hi); (try clear ho0); (try clear ho1)) | ((with_reducible refine gate_dst (N := 50) rfl ?_); (try (refine gate_guard (by rfl) ?_; dsimp only)); refine Kd.R_lit (Kd.int .i64) _ 3 ?hg (N := 50) ?hd (xs := ([7] : List Int)) (inner := [.int .i64 7]) (ok := fun _ => True) (okp := fun _ => True) ?hr ?hp (fun _ hk => hk) trivial (Below.refl _ _) (Nat.le_refl _) (by simp) ?_; (case hd => rfl); (case hg => rfl); (case hr => first | (go_simp; done) | (go_simp; rfl)); (case hp => exact (Reps.one (show Kd.M (Kd.int .i64) _ _ _ 7 [.int .i64 7] from rfl) (Reps.none _ _))); intro v582 w41 ho42 hb hg_ hnew_; clear hg_ hnew_; (first | rw [← Ny581.out] at ho42 | (simp only [Int.reduceToNat] at ho42; rw [← Ny581.out] at ho42)); have n0_ := Aside0.mk (Kd.R_below (by (with_reducible repeat (first | apply Kd.R_alloc | apply Kd.R_drewN | apply Kd.R_drew)); exact HO553.out) hb); have n1_ := Aside0.mk (Kd.R_below (by (with_reducible repeat (first | apply Kd.R_alloc | apply Kd.R_drewN | apply Kd.R_drew)); exact HO556.out) hb); have n2_ := Aside0.mk (Kd.R_elder' (by (with_reducible repeat (first | apply Kd.R_alloc | apply Kd.R_drewN | apply Kd.R_drew)); exact HO563.out) (Kd.R_base ho42) hb); have n3_ := Aside0.mk (Kd.R_elder' (by (with_reducible repeat (first | apply Kd.R_alloc | apply Kd.R_drewN | apply Kd.R_drew)); exact HO568.out) (Kd.R_base ho42) hb); have n4_ := Aside0.mk (Kd.R_elder' (by (with_reducible repeat (first | apply Kd.R_alloc | apply Kd.R_drewN | apply Kd.R_drew)); exact HO573.out) (Kd.R_base ho42) hb); have n5_ := Aside0.mk (Kd.R_below (by (with_reducible repeat (first | apply Kd.R_alloc | apply Kd.R_drewN | apply Kd.R_drew)); exact HO578.out) hb); have n6_ := Aside0.mk (Kd.R_elder' (by (with_reducible repeat (first | apply Kd.R_alloc | apply Kd.R_drewN | apply Kd.R_drew)); exact HO580.out) (Kd.R_base ho42) hb); have n7_ := Aside0.mk (Kd.R_lower (Kd.R_new' (Kd.R_new' (Kd.R_new' (Kd.R_new' ho42 (Kd.R_lt (by (with_reducible repeat (first | apply Kd.R_alloc | apply Kd.R_drewN | apply Kd.R_drew)); exact HO563.out))) (Kd.R_lt (by (with_reducible repeat (first | apply Kd.R_alloc | apply Kd.R_drewN | apply Kd.R_drew)); exact HO568.out))) (Kd.R_lt (by (with_reducible repeat (first | apply Kd.R_alloc | apply Kd.R_drewN | apply Kd.R_drew)); exact HO573.out))) (Kd.R_lt (by (with_reducible repeat (first | apply Kd.R_alloc | apply Kd.R_drewN | apply Kd.R_drew)); exact HO580.out))) (below_size (by repeat (first | (with_reducible first | exact HB.out | apply below_alloc | apply pw_below_drewN | apply below_drew1) | exact HB.out)))); have n8_ := Aside0.mk (below_step (by repeat (first | (with_reducible first | exact HB.out | apply below_alloc | apply pw_below_drewN | apply below_drew1) | exact HB.out)) hb); clear HO553; clear HO556; clear HO563; clear HO568; clear HO573; clear HO578; clear HO580; clear HB; have HO553 := n0_; have HO556 := n1_; have HO563 := n2_; have HO568 := n3_; have HO573 := n4_; have HO578 := n5_; have HO580 := n6_; have HO583 := n7_; have HB := n8_; clear n0_ n1_ n2_ n3_ n4_ n5_ n6_ n7_ n8_; clear hb ho42; obtain ⟨Ao43, co43, eo43⟩ := Kd.R_slice HO583.out; subst eo43) | ((with_reducible refine gate_callee (f := 35) rfl ?_); refine goesL_ (some 51) rfl rfl Try.func35 (by kernel_rfl) rfl #[.slice none 0 0, .slice Ao43 y581.length co43] rfl (by (try simp only [List.map_toArray, List.map_cons, List.map_nil]); first | done | rfl | (simp only [List.length_drop, List.length_take]; rfl)) ?_; (refine (buf_Drain.calls k _ _ ([] : List (S51)) _ _ y581 t584 t585 false _ ?side1 ?side2 ?side3 ?side4 A8.out).mono ?_); (case side1 => exact Kd.C_nil _ _); (case side2 => exact Nat.le_refl _); (case side3 => repeat (first | exact (Kd.R_reads' HO583.out).2.2 | (with_reducible refine Kd.C_alloc ?_ _) | (with_reducible refine Kd.C_drewN ?_ _) | (with_reducible refine Kd.C_drew ?_))); (case side4 => exact (Kd.R_reads' HO583.out).2.1); rintro e w44 ⟨v587, v589, rfl, ho0, ho1, hb⟩; refine ⟨_, rfl, ?_⟩; have n0_ := Aside0.mk (Kd.R_elder' (by (with_reducible repeat (first | apply Kd.R_alloc | apply Kd.R_drewN | apply Kd.R_drew)); exact HO553.out) (Kd.R_base ho0) hb); have n1_ := Aside0.mk (Kd.R_elder' (by (with_reducible repeat (first | apply Kd.R_alloc | apply Kd.R_drewN | apply Kd.R_drew)); exact HO556.out) (Kd.R_base ho0) hb); have n2_ := Aside0.mk (Kd.R_elder' (by (with_reducible repeat (first | apply Kd.R_alloc | apply Kd.R_drewN | apply Kd.R_drew)); exact HO563.out) (Kd.R_base ho1) hb); have n3_ := Aside0.mk (Kd.R_elder' (by (with_reducible repeat (first | apply Kd.R_alloc | apply Kd.R_drewN | apply Kd.R_drew)); exact HO568.out) (Kd.R_base ho1) hb); have n4_ := Aside0.mk (Kd.R_elder' (by (with_reducible repeat (first | apply Kd.R_alloc | apply Kd.R_drewN | apply Kd.R_drew)); exact HO573.out) (Kd.R_base ho1) hb); have n5_ := Aside0.mk (Kd.R_elder' (by (with_reducible repeat (first | apply Kd.R_alloc | apply Kd.R_drewN | apply Kd.R_drew)); exact HO578.out) (Kd.R_base ho0) hb); have n6_ := Aside0.mk (Kd.R_elder' (by (with_reducible repeat (first | apply Kd.R_alloc | apply Kd.R_drewN | apply Kd.R_drew)); exact HO580.out) (Kd.R_base ho1) hb); have n7_ := Aside0.mk (Kd.R_elder' (by (with_reducible repeat (first | apply Kd.R_alloc | apply Kd.R_drewN | apply Kd.R_drew)); exact HO583.out) (Kd.R_base ho1) hb); have n8_ := Aside0.mk (Kd.R_lower (Kd.R_new' (Kd.R_new' (Kd.R_new' ho0 (Kd.R_lt (by (with_reducible repeat (first | apply Kd.R_alloc | apply Kd.R_drewN | apply Kd.R_drew)); exact HO553.out))) (Kd.R_lt (by (with_reducible repeat (first | apply Kd.R_alloc | apply Kd.R_drewN | apply Kd.R_drew)); exact HO556.out))) (Kd.R_lt (by (with_reducible repeat (first | apply Kd.R_alloc | apply Kd.R_drewN | apply Kd.R_drew)); exact HO578.out))) (below_size (by repeat (first | (with_reducible first | exact HB.out | apply below_alloc | apply pw_below_drewN | apply below_drew1) | exact HB.out)))); have n9_ := Aside0.mk (Kd.R_lower (Kd.R_new' (Kd.R_new' (Kd.R_new' (Kd.R_new' (Kd.R_new' ho1 (Kd.R_lt (by (with_reducible repeat (first | apply Kd.R_alloc | apply Kd.R_drewN | apply Kd.R_drew)); exact HO563.out))) (Kd.R_lt (by (with_reducible repeat (first | apply Kd.R_alloc | apply Kd.R_drewN | apply Kd.R_drew)); exact HO568.out))) (Kd.R_lt (by (with_reducible repeat (first | apply Kd.R_alloc | apply Kd.R_drewN | apply Kd.R_drew)); exact HO573.out))) (Kd.R_lt (by (with_reducible repeat (first | apply Kd.R_alloc | apply Kd.R_drewN | apply Kd.R_drew)); exact HO580.out))) (Kd.R_lt (by (with_reducible repeat (first | apply Kd.R_alloc | apply Kd.R_drewN | apply Kd.R_drew)); exact HO583.out))) (below_size (by repeat (first | (with_reducible first | exact HB.out | apply below_alloc | apply pw_below_drewN | apply below_drew1) | exact HB.out)))); have n10_ := Aside0.mk (below_step (by repeat (first | (with_reducible first | exact HB.out | apply below_alloc | apply pw_below_drewN | apply below_drew1) | exact HB.out)) hb); clear HO553; clear HO556; clear HO563; clear HO568; clear HO573; clear HO578; clear HO580; clear HO583; clear HB; have HO553 := n0_; have HO556 := n1_; have HO563 := n2_; have HO568 := n3_; have HO573 := n4_; have HO578 := n5_; have HO580 := n6_; have HO583 := n7_; have HO588 := n8_; have HO590 := n9_; have HB := n10_; clear n0_ n1_ n2_ n3_ n4_ n5_ n6_ n7_ n8_ n9_ n10_; (try clear hb); (try clear hb2); (try clear hk); (try clear hi); (try clear ho0); (try clear ho1)) | ((with_reducible refine gate_dst (N := 78) rfl ?_); (try (refine gate_guard (by rfl) ?_; dsimp only)); refine Kd.R_lit k51 _ 51 ?hg (N := 78) ?hd (xs := ([(⟨1, 6⟩ : S51)] : List (S51))) (inner := [.int .i64 1, .int .i64 6]) (ok := fun _ => True) (okp := fun _ => True) ?hr ?hp (fun _ hk => hk) trivial (Below.refl _ _) (Nat.le_refl _) (by simp) ?_; (case hd => rfl); (case hg => rfl); (case hr => first | (go_simp; done) | (go_simp; rfl)); (case hp => exact (Reps.c2 (show Kd.M k51 _ _ _ (⟨1, 6⟩ : S51) [.int .i64 1, .int .i64 6] from (k51_mkM _ _ _ (⟨1, 6⟩ : S51) )) (Reps.none _ _))); intro v592 w45 ho46 hb hg_ hnew_; clear hg_ hnew_; (first | rw [← Ny591.out] at ho46 | (simp only [Int.reduceToNat] at ho46; rw [← Ny591.out] at ho46)); have n0_ := Aside0.mk (Kd.R_elder' (by (with_reducible repeat (first | apply Kd.R_alloc | apply Kd.R_drewN | apply Kd.R_drew)); exact HO553.out) (Kd.R_base ho46) hb); have n1_ := Aside0.mk (Kd.R_elder' (by (with_reducible repeat (first | apply Kd.R_alloc | apply Kd.R_drewN | apply Kd.R_drew)); exact HO556.out) (Kd.R_base ho46) hb); have n2_ := Aside0.mk (Kd.R_below (by (with_reducible repeat (first | apply Kd.R_alloc | apply Kd.R_drewN | apply Kd.R_drew)); exact HO563.out) hb); have n3_ := Aside0.mk (Kd.R_below (by (with_reducible repeat (first | apply Kd.R_alloc | apply Kd.R_drewN | apply Kd.R_drew)); exact HO568.out) hb); have n4_ := Aside0.mk (Kd.R_below (by (with_reducible repeat (first | apply Kd.R_alloc | apply Kd.R_drewN | apply Kd.R_drew)); exact HO573.out) hb); have n5_ := Aside0.mk (Kd.R_elder' (by (with_reducible repeat (first | apply Kd.R_alloc | apply Kd.R_drewN | apply Kd.R_drew)); exact HO578.out) (Kd.R_base ho46) hb); have n6_ := Aside0.mk (Kd.R_below (by (with_reducible repeat (first | apply Kd.R_alloc | apply Kd.R_drewN | apply Kd.R_drew)); exact HO580.out) hb); have n7_ := Aside0.mk (Kd.R_below (by (with_reducible repeat (first | apply Kd.R_alloc | apply Kd.R_drewN | apply Kd.R_drew)); exact HO583.out) hb); have n8_ := Aside0.mk (Kd.R_elder' (by (with_reducible repeat (first | apply Kd.R_alloc | apply Kd.R_drewN | apply Kd.R_drew)); exact HO588.out) (Kd.R_base ho46) hb); have n9_ := Aside0.mk (Kd.R_below (by (with_reducible repeat (first | apply Kd.R_alloc | apply Kd.R_drewN | apply Kd.R_drew)); exact HO590.out) hb); have n10_ := Aside0.mk (Kd.R_lower (Kd.R_new' (Kd.R_new' (Kd.R_new' (Kd.R_new' ho46 (Kd.R_lt (by (with_reducible repeat (first | apply Kd.R_alloc | apply Kd.R_drewN | apply Kd.R_drew)); exact HO553.out))) (Kd.R_lt (by (with_reducible repeat (first | apply Kd.R_alloc | apply Kd.R_drewN | apply Kd.R_drew)); exact HO556.out))) (Kd.R_lt (by (with_reducible repeat (first | apply Kd.R_alloc | apply Kd.R_drewN | apply Kd.R_drew)); exact HO578.out))) (Kd.R_lt (by (with_reducible repeat (first | apply Kd.R_alloc | apply Kd.R_drewN | apply Kd.R_drew)); exact HO588.out))) (below_size (by repeat (first | (with_reducible first | exact HB.out | apply below_alloc | apply pw_below_drewN | apply below_drew1) | exact HB.out)))); have n11_ := Aside0.mk (below_step (by repeat (first | (with_reducible first | exact HB.out | apply below_alloc | apply pw_below_drewN | apply below_drew1) | exact HB.out)) hb); clear HO553; clear HO556; clear HO563; clear HO568; clear HO573; clear HO578; clear HO580; clear HO583; clear HO588; clear HO590; clear HB; have HO553 := n0_; have HO556 := n1_; have HO563 := n2_; have HO568 := n3_; have HO573 := n4_; have HO578 := n5_; have HO580 := n6_; have HO583 := n7_; have HO588 := n8_; have HO590 := n9_; have HO593 := n10_; have HB := n11_; clear n0_ n1_ n2_ n3_ n4_ n5_ n6_ n7_ n8_ n9_ n10_ n11_; clear hb ho46; obtain ⟨Ao47, co47, eo47⟩ := Kd.R_slice HO578.out; subst eo47; obtain ⟨Ao48, co48, eo48⟩ := Kd.R_slice HO593.out; subst eo48) | (go_at_call 37; (with_reducible refine (fencepostref09_Same.calls k _ _ t574 _ _ y591 true _ ?side1 ?side2 ?side3 ?side4 A15.out).mono ?_); (case side1 => repeat (first | exact (Kd.R_reads' HO578.out).2.2 | (with_reducible refine Kd.C_alloc ?_ _) | (with_reducible refine Kd.C_drewN ?_ _) | (with_reducible refine Kd.C_drew ?_))); (case side2 => exact (Kd.R_reads' HO578.out).2.1); (case side3 => repeat (first | exact (Kd.R_reads' HO593.out).2.2 | (with_reducible refine Kd.C_alloc ?_ _) | (with_reducible refine Kd.C_drewN ?_ _) | (with_reducible refine Kd.C_drew ?_))); (case side4 => exact (Kd.R_reads' HO593.out).2.1); rintro e w' ⟨rfl, ⟨nd, rfl⟩⟩) | ((with_reducible refine gate_dst (N := 83) rfl ?_); (try (refine gate_guard (by rfl) ?_; dsimp only)); refine Kd.R_lit (Kd.int .i64) _ 3 ?hg (N := 83) ?hd (xs := ([7, 5] : List Int)) (inner := [.int .i64 7, .int .i64 5]) (ok := fun _ => True) (okp := fun _ => True) ?hr ?hp (fun _ hk => hk) trivial (Below.refl _ _) (Nat.le_refl _) (by simp) ?_; (case hd => rfl); (case hg => rfl); (case hr => first | (go_simp; done) | (go_simp; rfl)); (case hp => exact (Reps.one (show Kd.M (Kd.int .i64) _ _ _ 7 [.int .i64 7] from rfl) (Reps.one (show Kd.M (Kd.int .i64) _ _ _ 5 [.int .i64 5] from rfl) (Reps.none _ _)))); intro v596 w49 ho50 hb hg_ hnew_; clear hg_ hnew_; (first | rw [← Ny595.out] at ho50 | (simp only [Int.reduceToNat] at ho50; rw [← Ny595.out] at ho50)); have n0_ := Aside0.mk (Kd.R_below (by (with_reducible repeat (first | apply Kd.R_alloc | apply Kd.R_drewN | apply Kd.R_drew)); exact HO553.out) hb); have n1_ := Aside0.mk (Kd.R_below (by (with_reducible repeat (first | apply Kd.R_alloc | apply Kd.R_drewN | apply Kd.R_drew)); exact HO556.out) hb); have n2_ := Aside0.mk (Kd.R_elder' (by (with_reducible repeat (first | apply Kd.R_alloc | apply Kd.R_drewN | apply Kd.R_drew)); exact HO563.out) (Kd.R_base ho50) hb); have n3_ := Aside0.mk (Kd.R_elder' (by (with_reducible repeat (first | apply Kd.R_alloc | apply Kd.R_drewN | apply Kd.R_drew)); exact HO568.out) (Kd.R_base ho50) hb); have n4_ := Aside0.mk (Kd.R_elder' (by (with_reducible repeat (first | apply Kd.R_alloc | apply Kd.R_drewN | apply Kd.R_drew)); exact HO573.out) (Kd.R_base ho50) hb); have n5_ := Aside0.mk (Kd.R_below (by (with_reducible repeat (first | apply Kd.R_alloc | apply Kd.R_drewN | apply Kd.R_drew)); exact HO578.out) hb); have n6_ := Aside0.mk (Kd.R_elder' (by (with_reducible repeat (first | apply Kd.R_alloc | apply Kd.R_drewN | apply Kd.R_drew)); exact HO580.out) (Kd.R_base ho50) hb); have n7_ := Aside0.mk (Kd.R_elder' (by (with_reducible repeat (first | apply Kd.R_alloc | apply Kd.R_drewN | apply Kd.R_drew)); exact HO583.out) (Kd.R_base ho50) hb); have n8_ := Aside0.mk (Kd.R_below (by (with_reducible repeat (first | apply Kd.R_alloc | apply Kd.R_drewN | apply Kd.R_drew)); exact HO588.out) hb); have n9_ := Aside0.mk (Kd.R_elder' (by (with_reducible repeat (first | apply Kd.R_alloc | apply Kd.R_drewN | apply Kd.R_drew)); exact HO590.out) (Kd.R_base ho50) hb); have n10_ := Aside0.mk (Kd.R_below (by (with_reducible repeat (first | apply Kd.R_alloc | apply Kd.R_drewN | apply Kd.R_drew)); exact HO593.out) hb); have n11_ := Aside0.mk (Kd.R_lower (Kd.R_new' (Kd.R_new' (Kd.R_new' (Kd.R_new' (Kd.R_new' (Kd.R_new' ho50 (Kd.R_lt (by (with_reducible repeat (first | apply Kd.R_alloc | apply Kd.R_drewN | apply Kd.R_drew)); exact HO563.out))) (Kd.R_lt (by (with_reducible repeat (first | apply Kd.R_alloc | apply Kd.R_drewN | apply Kd.R_drew)); exact HO568.out))) (Kd.R_lt (by (with_reducible repeat (first | apply Kd.R_alloc | apply Kd.R_drewN | apply Kd.R_drew)); exact HO573.out))) (Kd.R_lt (by (with_reducible repeat (first | apply Kd.R_alloc | apply Kd.R_drewN | apply Kd.R_drew)); exact HO580.out))) (Kd.R_lt (by (with_reducible repeat (first | apply Kd.R_alloc | apply Kd.R_drewN | apply Kd.R_drew)); exact HO583.out))) (Kd.R_lt (by (with_reducible repeat (first | apply Kd.R_alloc | apply Kd.R_drewN | apply Kd.R_drew)); exact HO590.out))) (below_size (by repeat (first | (with_reducible first | exact HB.out | apply below_alloc | apply pw_below_drewN | apply below_drew1) | exact HB.out)))); have n12_ := Aside0.mk (below_step (by repeat (first | (with_reducible first | exact HB.out | apply below_alloc | apply pw_below_drewN | apply below_drew1) | exact HB.out)) hb); clear HO553; clear HO556; clear HO563; clear HO568; clear HO573; clear HO578; clear HO580; clear HO583; clear HO588; clear HO590; clear HO593; clear HB; have HO553 := n0_; have HO556 := n1_; have HO563 := n2_; have HO568 := n3_; have HO573 := n4_; have HO578 := n5_; have HO580 := n6_; have HO583 := n7_; have HO588 := n8_; have HO590 := n9_; have HO593 := n10_; have HO597 := n11_; have HB := n12_; clear n0_ n1_ n2_ n3_ n4_ n5_ n6_ n7_ n8_ n9_ n10_ n11_ n12_; clear hb ho50; obtain ⟨Ao51, co51, eo51⟩ := Kd.R_slice HO580.out; subst eo51; obtain ⟨Ao52, co52, eo52⟩ := Kd.R_slice HO597.out; subst eo52) | (go_at_call 19; (with_reducible refine (fencepostref07_SameInts.calls k _ _ t575 _ _ y595 true _ ?side1 ?side2 ?side3 ?side4 A17.out).mono ?_); (case side1 => repeat (first | exact (Kd.R_reads' HO580.out).2.2 | (with_reducible refine Kd.C_alloc ?_ _) | (with_reducible refine Kd.C_drewN ?_ _) | (with_reducible refine Kd.C_drew ?_))); (case side2 => exact (Kd.R_reads' HO580.out).2.1); (case side3 => repeat (first | exact (Kd.R_reads' HO597.out).2.2 | (with_reducible refine Kd.C_alloc ?_ _) | (with_reducible refine Kd.C_drewN ?_ _) | (with_reducible refine Kd.C_drew ?_))); (case side4 => exact (Kd.R_reads' HO597.out).2.1); rintro e w' ⟨rfl, ⟨nd, rfl⟩⟩) | ((with_reducible refine gate_dst (N := 95) rfl ?_); (try (refine gate_guard (by rfl) ?_; dsimp only)); refine Kd.R_lit (Kd.int .i64) _ 3 ?hg (N := 95) ?hd (xs := ([7, 8] : List Int)) (inner := [.int .i64 7, .int .i64 8]) (ok := fun _ => True) (okp := fun _ => True) ?hr ?hp (fun _ hk => hk) trivial (Below.refl _ _) (Nat.le_refl _) (by simp) ?_; (case hd => rfl); (case hg => rfl); (case hr => first | (go_simp; done) | (go_simp; rfl)); (case hp => exact (Reps.one (show Kd.M (Kd.int .i64) _ _ _ 7 [.int .i64 7] from rfl) (Reps.one (show Kd.M (Kd.int .i64) _ _ _ 8 [.int .i64 8] from rfl) (Reps.none _ _)))); intro v600 w53 ho54 hb hg_ hnew_; clear hg_ hnew_; (first | rw [← Ny599.out] at ho54 | (simp only [Int.reduceToNat] at ho54; rw [← Ny599.out] at ho54)); have n0_ := Aside0.mk (Kd.R_below (by (with_reducible repeat (first | apply Kd.R_alloc | apply Kd.R_drewN | apply Kd.R_drew)); exact HO553.out) hb); have n1_ := Aside0.mk (Kd.R_below (by (with_reducible repeat (first | apply Kd.R_alloc | apply Kd.R_drewN | apply Kd.R_drew)); exact HO556.out) hb); have n2_ := Aside0.mk (Kd.R_elder' (by (with_reducible repeat (first | apply Kd.R_alloc | apply Kd.R_drewN | apply Kd.R_drew)); exact HO563.out) (Kd.R_base ho54) hb); have n3_ := Aside0.mk (Kd.R_elder' (by (with_reducible repeat (first | apply Kd.R_alloc | apply Kd.R_drewN | apply Kd.R_drew)); exact HO568.out) (Kd.R_base ho54) hb); have n4_ := Aside0.mk (Kd.R_elder' (by (with_reducible repeat (first | apply Kd.R_alloc | apply Kd.R_drewN | apply Kd.R_drew)); exact HO573.out) (Kd.R_base ho54) hb); have n5_ := Aside0.mk (Kd.R_below (by (with_reducible repeat (first | apply Kd.R_alloc | apply Kd.R_drewN | apply Kd.R_drew)); exact HO578.out) hb); have n6_ := Aside0.mk (Kd.R_elder' (by (with_reducible repeat (first | apply Kd.R_alloc | apply Kd.R_drewN | apply Kd.R_drew)); exact HO580.out) (Kd.R_base ho54) hb); have n7_ := Aside0.mk (Kd.R_elder' (by (with_reducible repeat (first | apply Kd.R_alloc | apply Kd.R_drewN | apply Kd.R_drew)); exact HO583.out) (Kd.R_base ho54) hb); have n8_ := Aside0.mk (Kd.R_below (by (with_reducible repeat (first | apply Kd.R_alloc | apply Kd.R_drewN | apply Kd.R_drew)); exact HO588.out) hb); have n9_ := Aside0.mk (Kd.R_elder' (by (with_reducible repeat (first | apply Kd.R_alloc | apply Kd.R_drewN | apply Kd.R_drew)); exact HO590.out) (Kd.R_base ho54) hb); have n10_ := Aside0.mk (Kd.R_below (by (with_reducible repeat (first | apply Kd.R_alloc | apply Kd.R_drewN | apply Kd.R_drew)); exact HO593.out) hb); have n11_ := Aside0.mk (Kd.R_elder' (by (with_reducible repeat (first | apply Kd.R_alloc | apply Kd.R_drewN | apply Kd.R_drew)); exact HO597.out) (Kd.R_base ho54) hb); have n12_ := Aside0.mk (Kd.R_lower (Kd.R_new' (Kd.R_new' (Kd.R_new' (Kd.R_new' (Kd.R_new' (Kd.R_new' (Kd.R_new' ho54 (Kd.R_lt (by (with_reducible repeat (first | apply Kd.R_alloc | apply Kd.R_drewN | apply Kd.R_drew)); exact HO563.out))) (Kd.R_lt (by (with_reducible repeat (first | apply Kd.R_alloc | apply Kd.R_drewN | apply Kd.R_drew)); exact HO568.out))) (Kd.R_lt (by (with_reducible repeat (first | apply Kd.R_alloc | apply Kd.R_drewN | apply Kd.R_drew)); exact HO573.out))) (Kd.R_lt (by (with_reducible repeat (first | apply Kd.R_alloc | apply Kd.R_drewN | apply Kd.R_drew)); exact HO580.out))) (Kd.R_lt (by (with_reducible repeat (first | apply Kd.R_alloc | apply Kd.R_drewN | apply Kd.R_drew)); exact HO583.out))) (Kd.R_lt (by (with_reducible repeat (first | apply Kd.R_alloc | apply Kd.R_drewN | apply Kd.R_drew)); exact HO590.out))) (Kd.R_lt (by (with_reducible repeat (first | apply Kd.R_alloc | apply Kd.R_drewN | apply Kd.R_drew)); exact HO597.out))) (below_size (by repeat (first | (with_reducible first | exact HB.out | apply below_alloc | apply pw_below_drewN | apply below_drew1) | exact HB.out)))); have n13_ := Aside0.mk (below_step (by repeat (first | (with_reducible first | exact HB.out | apply below_alloc | apply pw_below_drewN | apply below_drew1) | exact HB.out)) hb); clear HO553; clear HO556; clear HO563; clear HO568; clear HO573; clear HO578; clear HO580; clear HO583; clear HO588; clear HO590; clear HO593; clear HO597; clear HB; have HO553 := n0_; have HO556 := n1_; have HO563 := n2_; have HO568 := n3_; have HO573 := n4_; have HO578 := n5_; have HO580 := n6_; have HO583 := n7_; have HO588 := n8_; have HO590 := n9_; have HO593 := n10_; have HO597 := n11_; have HO601 := n12_; have HB := n13_; clear n0_ n1_ n2_ n3_ n4_ n5_ n6_ n7_ n8_ n9_ n10_ n11_ n12_ n13_; clear hb ho54; obtain ⟨Ao55, co55, eo55⟩ := Kd.R_slice HO601.out; subst eo55) | (go_at_call 40; (with_reducible refine (buf_All.calls k (fun k_ => some k_ = (.slice Ao26 t554.length co26 : Value).ownBlock) _ _ t554 _ _ y599 t602 _ ?side1 ?side2 ?side3 A21.out).mono ?_); (case side1 => exact Kd.R_V (Kd.R_tight rfl (Kd.R_apart' (Kd.R_apart' (Kd.R_apart' (Kd.R_apart' (Kd.R_apart' (Kd.R_apart' (Kd.R_apart' (Kd.R_apart' (HO556.out) (Kd.R_typed HO563.out) (by decide)) (Kd.R_typed HO568.out) (by decide)) (Kd.R_typed HO573.out) (by decide)) (Kd.R_typed HO580.out) (by decide)) (Kd.R_typed HO583.out) (by decide)) (Kd.R_typed HO590.out) (by decide)) (Kd.R_typed HO597.out) (by decide)) (Kd.R_typed HO601.out) (by decide)))); (case side2 => repeat (first | exact (Kd.R_reads' HO601.out).2.2 | (with_reducible refine Kd.C_alloc ?_ _) | (with_reducible refine Kd.C_drewN ?_ _) | (with_reducible refine Kd.C_drew ?_))); (case side3 => exact (Kd.R_reads' HO601.out).2.1); rintro e w56 ⟨v603, rfl, ho0, hb⟩; have n0_ := Aside0.mk (Kd.R_below (by (with_reducible repeat (first | apply Kd.R_alloc | apply Kd.R_drewN | apply Kd.R_drew)); exact HO553.out) hb); have n1_ := Aside0.mk (Kd.R_below (by (with_reducible repeat (first | apply Kd.R_alloc | apply Kd.R_drewN | apply Kd.R_drew)); exact HO556.out) hb); have n2_ := Aside0.mk (Kd.R_elder' (by (with_reducible repeat (first | apply Kd.R_alloc | apply Kd.R_drewN | apply Kd.R_drew)); exact HO563.out) (Kd.R_base ho0) hb); have n3_ := Aside0.mk (Kd.R_elder' (by (with_reducible repeat (first | apply Kd.R_alloc | apply Kd.R_drewN | apply Kd.R_drew)); exact HO568.out) (Kd.R_base ho0) hb); have n4_ := Aside0.mk (Kd.R_elder' (by (with_reducible repeat (first | apply Kd.R_alloc | apply Kd.R_drewN | apply Kd.R_drew)); exact HO573.out) (Kd.R_base ho0) hb); have n5_ := Aside0.mk (Kd.R_below (by (with_reducible repeat (first | apply Kd.R_alloc | apply Kd.R_drewN | apply Kd.R_drew)); exact HO578.out) hb); have n6_ := Aside0.mk (Kd.R_elder' (by (with_reducible repeat (first | apply Kd.R_alloc | apply Kd.R_drewN | apply Kd.R_drew)); exact HO580.out) (Kd.R_base ho0) hb); have n7_ := Aside0.mk (Kd.R_elder' (by (with_reducible repeat (first | apply Kd.R_alloc | apply Kd.R_drewN | apply Kd.R_drew)); exact HO583.out) (Kd.R_base ho0) hb); have n8_ := Aside0.mk (Kd.R_below (by (with_reducible repeat (first | apply Kd.R_alloc | apply Kd.R_drewN | apply Kd.R_drew)); exact HO588.out) hb); have n9_ := Aside0.mk (Kd.R_elder' (by (with_reducible repeat (first | apply Kd.R_alloc | apply Kd.R_drewN | apply Kd.R_drew)); exact HO590.out) (Kd.R_base ho0) hb); have n10_ := Aside0.mk (Kd.R_below (by (with_reducible repeat (first | apply Kd.R_alloc | apply Kd.R_drewN | apply Kd.R_drew)); exact HO593.out) hb); have n11_ := Aside0.mk (Kd.R_elder' (by (with_reducible repeat (first | apply Kd.R_alloc | apply Kd.R_drewN | apply Kd.R_drew)); exact HO597.out) (Kd.R_base ho0) hb); have n12_ := Aside0.mk (Kd.R_elder' (by (with_reducible repeat (first | apply Kd.R_alloc | apply Kd.R_drewN | apply Kd.R_drew)); exact HO601.out) (Kd.R_base ho0) hb); have n13_ := Aside0.mk (Kd.R_lower (Kd.R_new' (Kd.R_new' (Kd.R_new' (Kd.R_new' (Kd.R_new' (Kd.R_new' (Kd.R_new' (Kd.R_new' (Kd.R_mono (ok' := fun k_ => True) ho0 (fun _ hk_ => trivial)) (Kd.R_lt (by (with_reducible repeat (first | apply Kd.R_alloc | apply Kd.R_drewN | apply Kd.R_drew)); exact HO563.out))) (Kd.R_lt (by (with_reducible repeat (first | apply Kd.R_alloc | apply Kd.R_drewN | apply Kd.R_drew)); exact HO568.out))) (Kd.R_lt (by (with_reducible repeat (first | apply Kd.R_alloc | apply Kd.R_drewN | apply Kd.R_drew)); exact HO573.out))) (Kd.R_lt (by (with_reducible repeat (first | apply Kd.R_alloc | apply Kd.R_drewN | apply Kd.R_drew)); exact HO580.out))) (Kd.R_lt (by (with_reducible repeat (first | apply Kd.R_alloc | apply Kd.R_drewN | apply Kd.R_drew)); exact HO583.out))) (Kd.R_lt (by (with_reducible repeat (first | apply Kd.R_alloc | apply Kd.R_drewN | apply Kd.R_drew)); exact HO590.out))) (Kd.R_lt (by (with_reducible repeat (first | apply Kd.R_alloc | apply Kd.R_drewN | apply Kd.R_drew)); exact HO597.out))) (Kd.R_lt (by (with_reducible repeat (first | apply Kd.R_alloc | apply Kd.R_drewN | apply Kd.R_drew)); exact HO601.out))) (below_size (by repeat (first | (with_reducible first | exact HB.out | apply below_alloc | apply pw_below_drewN | apply below_drew1) | exact HB.out)))); have n14_ := Aside0.mk (below_step (by repeat (first | (with_reducible first | exact HB.out | apply below_alloc | apply pw_below_drewN | apply below_drew1) | exact HB.out)) hb); clear HO553; clear HO556; clear HO563; clear HO568; clear HO573; clear HO578; clear HO580; clear HO583; clear HO588; clear HO590; clear HO593; clear HO597; clear HO601; clear HB; have HO553 := n0_; have HO556 := n1_; have HO563 := n2_; have HO568 := n3_; have HO573 := n4_; have HO578 := n5_; have HO580 := n6_; have HO583 := n7_; have HO588 := n8_; have HO590 := n9_; have HO593 := n10_; have HO597 := n11_; have HO601 := n12_; have HO604 := n13_; have HB := n14_; clear n0_ n1_ n2_ n3_ n4_ n5_ n6_ n7_ n8_ n9_ n10_ n11_ n12_ n13_ n14_; (try clear hb); (try clear hb2); (try clear hk); (try clear hi); (try clear ho0)) | ((with_reducible refine gate_dst (N := 97) rfl ?_); (try (refine gate_guard (by rfl) ?_; dsimp only)); refine Kd.R_lit (Kd.int .i64) _ 3 ?hg (N := 97) ?hd (xs := ([7, 6] : List Int)) (inner := [.int .i64 7, .int .i64 6]) (ok := fun _ => True) (okp := fun _ => True) ?hr ?hp (fun _ hk => hk) trivial (Below.refl _ _) (Nat.le_refl _) (by simp) ?_; (case hd => rfl); (case hg => rfl); (case hr => first | (go_simp; done) | (go_simp; rfl)); (case hp => exact (Reps.one (show Kd.M (Kd.int .i64) _ _ _ 7 [.int .i64 7] from rfl) (Reps.one (show Kd.M (Kd.int .i64) _ _ _ 6 [.int .i64 6] from rfl) (Reps.none _ _)))); intro v606 w57 ho58 hb hg_ hnew_; clear hg_ hnew_; (first | rw [← Ny605.out] at ho58 | (simp only [Int.reduceToNat] at ho58; rw [← Ny605.out] at ho58)); have n0_ := Aside0.mk (Kd.R_below (by (with_reducible repeat (first | apply Kd.R_alloc | apply Kd.R_drewN | apply Kd.R_drew)); exact HO553.out) hb); have n1_ := Aside0.mk (Kd.R_below (by (with_reducible repeat (first | apply Kd.R_alloc | apply Kd.R_drewN | apply Kd.R_drew)); exact HO556.out) hb); have n2_ := Aside0.mk (Kd.R_elder' (by (with_reducible repeat (first | apply Kd.R_alloc | apply Kd.R_drewN | apply Kd.R_drew)); exact HO563.out) (Kd.R_base ho58) hb); have n3_ := Aside0.mk (Kd.R_elder' (by (with_reducible repeat (first | apply Kd.R_alloc | apply Kd.R_drewN | apply Kd.R_drew)); exact HO568.out) (Kd.R_base ho58) hb); have n4_ := Aside0.mk (Kd.R_elder' (by (with_reducible repeat (first | apply Kd.R_alloc | apply Kd.R_drewN | apply Kd.R_drew)); exact HO573.out) (Kd.R_base ho58) hb); have n5_ := Aside0.mk (Kd.R_below (by (with_reducible repeat (first | apply Kd.R_alloc | apply Kd.R_drewN | apply Kd.R_drew)); exact HO578.out) hb); have n6_ := Aside0.mk (Kd.R_elder' (by (with_reducible repeat (first | apply Kd.R_alloc | apply Kd.R_drewN | apply Kd.R_drew)); exact HO580.out) (Kd.R_base ho58) hb); have n7_ := Aside0.mk (Kd.R_elder' (by (with_reducible repeat (first | apply Kd.R_alloc | apply Kd.R_drewN | apply Kd.R_drew)); exact HO583.out) (Kd.R_base ho58) hb); have n8_ := Aside0.mk (Kd.R_below (by (with_reducible repeat (first | apply Kd.R_alloc | apply Kd.R_drewN | apply Kd.R_drew)); exact HO588.out) hb); have n9_ := Aside0.mk (Kd.R_elder' (by (with_reducible repeat (first | apply Kd.R_alloc | apply Kd.R_drewN | apply Kd.R_drew)); exact HO590.out) (Kd.R_base ho58) hb); have n10_ := Aside0.mk (Kd.R_below (by (with_reducible repeat (first | apply Kd.R_alloc | apply Kd.R_drewN | apply Kd.R_drew)); exact HO593.out) hb); have n11_ := Aside0.mk (Kd.R_elder' (by (with_reducible repeat (first | apply Kd.R_alloc | apply Kd.R_drewN | apply Kd.R_drew)); exact HO597.out) (Kd.R_base ho58) hb); have n12_ := Aside0.mk (Kd.R_elder' (by (with_reducible repeat (first | apply Kd.R_alloc | apply Kd.R_drewN | apply Kd.R_drew)); exact HO601.out) (Kd.R_base ho58) hb); have n13_ := Aside0.mk (Kd.R_elder' (by (with_reducible repeat (first | apply Kd.R_alloc | apply Kd.R_drewN | apply Kd.R_drew)); exact HO604.out) (Kd.R_base ho58) hb); have n14_ := Aside0.mk (Kd.R_lower (Kd.R_new' (Kd.R_new' (Kd.R_new' (Kd.R_new' (Kd.R_new' (Kd.R_new' (Kd.R_new' (Kd.R_new' (Kd.R_new' ho58 (Kd.R_lt (by (with_reducible repeat (first | apply Kd.R_alloc | apply Kd.R_drewN | apply Kd.R_drew)); exact HO563.out))) (Kd.R_lt (by (with_reducible repeat (first | apply Kd.R_alloc | apply Kd.R_drewN | apply Kd.R_drew)); exact HO568.out))) (Kd.R_lt (by (with_reducible repeat (first | apply Kd.R_alloc | apply Kd.R_drewN | apply Kd.R_drew)); exact HO573.out))) (Kd.R_lt (by (with_reducible repeat (first | apply Kd.R_alloc | apply Kd.R_drewN | apply Kd.R_drew)); exact HO580.out))) (Kd.R_lt (by (with_reducible repeat (first | apply Kd.R_alloc | apply Kd.R_drewN | apply Kd.R_drew)); exact HO583.out))) (Kd.R_lt (by (with_reducible repeat (first | apply Kd.R_alloc | apply Kd.R_drewN | apply Kd.R_drew)); exact HO590.out))) (Kd.R_lt (by (with_reducible repeat (first | apply Kd.R_alloc | apply Kd.R_drewN | apply Kd.R_drew)); exact HO597.out))) (Kd.R_lt (by (with_reducible repeat (first | apply Kd.R_alloc | apply Kd.R_drewN | apply Kd.R_drew)); exact HO601.out))) (Kd.R_lt (by (with_reducible repeat (first | apply Kd.R_alloc | apply Kd.R_drewN | apply Kd.R_drew)); exact HO604.out))) (below_size (by repeat (first | (with_reducible first | exact HB.out | apply below_alloc | apply pw_below_drewN | apply below_drew1) | exact HB.out)))); have n15_ := Aside0.mk (below_step (by repeat (first | (with_reducible first | exact HB.out | apply below_alloc | apply pw_below_drewN | apply below_drew1) | exact HB.out)) hb); clear HO553; clear HO556; clear HO563; clear HO568; clear HO573; clear HO578; clear HO580; clear HO583; clear HO588; clear HO590; clear HO593; clear HO597; clear HO601; clear HO604; clear HB; have HO553 := n0_; have HO556 := n1_; have HO563 := n2_; have HO568 := n3_; have HO573 := n4_; have HO578 := n5_; have HO580 := n6_; have HO583 := n7_; have HO588 := n8_; have HO590 := n9_; have HO593 := n10_; have HO597 := n11_; have HO601 := n12_; have HO604 := n13_; have HO607 := n14_; have HB := n15_; clear n0_ n1_ n2_ n3_ n4_ n5_ n6_ n7_ n8_ n9_ n10_ n11_ n12_ n13_ n14_ n15_; clear hb ho58; obtain ⟨Ao59, co59, eo59⟩ := Kd.R_slice HO604.out; subst eo59; obtain ⟨Ao60, co60, eo60⟩ := Kd.R_slice HO607.out; subst eo60) | (go_at_call 19; (with_reducible refine (fencepostref07_SameInts.calls k _ _ t602 _ _ y605 t608 _ ?side1 ?side2 ?side3 ?side4 A22.out).mono ?_); (case side1 => repeat (first | exact (Kd.R_reads' HO604.out).2.2 | (with_reducible refine Kd.C_alloc ?_ _) | (with_reducible refine Kd.C_drewN ?_ _) | (with_reducible refine Kd.C_drew ?_))); (case side2 => exact (Kd.R_reads' HO604.out).2.1); (case side3 => repeat (first | exact (Kd.R_reads' HO607.out).2.2 | (with_reducible refine Kd.C_alloc ?_ _) | (with_reducible refine Kd.C_drewN ?_ _) | (with_reducible refine Kd.C_drew ?_))); (case side4 => exact (Kd.R_reads' HO607.out).2.1); rintro e w' ⟨rfl, ⟨nd, rfl⟩⟩))
                      go_ret
                      exact ⟨by first | rfl | (simp [errW_none, errW_some] <;> rfl) | (simp [*, errW_none, errW_some] <;> rfl), by repeat (first | (with_reducible first | exact HB.out | apply below_alloc | apply pw_below_drewN | apply below_drew1) | exact HB.out)⟩
                  · replace c19 := Bool.eq_false_iff.mpr c19
                    subst c19
                    have H1 : (some false) = some r := by rw [if_neg (show ¬ (false = true) by decide)] at H; exact H
                    clear H
                    have H := H1
                    clear H1
                    exact absurd ((Option.some.inj H).trans HT.out) (by simp)
                · replace c18 := Bool.eq_false_iff.mpr c18
                  subst c18
                  have H1 : (some false) = some r := by rw [if_neg (show ¬ (false = true) by decide)] at H; exact H
                  clear H
                  have H := H1
                  clear H1
                  exact absurd ((Option.some.inj H).trans HT.out) (by simp)
              · replace c16 := Bool.eq_false_iff.mpr c16
                subst c16
                have H1 : (some false) = some r := by rw [if_neg (show ¬ (false = true) by decide)] at H; exact H
                clear H
                have H := H1
                clear H1
                exact absurd ((Option.some.inj H).trans HT.out) (by simp)
          · replace c13 := Bool.eq_false_iff.mpr c13
            subst c13
            have H1 : (some false) = some r := by rw [if_neg (show ¬ (false = true) by decide)] at H; exact H
            clear H
            have H := H1
            clear H1
            exact absurd ((Option.some.inj H).trans HT.out) (by simp)
        · rw [if_neg c12] at H
          have c12b0 : (t564 == 7) = false := beq_eq_false_iff_ne.mpr c12
          have c12b1 : (t564 != 7) = true := bne_iff_ne.mpr c12
          exact absurd ((Option.some.inj H).trans HT.out) (by simp)
    · replace c10 := Bool.eq_false_iff.mpr c10
      subst c10
      have H1 : (some false) = some r := by rw [if_neg (show ¬ (false = true) by decide)] at H; exact H
      clear H
      have H := H1
      clear H1
      exact absurd ((Option.some.inj H).trans HT.out) (by simp)
  · rw [if_neg c9] at H
    have c9b0 : (t557 == 6) = false := beq_eq_false_iff_ne.mpr c9
    have c9b1 : (t557 != 6) = true := bne_iff_ne.mpr c9
    exact absurd ((Option.some.inj H).trans HT.out) (by simp)
def fencepostlaw09_head.f (k : Nat) : Option (Bool) := if fencepostlaw09_head.g k = some true then some true else none
theorem fencepostlaw09_head.mono : ∀ k, LeO (fencepostlaw09_head.f k) (fencepostlaw09_head.f (k + 1)) := by
  intro k r h
  unfold fencepostlaw09_head.f at h ⊢
  by_cases c : fencepostlaw09_head.g k = some true
  · rw [if_pos c] at h; rw [if_pos (fencepostlaw09_head.monoT k true c)]; exact h
  · rw [if_neg c] at h; exact absurd h (by simp)
theorem fencepostlaw09_head.calls (k : Nat) (r : Bool) (w : World) (h : fencepostlaw09_head.f k = some r) :
    Calls Try.prog 29 #[] w fun e w' => e = .returned (.bool r) ∧ Below w.heap.size w w' := by
  unfold fencepostlaw09_head.f at h
  by_cases c : fencepostlaw09_head.g k = some true
  · rw [if_pos c] at h; obtain rfl := Option.some.inj h; exact fencepostlaw09_head.callsT k true w rfl c
  · rw [if_neg c] at h; exact absurd h (by simp)

/-! ### fencepostlaw09_great: function 30 -/
def fencepostlaw09_great.f (l0 : List (S51)) (l1 : List Int) : Option (Bool) := if (l0.length : Int) > 300 then (some true) else (some (decide ((l1.length : Int) > 300)))
set_option maxHeartbeats 8000000 in
set_option maxRecDepth 100000 in
theorem fencepostlaw09_great.calls (A0 : Option Addr) (c0 : Nat) (l0 : List (S51)) (A1 : Option Addr) (c1 : Nat) (l1 : List Int) (r : Bool) (w : World) (hr0 : Kd.C k51 w A0 l0.length l0) (hc0 : l0.length ≤ c0) (hr1 : Kd.C (Kd.int .i64) w A1 l1.length l1) (hc1 : l1.length ≤ c1) (h : fencepostlaw09_great.f l0 l1 = some r) :
    Calls Try.prog 30 #[.slice A0 l0.length c0, .slice A1 l1.length c1] w fun e w' => e = .returned (.bool r) ∧ Drawn0 w w' := by
  have HR0 := Aside0.mk hr0
  have HC0 := Aside0.mk hc0
  clear hr0 hc0
  have HR1 := Aside0.mk hr1
  have HC1 := Aside0.mk hc1
  clear hr1 hc1
  have H : (if (l0.length : Int) > 300 then (some true) else (some (decide ((l1.length : Int) > 300)))) = some r := h
  clear h
  by_cases c3 : (l0.length : Int) > 300
  · rw [if_pos c3] at H
    have c3b0 : decide (300 < (l0.length : Int)) = true := decide_eq_true c3
    have c3b1 : decide (300 < l0.length) = true := decide_eq_true (by omega)
    clear c3
    obtain rfl := Option.some.inj H
    go_enter Try.func30, Try.ntmps30
    go_wp2
    go_ret
    exact ⟨by first | rfl | (simp; done) | (simp [*]; done), by repeat (first | exact Drawn0.refl _ | apply Drawn0.step)⟩
  · rw [if_neg c3] at H
    have c3b0 : decide (300 < (l0.length : Int)) = false := decide_eq_false c3
    have c3b1 : decide (300 < l0.length) = false := decide_eq_false (by omega)
    clear c3
    obtain rfl := Option.some.inj H
    go_enter Try.func30, Try.ntmps30
    go_wp2
    go_ret
    exact ⟨by first | rfl | (simp; done) | (simp [*]; done), by repeat (first | exact Drawn0.refl _ | apply Drawn0.step)⟩

/-! ### fencepostref09_All: function 41 -/
def fencepostref09_All.l0 : Nat → List (S51) → List Int → Int → Option (List Int)
  | 0, _, _, _ => none
  | k + 1, x0, x5, x6 => if x6 < (x0.length : Int) then (if 0 ≤ x6 then (if ((rd_T51 x0 x6).f0) < 0 then (some x5) else (if ((rd_T51 x0 x6).f0) ≥ (x5.length : Int) then (some x5) else (if 0 ≤ ((rd_T51 x0 x6).f0) then (if ((rd_T51 x0 x6).f0) < (x5.length : Int) then (fencepostref09_All.l0 k x0 (x5.set (((rd_T51 x0 x6).f0) : Int).toNat ((rd_T51 x0 x6).f1)) (wrap64 (x6 + 1))) else (none)) else (none)))) else (none)) else (some x5)
def fencepostref09_All.f (k : Nat) (l0 : List (S51)) (l1 : List Int) : Option (List Int) := (some (([] : List Int) : List Int)).bind fun y609 => (if y609.length + l1.length < 17592186044416 then (fencepostref09_All.l0 k l0 (y609 ++ l1) 0) else (none))
theorem fencepostref09_All.mono_l : ∀ k, (∀ y0 y1 y2, LeO (fencepostref09_All.l0 k y0 y1 y2) (fencepostref09_All.l0 (k + 1) y0 y1 y2))
  | 0 => fun _ _ _ r h => by simp [fencepostref09_All.l0] at h
  | k + 1 => by
    have ih0 := fencepostref09_All.mono_l k
    · intro y0 y1 y2
      unfold fencepostref09_All.l0
      repeat' first
      | (with_reducible exact ih0 _ _ _)
      | (with_reducible exact LeO.refl _)
      | (with_reducible exact LeO.none _)
      | (with_reducible refine LeO.ite ?_ ?_)
      | (with_reducible refine LeO.bind ?_ (fun _ => ?_))
      | exact ih0 _ _ _
      | exact LeO.none _
      | refine LeO.ite ?_ ?_
      | refine LeO.bind ?_ (fun _ => ?_)
theorem fencepostref09_All.mono : ∀ a0 a1 k, LeO (fencepostref09_All.f k a0 a1) (fencepostref09_All.f (k + 1) a0 a1) := by
  intro a0 a1 k
  have ih0 := fencepostref09_All.mono_l k
  unfold fencepostref09_All.f
  repeat' first
      | (with_reducible exact ih0 _ _ _)
      | (with_reducible exact LeO.refl _)
      | (with_reducible exact LeO.none _)
      | (with_reducible refine LeO.ite ?_ ?_)
      | (with_reducible refine LeO.bind ?_ (fun _ => ?_))
      | exact ih0 _ _ _
      | exact LeO.none _
      | refine LeO.ite ?_ ?_
      | refine LeO.bind ?_ (fun _ => ?_)
def fencepostref09_All.T7 : Bool × List (List Nat × List Nat) := (true, [([], []), ([], []), ([], []), ([1, 2], [1, 2]), ([3], [3]), ([4], [4]), ([], []), ([], []), ([6, 7], [6, 7]), ([8], [8]), ([9], [9]), ([0, 5, 0, 1, 2, 3, 4, 5, 6, 7, 8, 9, 10], [0, 5]), ([11, 10, 0, 1, 2, 3, 4, 5, 6, 7, 8, 9, 10], [10, 11])])
def fencepostref09_All.B7 : List Nat := [0, 0, 0, 6, 14, 30, 0, 0, 192, 448, 960, 2047, 4095]
theorem fencepostref09_All.tab7 : rtab .any (opsOf Try.f41 7) = fencepostref09_All.T7 := by kernel_rfl
theorem fencepostref09_All.bits7 : waitsOk fencepostref09_All.T7.2 fencepostref09_All.B7 = true := by kernel_rfl
set_option maxHeartbeats 8000000 in
set_option maxRecDepth 100000 in
theorem fencepostref09_All.calls (k : Nat) (A0 : Option Addr) (c0 : Nat) (l0 : List (S51)) (A1 : Option Addr) (c1 : Nat) (l1 : List Int) (r : List Int) (w : World) (hr0 : Kd.C k51 w A0 l0.length l0) (hc0 : l0.length ≤ c0) (hr1 : Kd.C (Kd.int .i64) w A1 l1.length l1) (hc1 : l1.length ≤ c1) (h : fencepostref09_All.f k l0 l1 = some r) :
    Calls Try.prog 41 #[.slice A0 l0.length c0, .slice A1 l1.length c1] w fun e w' => ∃ v0_ : Value, e = .returned (v0_) ∧ Kd.R (Kd.int .i64) 3 w' w.heap.size (fun _ => True) v0_ r ∧ Below w.heap.size w w' := by
  have HR0 := Aside0.mk hr0
  have HC0 := Aside0.mk hc0
  clear hr0 hc0
  have HR1 := Aside0.mk hr1
  have HC1 := Aside0.mk hc1
  clear hr1 hc1
  have HB := Aside0.mk (Below.refl w.heap.size w)
  have H : ((some (([] : List Int) : List Int)).bind fun y609 => (if y609.length + l1.length < 17592186044416 then (fencepostref09_All.l0 k l0 (y609 ++ l1) 0) else (none))) = some r := h
  clear h
  obtain ⟨y609, hy609⟩ : ∃ y_ : List Int, y_ = (([] : List Int)) := ⟨_, rfl⟩
  replace H : (if y609.length + l1.length < 17592186044416 then (fencepostref09_All.l0 k l0 (y609 ++ l1) 0) else (none)) = some r := by first | (rw [hy609]; with_reducible exact H) | (have H2_ := (Option.bind_some _ _).symm.trans H; rw [hy609]; with_reducible exact H2_) | (have H2_ := (Option.bind_some _ _).symm.trans H; with_reducible exact H2_) | with_reducible exact H | (rw [hy609]; exact H) | exact H
  have Ny609 := Aside0.mk hy609
  clear hy609
  by_cases c3 : y609.length + l1.length < 17592186044416
  · rw [if_pos c3] at H
    have LMc3 := Aside0.mk c3
    clear c3
    obtain ⟨y612, hy612⟩ : ∃ y_ : List Int, y_ = (y609 ++ l1) := ⟨_, rfl⟩
    replace H : (fencepostref09_All.l0 k l0 y612 0) = some r := by first | (rw [hy612]; with_reducible exact H) | (have H2_ := (Option.bind_some _ _).symm.trans H; rw [hy612]; with_reducible exact H2_) | (have H2_ := (Option.bind_some _ _).symm.trans H; with_reducible exact H2_) | with_reducible exact H | (rw [hy612]; exact H) | exact H
    have Ny612 := Aside0.mk hy612
    clear hy612
    have H' := Aside0.mk H
    clear H
    go_enter Try.func41, Try.ntmps41
    go_wp2_with (first | ((with_reducible refine gate_dst (N := 7) rfl ?_); (try (refine gate_guard (by rfl) ?_; dsimp only)); refine Kd.R_lit (Kd.int .i64) _ 3 ?hg (N := 7) ?hd (xs := ([] : List Int)) (inner := []) (ok := fun _ => True) (okp := fun _ => True) ?hr ?hp (fun _ hk => hk) trivial (Below.refl _ _) (Nat.le_refl _) (by simp) ?_; (case hd => rfl); (case hg => rfl); (case hr => first | (go_simp; done) | (go_simp; rfl)); (case hp => exact (Reps.none _ _)); intro v610 w4 ho5 hb hg_ hnew_; clear hg_ hnew_; (first | rw [← Ny609.out] at ho5 | (simp only [Int.reduceToNat] at ho5; rw [← Ny609.out] at ho5)); have n0_ := Aside0.mk (Kd.R_lower ho5 (below_size (by repeat (first | (with_reducible first | exact HB.out | apply below_alloc | apply pw_below_drewN | apply below_drew1) | exact HB.out)))); have n1_ := Aside0.mk (below_step (by repeat (first | (with_reducible first | exact HB.out | apply below_alloc | apply pw_below_drewN | apply below_drew1) | exact HB.out)) hb); clear HB; have HO611 := n0_; have HB := n1_; clear n0_ n1_; clear hb ho5) | ((with_reducible refine gate_builtin (b := .append) (xs := #[.tmp 7, .tmp 8]) rfl ?_); (try (refine gate_guard (by rfl) ?_; dsimp only)); at_builtin; refine Kd.R_append_rows (Kd.int .i64) (w0 := w) w.heap.size rfl (.tmp 7) (.tmp 8) 28 3 (.int .i64 0) 8 rfl Try.underlying28 info3 rfl (by decide) (by omega) v610 y609 l1 _ _ _ (fun _ => True) (fun _ => False) rfl rfl ?aO ?aR (fun _ _ h => h) (fun _ h => h.elim) ?aF ?aB ?aS ?aL ?_; (case aR => repeat (first | exact (Kd.C_below HR1.out HB.out) | (with_reducible refine Kd.C_alloc ?_ _) | (with_reducible refine Kd.C_drewN ?_ _) | (with_reducible refine Kd.C_drew ?_))); (case aB => exact (by repeat (first | (with_reducible first | exact HB.out | apply below_alloc | apply pw_below_drewN | apply below_drew1) | exact HB.out))); (case aF => exact (fun _ _ => trivial)); (case aO => exact (by (with_reducible repeat (first | apply Kd.R_alloc | apply Kd.R_drewN | apply Kd.R_drew)); exact HO611.out)); (case aS => exact (below_size (by repeat (first | (with_reducible first | exact HB.out | apply below_alloc | apply pw_below_drewN | apply below_drew1) | exact HB.out)))); (case aL => have := LMc3.out; omega); intro v613 w6 ho hb hg hat; rw [← Ny612.out] at ho; have n0_ := Aside0.mk (hb); have n1_ := Aside0.mk (ho); clear HB; clear HO611; have HB := n0_; have HO614 := n1_; clear n0_ n1_; clear ho hb hg hat))
    go_loopg [6] k (fun kq v6 w' => ∃ (x5_1 : List Int) (x6_1 : Int), v6 = .int .i64 x6_1 ∧ Aside0 (fencepostref09_All.l0 kq l0 x5_1 x6_1 = some r) ∧ Aside0 (kq ≤ k) ∧ Aside0 (Kd.R (Kd.int .i64) 3 w' w.heap.size (fun _ => True) v613 x5_1) ∧ Aside0 (Below w.heap.size w w'))
    case atStart => exact ⟨(y612), (0), (by first | rfl | (simp; done) | (simp [*]; done)), H', ⟨Nat.le_refl _⟩, ⟨by (with_reducible repeat (first | apply Kd.R_alloc | apply Kd.R_drewN | apply Kd.R_drew)); exact HO614.out⟩, ⟨by repeat (first | (with_reducible first | exact HB.out | apply below_alloc | apply pw_below_drewN | apply below_drew1) | exact HB.out)⟩⟩
    case round =>
      clear H'
      try clear c1
      try clear p2
      try clear c3
      try clear c4
      obtain ⟨x5_1, x6_1, rfl, HA, HK1, HO_5, HB⟩ := hrel
      cases gk with
      | zero => exact absurd HA.out (by simp [fencepostref09_All.l0])
      | succ k1 =>
        have H := HA.out
        clear HA
        simp only [fencepostref09_All.l0] at H
        by_cases c7 : x6_1 < (l0.length : Int)
        · rw [if_pos c7] at H
          have c7b0 : decide (x6_1 < (l0.length : Int)) = true := decide_eq_true c7
          clear c7
          by_cases c8 : 0 ≤ x6_1
          · rw [if_pos c8] at H
            have c8b0 : decide (0 ≤ x6_1) = true := decide_eq_true c8
            clear c8
            by_cases c9 : ((rd_T51 l0 x6_1).f0) < 0
            · rw [if_pos c9] at H
              have c9b0 : decide (((rd_T51 l0 x6_1).f0) < 0) = true := decide_eq_true c9
              clear c9
              obtain rfl := Option.some.inj H
              have p615 : 0 ≤ (x6_1 : Int) := of_decide_eq_true (by first | (with_reducible assumption) | assumption)
              have q615 : x6_1 < (l0.length : Int) := of_decide_eq_true (by first | (with_reducible assumption) | assumption)
              obtain ⟨ad615, e615, hx615_0, hx615_1⟩ := at_T51 HR0.out x6_1 p615 q615
              cases e615
              replace hx615_0 := (HB.out.cell (World.block_lt_of_cell? w _ hx615_0)).trans hx615_0
              replace hx615_1 := (HB.out.cell (World.block_lt_of_cell? w _ hx615_1)).trans hx615_1
              replace p615 := eq_true p615
              replace q615 := eq_true q615
              go_wp2
              go_ret
              exact ⟨_, by first | rfl | (simp [errW_none, errW_some] <;> rfl) | (simp [*, errW_none, errW_some] <;> rfl), by (with_reducible repeat (first | apply Kd.R_alloc | apply Kd.R_drewN | apply Kd.R_drew)); exact HO_5.out, by repeat (first | (with_reducible first | exact HB.out | apply below_alloc | apply pw_below_drewN | apply below_drew1) | exact HB.out)⟩
            · rw [if_neg c9] at H
              have c9b0 : decide (((rd_T51 l0 x6_1).f0) < 0) = false := decide_eq_false c9
              clear c9
              by_cases c10 : ((rd_T51 l0 x6_1).f0) ≥ (x5_1.length : Int)
              · rw [if_pos c10] at H
                have c10b0 : decide ((x5_1.length : Int) ≤ ((rd_T51 l0 x6_1).f0)) = true := decide_eq_true c10
                clear c10
                obtain rfl := Option.some.inj H
                have p615 : 0 ≤ (x6_1 : Int) := of_decide_eq_true (by first | (with_reducible assumption) | assumption)
                have q615 : x6_1 < (l0.length : Int) := of_decide_eq_true (by first | (with_reducible assumption) | assumption)
                obtain ⟨ad615, e615, hx615_0, hx615_1⟩ := at_T51 HR0.out x6_1 p615 q615
                cases e615
                replace hx615_0 := (HB.out.cell (World.block_lt_of_cell? w _ hx615_0)).trans hx615_0
                replace hx615_1 := (HB.out.cell (World.block_lt_of_cell? w _ hx615_1)).trans hx615_1
                replace p615 := eq_true p615
                replace q615 := eq_true q615
                have p616 : 0 ≤ (x6_1 : Int) := of_decide_eq_true (by first | (with_reducible assumption) | assumption)
                have q616 : x6_1 < (l0.length : Int) := of_decide_eq_true (by first | (with_reducible assumption) | assumption)
                obtain ⟨ad616, e616, hx616_0, hx616_1⟩ := at_T51 HR0.out x6_1 p616 q616
                obtain rfl : ad615 = ad616 := (by injection e616)
                replace hx616_0 := (HB.out.cell (World.block_lt_of_cell? w _ hx616_0)).trans hx616_0
                replace hx616_1 := (HB.out.cell (World.block_lt_of_cell? w _ hx616_1)).trans hx616_1
                replace p616 := eq_true p616
                replace q616 := eq_true q616
                obtain ⟨Ao11, co11, eo11⟩ := Kd.R_slice HO_5.out
                subst eo11
                go_wp2
                go_ret
                exact ⟨_, by first | rfl | (simp [errW_none, errW_some] <;> rfl) | (simp [*, errW_none, errW_some] <;> rfl), by (with_reducible repeat (first | apply Kd.R_alloc | apply Kd.R_drewN | apply Kd.R_drew)); exact HO_5.out, by repeat (first | (with_reducible first | exact HB.out | apply below_alloc | apply pw_below_drewN | apply below_drew1) | exact HB.out)⟩
              · rw [if_neg c10] at H
                have c10b0 : decide ((x5_1.length : Int) ≤ ((rd_T51 l0 x6_1).f0)) = false := decide_eq_false c10
                clear c10
                by_cases c12 : 0 ≤ ((rd_T51 l0 x6_1).f0)
                · rw [if_pos c12] at H
                  have c12b0 : decide (0 ≤ ((rd_T51 l0 x6_1).f0)) = true := decide_eq_true c12
                  clear c12
                  by_cases c13 : ((rd_T51 l0 x6_1).f0) < (x5_1.length : Int)
                  · rw [if_pos c13] at H
                    have c13b0 : decide (((rd_T51 l0 x6_1).f0) < (x5_1.length : Int)) = true := decide_eq_true c13
                    clear c13
                    obtain ⟨y619, hy619⟩ : ∃ y_ : List Int, y_ = (x5_1.set (((rd_T51 l0 x6_1).f0) : Int).toNat ((rd_T51 l0 x6_1).f1)) := ⟨_, rfl⟩
                    replace H : (fencepostref09_All.l0 k1 l0 y619 (wrap64 (x6_1 + 1))) = some r := by first | (rw [hy619]; with_reducible exact H) | (have H2_ := (Option.bind_some _ _).symm.trans H; rw [hy619]; with_reducible exact H2_) | (have H2_ := (Option.bind_some _ _).symm.trans H; with_reducible exact H2_) | with_reducible exact H | (rw [hy619]; exact H) | exact H
                    have Ny619 := Aside0.mk hy619
                    clear hy619
                    have H' := Aside0.mk H
                    clear H
                    have p615 : 0 ≤ (x6_1 : Int) := of_decide_eq_true (by first | (with_reducible assumption) | assumption)
                    have q615 : x6_1 < (l0.length : Int) := of_decide_eq_true (by first | (with_reducible assumption) | assumption)
                    obtain ⟨ad615, e615, hx615_0, hx615_1⟩ := at_T51 HR0.out x6_1 p615 q615
                    cases e615
                    replace hx615_0 := (HB.out.cell (World.block_lt_of_cell? w _ hx615_0)).trans hx615_0
                    replace hx615_1 := (HB.out.cell (World.block_lt_of_cell? w _ hx615_1)).trans hx615_1
                    replace p615 := eq_true p615
                    replace q615 := eq_true q615
                    have p616 : 0 ≤ (x6_1 : Int) := of_decide_eq_true (by first | (with_reducible assumption) | assumption)
                    have q616 : x6_1 < (l0.length : Int) := of_decide_eq_true (by first | (with_reducible assumption) | assumption)
                    obtain ⟨ad616, e616, hx616_0, hx616_1⟩ := at_T51 HR0.out x6_1 p616 q616
                    obtain rfl : ad615 = ad616 := (by injection e616)
                    replace hx616_0 := (HB.out.cell (World.block_lt_of_cell? w _ hx616_0)).trans hx616_0
                    replace hx616_1 := (HB.out.cell (World.block_lt_of_cell? w _ hx616_1)).trans hx616_1
                    replace p616 := eq_true p616
                    replace q616 := eq_true q616
                    obtain ⟨Ao15, co15, eo15⟩ := Kd.R_slice HO_5.out
                    subst eo15
                    try go_wp2
                    have n0_ := Aside0.mk (Kd.R_drew HO_5.out)
                    have n1_ := Aside0.mk (below_drew1 HB.out)
                    clear HO_5
                    clear HB
                    have HO_5 := n0_
                    have HB := n1_
                    clear n0_ n1_
                    have p617 : 0 ≤ (x6_1 : Int) := of_decide_eq_true (by first | (with_reducible assumption) | assumption)
                    have q617 : x6_1 < (l0.length : Int) := of_decide_eq_true (by first | (with_reducible assumption) | assumption)
                    obtain ⟨ad617, e617, hx617_0, hx617_1⟩ := at_T51 HR0.out x6_1 p617 q617
                    have hw617_1 := hx617_1
                    have hw617_0 := hx617_0
                    obtain rfl : ad615 = ad617 := (by injection e617)
                    replace hx617_0 := (HB.out.cell (World.block_lt_of_cell? w _ hx617_0)).trans hx617_0
                    replace hx617_1 := (HB.out.cell (World.block_lt_of_cell? w _ hx617_1)).trans hx617_1
                    replace p617 := eq_true p617
                    replace q617 := eq_true q617
                    have p618 : 0 ≤ (x6_1 : Int) := of_decide_eq_true (by first | (with_reducible assumption) | assumption)
                    have q618 : x6_1 < (l0.length : Int) := of_decide_eq_true (by first | (with_reducible assumption) | assumption)
                    obtain ⟨ad618, e618, hx618_0, hx618_1⟩ := at_T51 HR0.out x6_1 p618 q618
                    have hw618_1 := hx618_1
                    have hw618_0 := hx618_0
                    obtain rfl : ad615 = ad618 := (by injection e618)
                    replace hx618_0 := (HB.out.cell (World.block_lt_of_cell? w _ hx618_0)).trans hx618_0
                    replace hx618_1 := (HB.out.cell (World.block_lt_of_cell? w _ hx618_1)).trans hx618_1
                    replace p618 := eq_true p618
                    replace q618 := eq_true q618
                    have p14 : 0 ≤ (((rd_T51 l0 x6_1).f0) : Int) := of_decide_eq_true (by first | (with_reducible assumption) | assumption)
                    have q14 : (((rd_T51 l0 x6_1).f0) : Int) < ((x5_1.length : Int) : Int) := of_decide_eq_true (by first | (with_reducible assumption) | assumption)
                    obtain ⟨go14, co14, eo14, gb14, gl14, cl14, HG14⟩ := Kd.R_form HO_5.out (by omega)
                    (first | cases eo14 | (injection eo14 with ea_ en_ ec_; (first | subst ea_ | (injection ea_ with ea_; subst ea_)); subst ec_; clear en_))
                    have GB14 := Aside0.mk gb14
                    have GG14 := Aside0.mk HG14
                    clear gb14 gl14 HG14
                    obtain ⟨hx14_0, hf14_0⟩ := Kd.R_celln 0 HO_5.out (((rd_T51 l0 x6_1).f0) : Int) p14 q14
                    replace p14 := eq_true p14
                    replace q14 := eq_true q14
                    have HP17 := Kd.R_putn HO_5.out (((rd_T51 l0 x6_1).f0) : Int) ((rd_T51 l0 x6_1).f1)
                    rw [← Ny619.out] at HP17
                    have HQ17 := Aside0.mk HP17
                    clear HP17
                    refine start_ (n := 13) (S := fun w' => w'.cell? (ad615.add ((x6_1).toNat * 2)) = some (.int .i64 ((rd_T51 l0 x6_1).f0)) ∧ w'.cell? ⟨(ad615.add ((x6_1).toNat * 2)).block, (ad615.add ((x6_1).toNat * 2)).off + 1, none⟩ = some (.int .i64 ((rd_T51 l0 x6_1).f1)) ∧ w'.cell? (ad615.add ((x6_1).toNat * 2)) = some (.int .i64 ((rd_T51 l0 x6_1).f0)) ∧ w'.cell? ⟨(ad615.add ((x6_1).toNat * 2)).block, (ad615.add ((x6_1).toNat * 2)).off + 1, none⟩ = some (.int .i64 ((rd_T51 l0 x6_1).f1))) (ds := [12]) #[false, false, false, false, false, false, false, false, false, false, false, false, false] (by kernel_rfl) rfl rfl ⟨((HB.out.cell (World.block_lt_of_cell? w _ hw617_0)).trans hw617_0), ((HB.out.cell (World.block_lt_of_cell? w _ hw617_1)).trans hw617_1), ((HB.out.cell (World.block_lt_of_cell? w _ hw618_0)).trans hw618_0), ((HB.out.cell (World.block_lt_of_cell? w _ hw618_1)).trans hw618_1)⟩ (fun hHeld => ?_); refine with_tabW fencepostref09_All.tab7 fencepostref09_All.bits7 (fun HT_ HW_ => ?_)
                    generalize wr.drew = w16 at HO_5 HB GG14 HQ17 hf14_0 hx14_0 hx617_0 hx617_1 hx618_0 hx618_1 hHeld ⊢
                    refine pure_ (i := 0) (N := some 33) (v := ?_) (a' := ?_) #[true, false, false, false, false, false, false, false, false, false, false, false, false] rfl rfl (any_of HT_.out (by kernel_rfl)) (fun _ _ _ h => h) (Or.inl ⟨by rfl, ?_⟩) ?_ ?_
                    rotate_left
                    · intro w'
                      go_simp
                      with_reducible rfl
                    rotate_left
                    · simp only [Act.put, List.setIfInBounds_toArray, List.set_cons_zero, List.set_cons_succ, i64_w, i32_w]
                      rfl
                    refine pure_ (i := 1) (N := some 34) (v := ?_) (a' := ?_) #[true, true, false, false, false, false, false, false, false, false, false, false, false] rfl rfl (any_of HT_.out (by kernel_rfl)) (fun _ _ _ h => h) (Or.inl ⟨by rfl, ?_⟩) ?_ ?_
                    rotate_left
                    · intro w'
                      go_simp
                      with_reducible rfl
                    rotate_left
                    · simp only [Act.put, List.setIfInBounds_toArray, List.set_cons_zero, List.set_cons_succ, i64_w, i32_w]
                      rfl
                    refine pure_ (i := 2) (N := some 35) (v := ?_) (a' := ?_) #[true, true, true, false, false, false, false, false, false, false, false, false, false] rfl rfl (any_of HT_.out (by kernel_rfl)) (fun _ _ _ h => h) (Or.inl ⟨by rfl, ?_⟩) ?_ ?_
                    rotate_left
                    · intro w'
                      go_simp
                      with_reducible rfl
                    rotate_left
                    · simp only [Act.put, List.setIfInBounds_toArray, List.set_cons_zero, List.set_cons_succ, i64_w, i32_w]
                      rfl
                    refine pure_ (i := 3) (N := some 36) (v := ?_) (a' := ?_) #[true, true, true, true, false, false, false, false, false, false, false, false, false] rfl rfl (any_of HT_.out (by kernel_rfl)) (fun _ _ _ h => h) (Or.inl ⟨by rfl, ?_⟩) ?_ ?_
                    rotate_left
                    · intro w'
                      go_simp
                      with_reducible rfl
                    rotate_left
                    · simp only [Act.put, List.setIfInBounds_toArray, List.set_cons_zero, List.set_cons_succ, i64_w, i32_w]
                      rfl
                    refine pure_ (i := 4) (N := some 37) (v := ?_) (a' := ?_) #[true, true, true, true, true, false, false, false, false, false, false, false, false] rfl rfl (any_of HT_.out (by kernel_rfl)) (fun _ _ _ h => h) (Or.inl ⟨by rfl, ?_⟩) ?_ ?_
                    rotate_left
                    · intro w'
                      go_simp
                      with_reducible rfl
                    rotate_left
                    · simp only [Act.put, List.setIfInBounds_toArray, List.set_cons_zero, List.set_cons_succ, i64_w, i32_w]
                      rfl
                    refine pure_ (i := 6) (N := some 39) (v := ?_) (a' := ?_) #[true, true, true, true, true, false, true, false, false, false, false, false, false] rfl rfl (any_of HT_.out (by kernel_rfl)) (fun _ _ _ h => h) (Or.inl ⟨by rfl, ?_⟩) ?_ ?_
                    rotate_left
                    · intro w'
                      go_simp
                      with_reducible rfl
                    rotate_left
                    · simp only [Act.put, List.setIfInBounds_toArray, List.set_cons_zero, List.set_cons_succ, i64_w, i32_w]
                      rfl
                    refine pure_ (i := 7) (N := some 40) (v := ?_) (a' := ?_) #[true, true, true, true, true, false, true, true, false, false, false, false, false] rfl rfl (any_of HT_.out (by kernel_rfl)) (fun _ _ _ h => h) (Or.inl ⟨by rfl, ?_⟩) ?_ ?_
                    rotate_left
                    · intro w'
                      go_simp
                      with_reducible rfl
                    rotate_left
                    · simp only [Act.put, List.setIfInBounds_toArray, List.set_cons_zero, List.set_cons_succ, i64_w, i32_w]
                      rfl
                    refine pure_ (i := 8) (N := some 41) (v := ?_) (a' := ?_) #[true, true, true, true, true, false, true, true, true, false, false, false, false] rfl rfl (any_of HT_.out (by kernel_rfl)) (fun _ _ _ h => h) (Or.inl ⟨by rfl, ?_⟩) ?_ ?_
                    rotate_left
                    · intro w'
                      go_simp
                      with_reducible rfl
                    rotate_left
                    · simp only [Act.put, List.setIfInBounds_toArray, List.set_cons_zero, List.set_cons_succ, i64_w, i32_w]
                      rfl
                    refine pure_ (i := 9) (N := some 42) (v := ?_) (a' := ?_) #[true, true, true, true, true, false, true, true, true, true, false, false, false] rfl rfl (any_of HT_.out (by kernel_rfl)) (fun _ _ _ h => h) (Or.inl ⟨by rfl, ?_⟩) ?_ ?_
                    rotate_left
                    · intro w'
                      go_simp
                      with_reducible rfl
                    rotate_left
                    · simp only [Act.put, List.setIfInBounds_toArray, List.set_cons_zero, List.set_cons_succ, i64_w, i32_w]
                      rfl
                    refine take_ (i := 5) (N := some 38) (v := ?_) (a' := ?_) #[true, true, true, true, true, true, true, true, true, true, false, false, false] rfl rfl (take_ofW HT_.out HW_.out (by kernel_rfl)) (fun _ _ _ h => h) (Or.inl ⟨by rfl, ?_⟩) hHeld ?_ ?_
                    rotate_left
                    · rintro w' ⟨s0, s1, s2, s3⟩
                      go_simp
                      with_reducible rfl
                    rotate_left
                    · simp only [Act.put, List.setIfInBounds_toArray, List.set_cons_zero, List.set_cons_succ, i64_w, i32_w]
                      rfl
                    refine take_ (i := 10) (N := some 43) (v := ?_) (a' := ?_) #[true, true, true, true, true, true, true, true, true, true, true, false, false] rfl rfl (take_ofW HT_.out HW_.out (by kernel_rfl)) (fun _ _ _ h => h) (Or.inl ⟨by rfl, ?_⟩) hHeld ?_ ?_
                    rotate_left
                    · rintro w' ⟨s0, s1, s2, s3⟩
                      go_simp
                      with_reducible rfl
                    rotate_left
                    · simp only [Act.put, List.setIfInBounds_toArray, List.set_cons_zero, List.set_cons_succ, i64_w, i32_w]
                      rfl
                    refine pure_ (i := 11) (N := some 44) (v := ?_) (a' := ?_) #[true, true, true, true, true, true, true, true, true, true, true, true, false] rfl rfl (any_of HT_.out (by kernel_rfl)) (fun _ _ _ h => h) (Or.inl ⟨by rfl, ?_⟩) ?_ ?_
                    rotate_left
                    · intro w'
                      go_simp
                      with_reducible rfl
                    rotate_left
                    · simp only [Act.put, List.setIfInBounds_toArray, List.set_cons_zero, List.set_cons_succ, i64_w, i32_w]
                      rfl
                    refine last_ (i := 12) (N := none) #[true, true, true, true, true, true, true, true, true, true, true, true, true] rfl rfl (one_of HT_.out (by kernel_rfl)) (by decide) (fun K hK => ?_)
                    refine skip_ (w1 := ?_) (by rfl) rfl ?_ ?_
                    rotate_left
                    · go_simp
                      rfl
                    refine hK.out _ _ ?_
                    clear hK K
                    refine done_ (done_of HT_.out (by kernel_rfl)) ?_
                    try go_wp2
                    go_roundg k1
                    case measure => have := HK1.out; omega
                    case rel => exact ⟨(y619), (wrap64 (x6_1 + 1)), (by first | rfl | (simp; done) | (simp [*]; done)), H', ⟨by have := HK1.out; omega⟩, ⟨by (with_reducible repeat (first | apply Kd.R_alloc | apply Kd.R_drewN | apply Kd.R_drew)); exact HQ17.out⟩, ⟨by repeat (first | (with_reducible first | exact HB.out | apply below_alloc | apply pw_below_drewN | apply below_drew1 | refine below_set ?_ GB14.out) | exact HB.out)⟩⟩
                  · rw [if_neg c13] at H
                    exact absurd H (by simp)
                · rw [if_neg c12] at H
                  exact absurd H (by simp)
          · rw [if_neg c8] at H
            exact absurd H (by simp)
        · rw [if_neg c7] at H
          have c7b0 : decide (x6_1 < (l0.length : Int)) = false := decide_eq_false c7
          clear c7
          obtain rfl := Option.some.inj H
          go_wp2
          go_ret
          exact ⟨_, by first | rfl | (simp [errW_none, errW_some] <;> rfl) | (simp [*, errW_none, errW_some] <;> rfl), by (with_reducible repeat (first | apply Kd.R_alloc | apply Kd.R_drewN | apply Kd.R_drew)); exact HO_5.out, by repeat (first | (with_reducible first | exact HB.out | apply below_alloc | apply pw_below_drewN | apply below_drew1) | exact HB.out)⟩
  · rw [if_neg c3] at H
    exact absurd H (by simp)

end Go.Proofs.Ytpaifpnnjflnfaa.Print
