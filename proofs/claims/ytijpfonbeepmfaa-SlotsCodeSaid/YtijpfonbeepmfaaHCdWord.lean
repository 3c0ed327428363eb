/- The reference's words and lines: that each of its functions answers. Plain Lean. -/
import Derived.Test.YtijpfonbeepmfaaOpens
import Derived.Test.YtijpfonbeepmfaaPrint9
import Derived.Test.YtijpfonbeepmfaaPrint11
import Derived.Test.YtijpfonbeepmfaaPrint13
import Derived.Test.YtijpfonbeepmfaaPrint14
namespace Go.Proofs.Ytijpfonbeepmfaa.Print
open Go.RowKit Go.Proofs.YtijpfonbeepmfaaW.PrintWords Go.Proofs.YtijpfonbeepmfaaW.PrintLast Go.Proofs.YtijpfonbeepmfaaW.PrintMore
set_option linter.unusedVariables false
set_option linter.unusedSimpArgs false
/-- A text that there is. -/
def StrOk (s : ByteArray) : Prop := s.size ≤ 9223372036854775807
theorem regName_some (n : Int) : ∃ s, fencepostref02_RegName.f n = some s := by
 unfold fencepostref02_RegName.f
 repeat' split
 all_goals exact ⟨_, rfl⟩
theorem reg_l0 (s : ByteArray) : ∀ (d i : Nat), 4 - i ≤ d → ∃ r, Ev (fun k => fencepostref02_Reg.l0 k s (i : Int)) r := by
 have last : ∀ i : Nat, ¬ i < 4 → ∃ r, Ev (fun k => fencepostref02_Reg.l0 k s (i : Int)) r := by
  intro i h
  refine ⟨-1, ?_⟩
  refine Ev.step (fun k => by rw [fencepostref02_Reg.l0]) ?_
  simp only [if_neg (show ¬ (i : Int) < 4 by omega)]
  exact Ev.now _
 intro d
 induction d with
 | zero => intro i h; exact last i (by omega)
 | succ d ih =>
  intro i h
  by_cases c : i < 4
  ·obtain ⟨r, hr⟩ := ih (i + 1) (by omega)
   obtain ⟨nm, en⟩ := regName_some (i : Int)
   by_cases e : nm.toList = s.toList
   ·refine ⟨(i : Int), ?_⟩
    refine Ev.step (fun k => by rw [fencepostref02_Reg.l0]) ?_
    simp only [if_pos (show (i : Int) < 4 by omega), en, Option.bind_some, if_pos e]
    exact Ev.now _
   ·refine ⟨r, ?_⟩
    refine Ev.step (fun k => by rw [fencepostref02_Reg.l0]) ?_
    simp only [if_pos (show (i : Int) < 4 by omega), en, Option.bind_some, if_neg e, w64 (show -9223372036854775808 ≤ (i : Int) + 1 by omega) (by omega)]
    exact hr
  ·exact last i c
theorem reg_ex (s : ByteArray) : ∃ r, Ev (fun k => fencepostref02_Reg.f k s) r := by
 unfold fencepostref02_Reg.f
 exact reg_l0 s 4 0 (by omega)
theorem some_ite {c : Prop} [Decidable c] {x y : Option Bool} (hx : ∃ b, x = some b) (hy : ∃ b, y = some b) : ∃ b, (if c then x else y) = some b := by
 split
 ·exact hx
 ·exact hy
theorem key_some (s : ByteArray) : ∃ b, fencepostref02_Key.f s = some b := by
 unfold fencepostref02_Key.f
 repeat refine some_ite ⟨_, rfl⟩ ?_
 exact ⟨_, rfl⟩
theorem name_l0 (s : ByteArray) (hs : StrOk s) : ∀ (d i : Nat), s.size - i ≤ d → ∃ r, Ev (fun k => fencepostref02_Name.l0 k s (i : Int)) r ∧ (r = true → 1 ≤ s.size) := by
 unfold StrOk at hs
 have last : ∀ i : Nat, ¬ i < s.size → ∃ r, Ev (fun k => fencepostref02_Name.l0 k s (i : Int)) r ∧ (r = true → 1 ≤ s.size) := by
  intro i h
  obtain ⟨b, eb⟩ := key_some s
  obtain ⟨q, hq⟩ := reg_ex s
  by_cases c1 : (s.size : Int) ≥ 1
  ·by_cases c2 : (s.size : Int) ≤ 8
   ·cases b with
    | true =>
     refine ⟨false, ?_, fun e => by simp at e⟩
     refine Ev.step (fun k => by rw [fencepostref02_Name.l0]) ?_
     simp only [if_neg (show ¬ (i : Int) < (s.size : Int) by omega), if_pos c1, if_pos c2, eb, Option.bind_some, if_true]
     exact Ev.now _
    | false =>
     refine ⟨decide (q < 0), ?_, fun _ => by omega⟩
     refine Ev.step (fun k => by rw [fencepostref02_Name.l0]) ?_
     simp only [if_neg (show ¬ (i : Int) < (s.size : Int) by omega), if_pos c1, if_pos c2, eb, Option.bind_some, Bool.false_eq_true, if_false]
     exact Ev.bind hq (Ev.now _)
   ·refine ⟨false, ?_, fun e => by simp at e⟩
    refine Ev.step (fun k => by rw [fencepostref02_Name.l0]) ?_
    simp only [if_neg (show ¬ (i : Int) < (s.size : Int) by omega), if_pos c1, if_neg c2]
    exact Ev.now _
  ·refine ⟨false, ?_, fun e => by simp at e⟩
   refine Ev.step (fun k => by rw [fencepostref02_Name.l0]) ?_
   simp only [if_neg (show ¬ (i : Int) < (s.size : Int) by omega), if_neg c1]
   exact Ev.now _
 intro d
 induction d with
 | zero => intro i h; exact last i (by omega)
 | succ d ih =>
  intro i h
  by_cases c : i < s.size
  ·obtain ⟨r, hr, hn⟩ := ih (i + 1) (by omega)
   have s1 : (i : Int) < (s.size : Int) := by omega
   have s2 : (0 : Int) ≤ (i : Int) := by omega
   have w1 := w64 (show -9223372036854775808 ≤ (i : Int) + 1 by omega) (show (i : Int) + 1 ≤ 9223372036854775807 by omega)
   have hi1 : (((i + 1 : Nat) : Int)) = (i : Int) + 1 := by push_cast; rfl
   rw [hi1] at hr
   have digit : ∀ F : Nat → Option Bool, (∀ k, F k = if bt s (i : Int) < 48 then some false else if bt s (i : Int) > 57 then some false else if (i : Int) = 0 then some false else fencepostref02_Name.l0 k s (wrap64 ((i : Int) + 1))) → ∃ r, Ev F r ∧ (r = true → 1 ≤ s.size) := by
    intro F hF
    by_cases c2 : bt s (i : Int) < 48
    ·exact ⟨false, Ev.congr hF (by simp only [if_pos c2]; exact Ev.now _), fun e => by simp at e⟩
    ·by_cases c3 : bt s (i : Int) > 57
     ·exact ⟨false, Ev.congr hF (by simp only [if_neg c2, if_pos c3]; exact Ev.now _), fun e => by simp at e⟩
     ·by_cases c4 : (i : Int) = 0
      ·exact ⟨false, Ev.congr hF (by simp only [if_neg c2, if_neg c3, if_pos c4]; exact Ev.now _), fun e => by simp at e⟩
      ·exact ⟨r, Ev.congr hF (by simp only [if_neg c2, if_neg c3, if_neg c4, w1]; exact hr), hn⟩
   by_cases c1 : bt s (i : Int) < 97
   ·obtain ⟨r', h1, h2⟩ := digit _ (fun k => rfl)
    refine ⟨r', ?_, h2⟩
    refine Ev.step (fun k => by rw [fencepostref02_Name.l0]) ?_
    simp only [if_pos s1, if_pos s2, if_pos c1]
    exact h1
   ·by_cases c5 : bt s (i : Int) > 122
    ·obtain ⟨r', h1, h2⟩ := digit _ (fun k => rfl)
     refine ⟨r', ?_, h2⟩
     refine Ev.step (fun k => by rw [fencepostref02_Name.l0]) ?_
     simp only [if_pos s1, if_pos s2, if_neg c1, if_pos c5]
     exact h1
    ·refine ⟨r, ?_, hn⟩
     refine Ev.step (fun k => by rw [fencepostref02_Name.l0]) ?_
     simp only [if_pos s1, if_pos s2, if_neg c1, if_neg c5, w1]
     exact hr
  ·exact last i c
theorem name_ex (s : ByteArray) (hs : StrOk s) : ∃ r, Ev (fun k => fencepostref02_Name.f k s) r ∧ (r = true → 1 ≤ s.size) := by
 unfold fencepostref02_Name.f
 exact name_l0 s hs s.size 0 (by omega)
theorem has3_some (a : Int) : ∃ b, fencepostref03_has.f a = some b := by
 unfold fencepostref03_has.f
 repeat' split
 all_goals exact ⟨_, rfl⟩
theorem right3_j2 (x5 x6 x54 : Bool) (a : Int) (b c d : ByteArray) (e : Int) (hd : StrOk d) : ∃ r, Ev (fun k => fencepostref03_Right.j2 k x5 x6 x54 a b c d e) r := by
 obtain ⟨n, hn, _⟩ := name_ex d hd
 cases x54 with
 | true =>
  refine ⟨false, Ev.step (fun k => by rw [fencepostref03_Right.j2]) ?_⟩
  simp only [if_true]; exact Ev.now _
 | false =>
  have fin : ∃ r, Ev (fun _ : Nat => if x6 = true then some true else some (e == 0)) r := by
   cases x6 with
   | true => exact ⟨true, by simp only [if_true]; exact Ev.now _⟩
   | false => exact ⟨e == 0, by simp only [Bool.false_eq_true, if_false]; exact Ev.now _⟩
  obtain ⟨f, hf⟩ := fin
  cases x5 with
  | true =>
   cases n with
   | true =>
    refine ⟨f, Ev.step (fun k => by rw [fencepostref03_Right.j2]) ?_⟩
    simp only [Bool.false_eq_true, if_false, if_true]
    refine Ev.bind hn ?_
    simp only [if_true]
    exact hf
   | false =>
    refine ⟨false, Ev.step (fun k => by rw [fencepostref03_Right.j2]) ?_⟩
    simp only [Bool.false_eq_true, if_false, if_true]
    refine Ev.bind hn ?_
    simp only [Bool.false_eq_true, if_false]
    exact Ev.now _
  | false =>
   by_cases c1 : d.toList = ([] : List UInt8)
   ·refine ⟨f, Ev.step (fun k => by rw [fencepostref03_Right.j2]) ?_⟩
    simp only [Bool.false_eq_true, if_false, if_pos c1]
    exact hf
   ·refine ⟨false, Ev.step (fun k => by rw [fencepostref03_Right.j2]) ?_⟩
    simp only [Bool.false_eq_true, if_false, if_neg c1]
    exact Ev.now _
theorem right3_j1 (x4 x5 x6 x38 : Bool) (a : Int) (b c d : ByteArray) (e : Int) (hc : StrOk c) (hd : StrOk d) : ∃ r, Ev (fun k => fencepostref03_Right.j1 k x4 x5 x6 x38 a b c d e) r := by
 obtain ⟨n, hn, _⟩ := name_ex c hc
 cases x38 with
 | true =>
  refine ⟨false, Ev.step (fun k => by rw [fencepostref03_Right.j1]) ?_⟩
  simp only [if_true]; exact Ev.now _
 | false =>
  cases x4 with
  | true =>
   obtain ⟨r, hr⟩ := right3_j2 x5 x6 (!n) a b c d e hd
   refine ⟨r, Ev.step (fun k => by rw [fencepostref03_Right.j1]) ?_⟩
   simp only [Bool.false_eq_true, if_false, if_true]
   refine Ev.bind hn ?_
   cases n with
   | true => simp only [if_true]; exact hr
   | false => simp only [Bool.false_eq_true, if_false]; exact hr
  | false =>
   obtain ⟨r, hr⟩ := right3_j2 x5 x6 (c.toList != ([] : List UInt8)) a b c d e hd
   refine ⟨r, Ev.step (fun k => by rw [fencepostref03_Right.j1]) ?_⟩
   simp only [Bool.false_eq_true, if_false]
   exact hr
theorem right3_j0 (x3 x4 x5 x6 x22 : Bool) (a : Int) (b c d : ByteArray) (e : Int) (hc : StrOk c) (hd : StrOk d) : ∃ r, Ev (fun k => fencepostref03_Right.j0 k x3 x4 x5 x6 x22 a b c d e) r := by
 obtain ⟨n, hn⟩ := reg_ex b
 cases x22 with
 | true =>
  refine ⟨false, Ev.step (fun k => by rw [fencepostref03_Right.j0]) ?_⟩
  simp only [if_true]; exact Ev.now _
 | false =>
  cases x3 with
  | true =>
   obtain ⟨r, hr⟩ := right3_j1 x4 x5 x6 (decide (n < 0)) a b c d e hc hd
   refine ⟨r, Ev.step (fun k => by rw [fencepostref03_Right.j0]) ?_⟩
   simp only [Bool.false_eq_true, if_false, if_true]
   refine Ev.bind hn ?_
   by_cases c1 : n < 0
   ·simp only [if_pos c1]; rw [decide_eq_true c1] at hr; exact hr
   ·simp only [if_neg c1]; rw [decide_eq_false c1] at hr; exact hr
  | false =>
   obtain ⟨r, hr⟩ := right3_j1 x4 x5 x6 (b.toList != ([] : List UInt8)) a b c d e hc hd
   refine ⟨r, Ev.step (fun k => by rw [fencepostref03_Right.j0]) ?_⟩
   simp only [Bool.false_eq_true, if_false]
   exact hr
theorem right3_ex (a : Int) (b c d : ByteArray) (e : Int) (hc : StrOk c) (hd : StrOk d) : ∃ r, Ev (fun k => fencepostref03_Right.f k a b c d e) r := by
 obtain ⟨h, eh⟩ := has3_some a
 unfold fencepostref03_Right.f
 simp only [eh, Option.bind_some]
 by_cases c1 : a < 1
 ·simp only [if_pos c1]; exact right3_j0 _ _ _ _ _ a b c d e hc hd
 ·simp only [if_neg c1]; exact right3_j0 _ _ _ _ _ a b c d e hc hd
theorem labels_l0 (l : List S60) (s : ByteArray) (hl : l.length ≤ 1000000) : ∀ (d i : Nat) (n : Int), l.length - i ≤ d → ∃ r, Ev (fun k => fencepostref04_labels.l0 k l s n (i : Int)) r := by
 have last : ∀ (i : Nat) (n : Int), ¬ i < l.length → ∃ r, Ev (fun k => fencepostref04_labels.l0 k l s n (i : Int)) r := by
  intro i n h
  refine ⟨n, Ev.step (fun k => by rw [fencepostref04_labels.l0]) ?_⟩
  simp only [if_neg (show ¬ (i : Int) < (l.length : Int) by omega)]
  exact Ev.now _
 intro d
 induction d with
 | zero => intro i n h; exact last i n (by omega)
 | succ d ih =>
  intro i n h
  by_cases c : i < l.length
  ·have s1 : (i : Int) < (l.length : Int) := by omega
   have s2 : (0 : Int) ≤ (i : Int) := by omega
   have w1 := w64 (show -9223372036854775808 ≤ (i : Int) + 1 by omega) (by omega)
   have hi1 : (((i + 1 : Nat) : Int)) = (i : Int) + 1 := by push_cast; rfl
   obtain ⟨r1, hr1⟩ := ih (i + 1) (wrap64 (n + 1)) (by omega)
   obtain ⟨r2, hr2⟩ := ih (i + 1) n (by omega)
   rw [hi1] at hr1 hr2
   by_cases c1 : (rd_T60 l (i : Int)).f0 = 11
   ·by_cases c2 : (rd_T60 l (i : Int)).f3.toList = s.toList
    ·refine ⟨r1, Ev.step (fun k => by rw [fencepostref04_labels.l0]) ?_⟩
     simp only [if_pos s1, if_pos s2, if_pos c1, if_pos c2, w1]
     exact hr1
    ·refine ⟨r2, Ev.step (fun k => by rw [fencepostref04_labels.l0]) ?_⟩
     simp only [if_pos s1, if_pos s2, if_pos c1, if_neg c2, w1]
     exact hr2
   ·refine ⟨r2, Ev.step (fun k => by rw [fencepostref04_labels.l0]) ?_⟩
    simp only [if_pos s1, if_pos s2, if_neg c1, w1]
    exact hr2
  ·exact last i n c
theorem labels_ex (l : List S60) (s : ByteArray) (hl : l.length ≤ 1000000) : ∃ r, Ev (fun k => fencepostref04_labels.f k l s) r := by
 unfold fencepostref04_labels.f
 exact labels_l0 l s hl l.length 0 0 (by omega)
theorem jump_some (a : Int) (b c d : ByteArray) (e : Int) : fencepostref04_Jump.f a b c d e = some (decide (8 ≤ a ∧ a ≤ 10)) := by
 unfold fencepostref04_Jump.f
 by_cases c1 : a ≥ 8
 ·rw [if_pos c1]
  by_cases c2 : a ≤ 10
  ·rw [decide_eq_true c2, decide_eq_true ⟨c1, c2⟩]
  ·rw [decide_eq_false c2, decide_eq_false (fun h => c2 h.2)]
 ·rw [if_neg c1, decide_eq_false (fun h => c1 h.1)]
theorem instr_some (a : Int) (b c d : ByteArray) (e : Int) : ∃ r, fencepostref04_Instr.f a b c d e = some r := by
 unfold fencepostref04_Instr.f
 repeat' split
 all_goals exact ⟨_, rfl⟩
section
variable (l : List S60) (hl : l.length ≤ 1000000) (i : Nat) (hi : i < l.length) (a : Int) (b c d : ByteArray) (e : Int)
include hl hi
theorem line_l0 : ∀ (m j : Nat) (x y : Int), i - j ≤ m → ∃ r, Ev (fun k => fencepostref04_line.l0 k l (i : Int) x y (j : Int) a b c d e) r := by
 obtain ⟨q, eq⟩ := instr_some a b c d e
 have last : ∀ (j : Nat) (x y : Int), ¬ j < i → ∃ r, Ev (fun k => fencepostref04_line.l0 k l (i : Int) x y (j : Int) a b c d e) r := by
  intro j x y h
  have fin : ∃ r, Ev (fun _ : Nat => if a = 11 then (if y ≥ 8 then some (5 : Int) else some 0) else some 0) r := by
   by_cases c1 : a = 11
   ·by_cases c2 : y ≥ 8
    ·exact ⟨5, by simp only [if_pos c1, if_pos c2]; exact Ev.now _⟩
    ·exact ⟨0, by simp only [if_pos c1, if_neg c2]; exact Ev.now _⟩
   ·exact ⟨0, by simp only [if_neg c1]; exact Ev.now _⟩
  obtain ⟨f, hf⟩ := fin
  cases q with
  | true =>
   by_cases c3 : x ≥ 8
   ·refine ⟨5, Ev.step (fun k => by rw [fencepostref04_line.l0]) ?_⟩
    simp only [if_neg (show ¬ (j : Int) < (i : Int) by omega), eq, Option.bind_some, if_true, if_pos c3]
    exact Ev.now _
   ·refine ⟨f, Ev.step (fun k => by rw [fencepostref04_line.l0]) ?_⟩
    simp only [if_neg (show ¬ (j : Int) < (i : Int) by omega), eq, Option.bind_some, if_true, if_neg c3]
    exact hf
  | false =>
   refine ⟨f, Ev.step (fun k => by rw [fencepostref04_line.l0]) ?_⟩
   simp only [if_neg (show ¬ (j : Int) < (i : Int) by omega), eq, Option.bind_some, Bool.false_eq_true, if_false]
   exact hf
 intro m
 induction m with
 | zero => intro j x y h; exact last j x y (by omega)
 | succ m ih =>
  intro j x y h
  by_cases c1 : j < i
  ·have s1 : (j : Int) < (i : Int) := by omega
   have s2 : (0 : Int) ≤ (j : Int) := by omega
   have s3 : (j : Int) < (l.length : Int) := by omega
   have w1 := w64 (show -9223372036854775808 ≤ (j : Int) + 1 by omega) (by omega)
   have hi1 : (((j + 1 : Nat) : Int)) = (j : Int) + 1 := by push_cast; rfl
   obtain ⟨p, ep⟩ := instr_some (rd_T60 l (j : Int)).f0 (rd_T60 l (j : Int)).f1 (rd_T60 l (j : Int)).f2 (rd_T60 l (j : Int)).f3 (rd_T60 l (j : Int)).f4
   have nx : ∀ x y : Int, ∃ r, Ev (fun k => fencepostref04_line.l0 k l (i : Int) x y ((j : Int) + 1) a b c d e) r := fun x y => by
    obtain ⟨r, hr⟩ := ih (j + 1) x y (by omega)
    rw [hi1] at hr; exact ⟨r, hr⟩
   obtain ⟨r1, h1⟩ := nx (wrap64 (x + 1)) (wrap64 (y + 1))
   obtain ⟨r2, h2⟩ := nx (wrap64 (x + 1)) y
   obtain ⟨r3, h3⟩ := nx x (wrap64 (y + 1))
   obtain ⟨r4, h4⟩ := nx x y
   cases p with
   | true =>
    by_cases c2 : (rd_T60 l (j : Int)).f0 = 11
    ·refine ⟨r1, Ev.step (fun k => by rw [fencepostref04_line.l0]) ?_⟩
     simp only [if_pos s1, if_pos s2, if_pos s3, ep, Option.bind_some, if_true, if_pos c2, w1]
     exact h1
    ·refine ⟨r2, Ev.step (fun k => by rw [fencepostref04_line.l0]) ?_⟩
     simp only [if_pos s1, if_pos s2, if_pos s3, ep, Option.bind_some, if_true, if_neg c2, w1]
     exact h2
   | false =>
    by_cases c2 : (rd_T60 l (j : Int)).f0 = 11
    ·refine ⟨r3, Ev.step (fun k => by rw [fencepostref04_line.l0]) ?_⟩
     simp only [if_pos s1, if_pos s2, if_pos s3, ep, Option.bind_some, Bool.false_eq_true, if_false, if_pos c2, w1]
     exact h3
    ·refine ⟨r4, Ev.step (fun k => by rw [fencepostref04_line.l0]) ?_⟩
     simp only [if_pos s1, if_pos s2, if_pos s3, ep, Option.bind_some, Bool.false_eq_true, if_false, if_neg c2, w1]
     exact h4
  ·exact last j x y c1
theorem line_j2 (x55 : Bool) : ∃ r, Ev (fun k => fencepostref04_line.j2 k l (i : Int) x55 a b c d e) r := by
 obtain ⟨r, hr⟩ := line_l0 l hl i hi a b c d e i 0 0 0 (by omega)
 cases x55 with
 | true => exact ⟨22, Ev.step (fun k => by rw [fencepostref04_line.j2]) (by simp only [if_true]; exact Ev.now _)⟩
 | false => exact ⟨r, Ev.step (fun k => by rw [fencepostref04_line.j2]) (by simp only [Bool.false_eq_true, if_false]; exact hr)⟩
theorem line_j1 (x43 : Bool) : ∃ r, Ev (fun k => fencepostref04_line.j1 k l (i : Int) x43 a b c d e) r := by
 cases x43 with
 | true => exact ⟨23, Ev.step (fun k => by rw [fencepostref04_line.j1]) (by simp only [if_true]; exact Ev.now _)⟩
 | false =>
  have w1 := w64 (show -9223372036854775808 ≤ (i : Int) + 1 by omega) (by omega)
  by_cases c1 : 8 ≤ a ∧ a ≤ 10
  ·obtain ⟨n, hn⟩ := labels_ex (l.drop ((i : Int) + 1).toNat) d (by rw [List.length_drop]; omega)
   obtain ⟨r, hr⟩ := line_j2 l hl i hi a b c d e (n == 0)
   refine ⟨r, Ev.step (fun k => by rw [fencepostref04_line.j1]) ?_⟩
   simp only [Bool.false_eq_true, if_false, jump_some, Option.bind_some, decide_eq_true c1, if_true, w1, if_pos (show (0 : Int) ≤ (i : Int) + 1 by omega), if_pos (show (i : Int) + 1 ≤ (l.length : Int) by omega)]
   exact Ev.bind hn hr
  ·obtain ⟨r, hr⟩ := line_j2 l hl i hi a b c d e false
   refine ⟨r, Ev.step (fun k => by rw [fencepostref04_line.j1]) ?_⟩
   simp only [Bool.false_eq_true, if_false, jump_some, Option.bind_some, decide_eq_false c1]
   exact hr
theorem line_j0 (x27 : Bool) : ∃ r, Ev (fun k => fencepostref04_line.j0 k l (i : Int) x27 a b c d e) r := by
 cases x27 with
 | true => exact ⟨21, Ev.step (fun k => by rw [fencepostref04_line.j0]) (by simp only [if_true]; exact Ev.now _)⟩
 | false =>
  obtain ⟨r0, h0⟩ := line_j1 l hl i hi a b c d e false
  by_cases c1 : a = 6
  ·by_cases c2 : (i : Int) > 0
   ·have w1 := w64 (show -9223372036854775808 ≤ (i : Int) - 1 by omega) (by omega)
    obtain ⟨r, hr⟩ := line_j1 l hl i hi a b c d e ((rd_T60 l ((i : Int) - 1)).f0 == 6)
    refine ⟨r, Ev.step (fun k => by rw [fencepostref04_line.j0]) ?_⟩
    simp only [Bool.false_eq_true, if_false, if_pos c1, if_pos c2, w1, if_pos (show (0 : Int) ≤ (i : Int) - 1 by omega), if_pos (show (i : Int) - 1 < (l.length : Int) by omega)]
    exact hr
   ·refine ⟨r0, Ev.step (fun k => by rw [fencepostref04_line.j0]) ?_⟩
    simp only [Bool.false_eq_true, if_false, if_pos c1, if_neg c2]
    exact h0
  ·refine ⟨r0, Ev.step (fun k => by rw [fencepostref04_line.j0]) ?_⟩
   simp only [Bool.false_eq_true, if_false, if_neg c1]
   exact h0
end
theorem line_ex (l : List S60) (hl : l.length ≤ 1000000) (i : Nat) (hi : i < l.length) (hs : ∀ x ∈ l, StrOk x.f2 ∧ StrOk x.f3) : ∃ r, Ev (fun k => fencepostref04_line.f k l (i : Int)) r := by
 have e : rd_T60 l (i : Int) = l[i] := by unfold rd_T60; rw [Int.toNat_natCast, List.getD_eq_getElem?_getD, List.getElem?_eq_getElem hi]; rfl
 have hm : rd_T60 l (i : Int) ∈ l := by rw [e]; exact List.getElem_mem hi
 obtain ⟨h2, h3⟩ := hs _ hm
 unfold fencepostref04_line.f
 simp only [if_pos (show (0 : Int) ≤ (i : Int) by omega), if_pos (show (i : Int) < (l.length : Int) by omega)]
 generalize rd_T60 l (i : Int) = x at h2 h3 ⊢
 obtain ⟨q, hq⟩ := right3_ex x.f0 x.f1 x.f2 x.f3 x.f4 h2 h3
 cases q with
 | false =>
  refine ⟨11, Ev.bind hq ?_⟩
  simp only [Bool.false_eq_true, if_false]
  exact Ev.now _
 | true =>
  by_cases c1 : x.f0 = 11
  ·obtain ⟨n, hn⟩ := labels_ex (l.take (i : Int).toNat) x.f3 (by rw [List.length_take]; omega)
   obtain ⟨r, hr⟩ := line_j0 l hl i hi x.f0 x.f1 x.f2 x.f3 x.f4 (decide (n > 0))
   refine ⟨r, Ev.bind hq ?_⟩
   simp only [if_true, if_pos c1, if_pos (show (i : Int) ≤ (l.length : Int) by omega)]
   exact Ev.bind hn hr
  ·obtain ⟨r, hr⟩ := line_j0 l hl i hi x.f0 x.f1 x.f2 x.f3 x.f4 false
   refine ⟨r, Ev.bind hq ?_⟩
   simp only [if_true, if_neg c1]
   exact hr
theorem asked_ex (a : Int) (b : ByteArray) (e : Int) (hb : StrOk b) : ∃ r, Ev (fun k => fencepostref03_Asked.f k a b e) r := by
 obtain ⟨n, hn, _⟩ := name_ex b hb
 obtain ⟨q, hq⟩ := reg_ex b
 unfold fencepostref03_Asked.f
 by_cases c1 : a = (-1)
 ·exact ⟨n, by simp only [if_pos c1]; exact Ev.bind hn (Ev.now _)⟩
 ·by_cases c2 : a ≥ 0
  ·by_cases c3 : a < 3
   ·exact ⟨decide (q ≥ 0), by simp only [if_neg c1, if_pos c2, if_pos c3]; exact Ev.bind hq (Ev.now _)⟩
   ·exact ⟨false, by simp only [if_neg c1, if_pos c2, if_neg c3]; exact Ev.now _⟩
  ·exact ⟨false, by simp only [if_neg c1, if_neg c2]; exact Ev.now _⟩
end Go.Proofs.Ytijpfonbeepmfaa.Print
