/- What ref18's led, Free and Met answer: plain Lean. -/
import Derived.Test.YtodjfbcpohcbaaaPrint5
import Derived.Test.YtodjfbcpohcbaaaHRight
import Derived.Test.YtodjfbcpohcbaaaHWays
import Derived.Test.YtodjfbcpohcbaaaHMetF
namespace Go.Proofs.Ytodjfbcpohcbaaa.Print
open Go.RowKit Go.Maps Go.Proofs.YtodjfbcpohcbaaaW.PrintWords Go.Proofs.YtodjfbcpohcbaaaW.PrintLast Go.Proofs.YtodjfbcpohcbaaaW.PrintMore
set_option linter.unusedVariables false
set_option linter.unusedSimpArgs false

/-! ### Next -/
theorem rnext_ev (l : List S49) (hl : l.length ≤ 80) (a : Int) : Ev (fun k => fencepostref18_Next.f k l a) (nexts l a) := by
  refine Ev.of (fencepostref18_Next.mono _ _) (k := 1) ?_
  unfold fencepostref18_Next.f nexts
  by_cases c : a < 0
  · simp only [if_pos c]; rw [fencepostref18_Next.j0]; simp
  · simp only [if_neg c]
    rw [fencepostref18_Next.j0]
    by_cases d : a < (l.length : Int)
    · have e1 : wrap64 (a + 1) = a + 1 := w64 (by omega) (by omega)
      simp only [show decide (a ≥ (l.length : Int)) = false from decide_eq_false (by omega), Bool.false_eq_true, if_false, if_pos (show 0 ≤ a by omega), if_pos d, e1]
      unfold nextOf
      repeat' split
      all_goals first | rfl | (exfalso; omega)
    · simp only [show decide (a ≥ (l.length : Int)) = true from decide_eq_true (by omega), if_true, if_neg d]

/-! ### marks -/
theorem rdOf_set (m : List Bool) (x y : Int) (b : Bool) (hx : 0 ≤ x) (hy : 0 ≤ y) (hl : y < (m.length : Int)) : rdOf false (m.set y.toNat b) x = if x = y then b else rdOf false m x := by
  unfold rdOf
  rw [List.getD_eq_getElem?_getD, List.getD_eq_getElem?_getD, List.getElem?_set]
  by_cases c : x = y
  · subst c; simp only [if_true]; rw [if_pos (by omega)]; rfl
  · rw [if_neg (by omega), if_neg c]
def mark (m : List Bool) (ns : List Int) : List Bool := ns.foldl (fun m x => m.set x.toNat true) m
theorem mark_length (ns : List Int) : ∀ m : List Bool, (mark m ns).length = m.length := by
  induction ns with
  | nil => intro m; rfl
  | cons y t ih => intro m; exact (ih _).trans (by simp)
theorem rdOf_mark (ns : List Int) : ∀ (m : List Bool) (x : Int), 0 ≤ x → (∀ y ∈ ns, 0 ≤ y ∧ y < (m.length : Int)) → (rdOf false (mark m ns) x = true ↔ rdOf false m x = true ∨ x ∈ ns) := by
  induction ns with
  | nil => intro m x hx h; simp [mark]
  | cons y t ih =>
    intro m x hx h
    have hy := h y (by simp)
    have := ih (m.set y.toNat true) x hx (fun z hz => by have := h z (by simp [hz]); simpa using this)
    show rdOf false (mark (m.set y.toNat true) t) x = true ↔ _
    rw [this, rdOf_set m x y true hx hy.1 hy.2]
    by_cases c : x = y
    · simp [c]
    · simp [c]

/-! ### ways, by their last step -/
theorem Way.last {l : List S49} {thr : S49 → Bool} {a c : Int} : Way l thr a c ↔ ∃ y, (y = a ∨ (Way l thr a y ∧ y < (l.length : Int) ∧ thr (rd_T49 l y) = true)) ∧ c ∈ nexts l y := by
  constructor
  · intro h
    induction h with
    | @one a b h => exact ⟨a, .inl rfl, h⟩
    | @on a b c h hl ht hw ih =>
      obtain ⟨y, hy, hc⟩ := ih
      rcases hy with rfl | ⟨h1, h2, h3⟩
      · exact ⟨y, .inr ⟨.one h, hl, ht⟩, hc⟩
      · exact ⟨y, .inr ⟨.on h hl ht h1, h2, h3⟩, hc⟩
  · rintro ⟨y, rfl | ⟨h1, h2, h3⟩, hc⟩
    · exact .one hc
    · exact h1.trans h2 h3 (.one hc)
def thrOf (d : Bool) : S49 → Bool := if d then noDrain else anyStep
/-- Where one goes on from. -/
def Src (l : List S49) (d : Bool) (a y : Int) : Prop := y = a ∨ (Way l (thrOf d) a y ∧ thrOf d (rd_T49 l y) = true)
theorem way_src {l : List S49} (hF : Fwd l) {d : Bool} {a c : Int} : Way l (thrOf d) a c ↔ ∃ y, Src l d a y ∧ c ∈ nexts l y := by
  rw [Way.last]
  constructor
  · rintro ⟨y, rfl | ⟨h1, h2, h3⟩, hc⟩
    · exact ⟨y, .inl rfl, hc⟩
    · exact ⟨y, .inr ⟨h1, h3⟩, hc⟩
  · rintro ⟨y, rfl | ⟨h1, h3⟩, hc⟩
    · exact ⟨y, .inl rfl, hc⟩
    · exact ⟨y, .inr ⟨h1, (nexts_range hF hc).2.1, h3⟩, hc⟩

/-! ### led -/
theorem led_l1 (l : List S49) (a at_ : Int) (d : Bool) (ns : List Int) (hs : ns.length < 1000) (r : List Bool) : ∀ (suf pre : List Int) (m : List Bool), ns = pre ++ suf → (∀ x ∈ suf, 0 ≤ x ∧ x < (m.length : Int)) →
    Ev (fun k => fencepostref18_led.l0 k l a d (mark m suf) (wrap64 (at_ + 1))) r → Ev (fun k => fencepostref18_led.l1 k l a d m at_ ns (pre.length : Int)) r := by
  intro suf
  induction suf with
  | nil =>
    intro pre m hn hx h
    refine Ev.step (fun k => by rw [fencepostref18_led.l1]) ?_
    simp only [if_neg (show ¬ (pre.length : Int) < (ns.length : Int) by rw [hn]; simp)]
    exact h
  | cons x t ih =>
    intro pre m hn hx h
    have h1 : (pre.length : Int) < (ns.length : Int) := by rw [hn]; simp; omega
    have e : rd ns (pre.length : Int) = x := by rw [hn]; unfold rd; simp
    have hx0 := hx x (by simp)
    refine Ev.step (fun k => by rw [fencepostref18_led.l1]) ?_
    simp only [e, if_pos h1, if_pos hx0.1, if_pos hx0.2, if_pos (show (0 : Int) ≤ (pre.length : Int) by omega)]
    rw [w64 (by omega) (by omega)]
    have := ih (pre ++ [x]) (m.set x.toNat true) (by simp [hn]) (fun y hy => by have := hx y (by simp [hy]); simpa using this) h
    simpa using this
theorem led_go (l : List S49) (hl : l.length ≤ 80) (hF : Fwd l) (a at_ : Int) (d : Bool) (m : List Bool) (hm : m.length = l.length + 1) (r : List Bool) (h : Ev (fun k => fencepostref18_led.l0 k l a d (mark m (nexts l at_)) (wrap64 (at_ + 1))) r) :
    Ev (fun k => fencepostref18_led.j1 k l a d m at_ false) r := by
  refine Ev.step (fun k => by rw [fencepostref18_led.j1]) ?_
  simp only [Bool.false_eq_true, if_false]
  refine Ev.bind (rnext_ev l hl at_) ?_
  have := nexts_length l at_
  exact led_l1 l a at_ d (nexts l at_) (by omega) r (nexts l at_) [] m rfl (fun x hx => by have := nexts_range hF hx; rw [hm]; omega) h
theorem led_skip (l : List S49) (a at_ : Int) (d : Bool) (m r : List Bool) (h : Ev (fun k => fencepostref18_led.l0 k l a d m (wrap64 (at_ + 1))) r) :
    Ev (fun k => fencepostref18_led.j1 k l a d m at_ true) r := by
  refine Ev.step (fun k => by rw [fencepostref18_led.j1]) ?_
  simp only [if_true]
  exact h
/-- What is marked when the places below at_ are done. -/
def Marked (l : List S49) (d : Bool) (a at_ : Int) (m : List Bool) : Prop := m.length = l.length + 1 ∧ ∀ x : Int, 0 ≤ x → x ≤ (l.length : Int) → (rdOf false m x = true ↔ ∃ y, y < at_ ∧ Src l d a y ∧ x ∈ nexts l y)
theorem drains_f (s0 s1 s2 s3 s4 : Int) : fencepostref18_Drains.f s0 s1 s2 s3 s4 = some (!(noDrain ⟨s0, s1, s2, s3, s4⟩)) := by
  unfold fencepostref18_Drains.f noDrain
  by_cases c : s0 = 6
  · simp [c]
  · simp [c]
theorem led_l0 (l : List S49) (hl : l.length ≤ 80) (hF : Fwd l) (a : Int) (d : Bool) : ∀ (n : Nat) (at_ : Int) (m : List Bool), (l.length : Int) - at_ ≤ n → 0 ≤ at_ → Marked l d a at_ m →
    ∃ r, Ev (fun k => fencepostref18_led.l0 k l a d m at_) r ∧ r.length = l.length + 1 ∧ ∀ x : Int, 0 ≤ x → x ≤ (l.length : Int) → (rdOf false r x = true ↔ Way l (thrOf d) a x) := by
  intro n
  induction n with
  | zero =>
    intro at_ m h h0 hM
    refine ⟨m, ?_, hM.1, fun x h1 h2 => ?_⟩
    · refine Ev.step (fun k => by rw [fencepostref18_led.l0]) ?_
      simp only [if_neg (show ¬ at_ < (l.length : Int) by omega)]
      exact Ev.now m
    · rw [hM.2 x h1 h2, way_src hF]
      exact ⟨fun ⟨y, _, h⟩ => ⟨y, h⟩, fun ⟨y, h, hn⟩ => ⟨y, by have := nexts_range hF hn; omega, h, hn⟩⟩
  | succ n ih =>
    intro at_ m h h0 hM
    by_cases c : at_ < (l.length : Int)
    · have hw : rdOf false m at_ = true ↔ Way l (thrOf d) a at_ := by
        rw [hM.2 at_ h0 (by omega), way_src hF]
        exact ⟨fun ⟨y, _, h⟩ => ⟨y, h⟩, fun ⟨y, h, hn⟩ => ⟨y, by have := nexts_range hF hn; omega, h, hn⟩⟩
      have e1 : wrap64 (at_ + 1) = at_ + 1 := w64 (by omega) (by omega)
      have go : Src l d a at_ → ∃ r, Ev (fun k => fencepostref18_led.j1 k l a d m at_ false) r ∧ r.length = l.length + 1 ∧ ∀ x : Int, 0 ≤ x → x ≤ (l.length : Int) → (rdOf false r x = true ↔ Way l (thrOf d) a x) := by
        intro hs
        obtain ⟨r, hr, hp⟩ := ih (at_ + 1) (mark m (nexts l at_)) (by omega) (by omega) (by
          refine ⟨by rw [mark_length]; exact hM.1, fun x h1 h2 => ?_⟩
          rw [rdOf_mark _ _ _ h1 (fun y hy => by have := nexts_range hF hy; rw [hM.1]; omega), hM.2 x h1 h2]
          constructor
          · rintro (⟨y, hy, hh⟩ | hy)
            · exact ⟨y, by omega, hh⟩
            · exact ⟨at_, by omega, hs, hy⟩
          · rintro ⟨y, hy, hh, hn⟩
            by_cases e : y = at_
            · subst e; exact .inr hn
            · exact .inl ⟨y, by omega, hh, hn⟩)
        exact ⟨r, led_go l hl hF a at_ d m hM.1 r (by rw [e1]; exact hr), hp⟩
      have skip : ¬ Src l d a at_ → ∃ r, Ev (fun k => fencepostref18_led.j1 k l a d m at_ true) r ∧ r.length = l.length + 1 ∧ ∀ x : Int, 0 ≤ x → x ≤ (l.length : Int) → (rdOf false r x = true ↔ Way l (thrOf d) a x) := by
        intro hs
        obtain ⟨r, hr, hp⟩ := ih (at_ + 1) m (by omega) (by omega) (by
          refine ⟨hM.1, fun x h1 h2 => ?_⟩
          rw [hM.2 x h1 h2]
          constructor
          · rintro ⟨y, hy, hh⟩; exact ⟨y, by omega, hh⟩
          · rintro ⟨y, hy, hh, hn⟩
            refine ⟨y, ?_, hh, hn⟩
            by_cases e : y = at_
            · subst e; exact absurd hh hs
            · omega)
        exact ⟨r, led_skip l a at_ d m r (by rw [e1]; exact hr), hp⟩
      have key : ∀ b : Bool, (∃ r, Ev (fun k => fencepostref18_led.j1 k l a d m at_ b) r ∧ r.length = l.length + 1 ∧ ∀ x : Int, 0 ≤ x → x ≤ (l.length : Int) → (rdOf false r x = true ↔ Way l (thrOf d) a x)) →
          (Ev (fun k => if at_ = a then fencepostref18_led.j1 k l a d m at_ false else if rdOf false m at_ = true then (if d = true then fencepostref18_led.j1 k l a d m at_ (!(noDrain (rd_T49 l at_))) else fencepostref18_led.j1 k l a d m at_ false) else fencepostref18_led.j1 k l a d m at_ true) = Ev (fun k => fencepostref18_led.j1 k l a d m at_ b)) →
          ∃ r, Ev (fun k => fencepostref18_led.l0 k l a d m at_) r ∧ r.length = l.length + 1 ∧ ∀ x : Int, 0 ≤ x → x ≤ (l.length : Int) → (rdOf false r x = true ↔ Way l (thrOf d) a x) := by
        intro b ⟨r, hr, hp⟩ he
        refine ⟨r, ?_, hp⟩
        refine Ev.step (fun k => by rw [fencepostref18_led.l0]) ?_
        simp only [if_pos c, if_pos h0, if_pos (show at_ < (m.length : Int) by rw [hM.1]; omega), drains_f, Option.bind_some]
        rw [he]; exact hr
      by_cases ca : at_ = a
      · exact key false (go (.inl ca)) (by simp only [if_pos ca])
      · by_cases cm : rdOf false m at_ = true
        · cases d with
          | false => exact key false (go (.inr ⟨hw.1 cm, rfl⟩)) (by simp only [if_neg ca, if_pos cm, Bool.false_eq_true, if_false])
          | true =>
            cases hd : noDrain (rd_T49 l at_) with
            | true => exact key false (go (.inr ⟨hw.1 cm, hd⟩)) (by simp only [if_neg ca, if_pos cm, if_true, hd, Bool.not_true])
            | false => exact key true (skip (by rintro (h | ⟨_, h⟩); exact ca h; exact absurd (hd.symm.trans h) (by simp))) (by simp only [if_neg ca, if_pos cm, if_true, hd, Bool.not_false])
        · exact key true (skip (by rintro (h | ⟨h, _⟩); exact ca h; exact cm (hw.2 h))) (by simp only [if_neg ca, if_neg cm])
    · refine ⟨m, ?_, hM.1, fun x h1 h2 => ?_⟩
      · refine Ev.step (fun k => by rw [fencepostref18_led.l0]) ?_
        simp only [if_neg c]
        exact Ev.now m
      · rw [hM.2 x h1 h2, way_src hF]
        exact ⟨fun ⟨y, _, h⟩ => ⟨y, h⟩, fun ⟨y, h, hn⟩ => ⟨y, by have := nexts_range hF hn; omega, h, hn⟩⟩
theorem rdOf_replicate (n : Nat) (x : Int) : rdOf false (List.replicate n false) x = false := by
  unfold rdOf
  rw [List.getD_eq_getElem?_getD, List.getElem?_replicate]
  split <;> rfl
theorem led_ev (l : List S49) (hl : l.length ≤ 80) (hF : Fwd l) (a : Int) (ha : 0 ≤ a) (d : Bool) :
    ∃ r, Ev (fun k => fencepostref18_led.f k l a d) r ∧ r.length = l.length + 1 ∧ ∀ x : Int, 0 ≤ x → x ≤ (l.length : Int) → (rdOf false r x = true ↔ Way l (thrOf d) a x) := by
  have e1 : wrap64 ((l.length : Int) + 1) = (l.length : Int) + 1 := w64 (by omega) (by omega)
  obtain ⟨r, hr, hp⟩ := led_l0 l hl hF a d l.length 0 (List.replicate (l.length + 1) false) (by omega) (by omega) (by
    refine ⟨by simp, fun x h1 h2 => ?_⟩
    rw [rdOf_replicate]
    refine ⟨fun h => by simp at h, ?_⟩
    rintro ⟨y, hy, hh, hn⟩
    have := nexts_range hF hn
    omega)
  refine ⟨r, ?_, hp⟩
  unfold fencepostref18_led.f
  simp only [e1, if_pos (show (0 : Int) ≤ (l.length : Int) + 1 by omega), show ((l.length : Int) + 1).toNat = l.length + 1 by omega, if_pos (show l.length + 1 ≤ 281474976710656 by omega)]
  exact hr

/-! ### Free, Met -/
def freeD (l : List S49) (a b : Int) : Bool := decide (0 < ledF l noDrain a b)
theorem freeD_iff {l : List S49} (hF : Fwd l) {a b : Int} : freeD l a b = true ↔ Way l noDrain a b := by
  unfold freeD; rw [decide_eq_true_eq]; exact walk_way l noDrain hF _ a b (by omega)
theorem metAt_iff {l : List S49} (hF : Fwd l) {x : Int} : metAt l x = true ↔ x = 0 ∨ Way l anyStep 0 x := by
  unfold metAt
  rw [Bool.or_eq_true, decide_eq_true_eq, beq_iff_eq]
  have := walk_way l anyStep hF (((l.length : Int) - 0).toNat + 1) 0 x (by omega)
  unfold ledF
  rw [this]
theorem rfree_ev (l : List S49) (hl : l.length ≤ 80) (hF : Fwd l) (a b : Int) : Ev (fun k => fencepostref18_Free.f k l a b) (freeD l a b) := by
  unfold fencepostref18_Free.f
  have out : ¬ (0 ≤ a ∧ a < (l.length : Int) ∧ 0 ≤ b ∧ b ≤ (l.length : Int)) → freeD l a b = false := by
    intro h
    cases e : freeD l a b with
    | false => rfl
    | true => have := ((freeD_iff hF).1 e).range hF; omega
  by_cases c1 : a ≥ 0
  · by_cases c2 : a < (l.length : Int)
    · by_cases c3 : b ≥ 0
      · by_cases c4 : b ≤ (l.length : Int)
        · simp only [if_pos c1, if_pos c2, if_pos c3, if_pos c4]
          obtain ⟨r, hr, h1, h2⟩ := led_ev l hl hF a c1 true
          refine Ev.bind hr ?_
          simp only [if_pos (show 0 ≤ b from c3), if_pos (show b < (r.length : Int) by omega)]
          have : rdOf false r b = freeD l a b := Bool.eq_iff_iff.2 ((h2 b c3 c4).trans (freeD_iff hF).symm)
          rw [this]; exact Ev.now _
        · simp only [if_pos c1, if_pos c2, if_pos c3, if_neg c4]; rw [out (by omega)]; exact Ev.now _
      · simp only [if_pos c1, if_pos c2, if_neg c3]; rw [out (by omega)]; exact Ev.now _
    · simp only [if_pos c1, if_neg c2]; rw [out (by omega)]; exact Ev.now _
  · simp only [if_neg c1]; rw [out (by omega)]; exact Ev.now _
theorem metF_rd (l : List S49) (x : Int) (h0 : 0 ≤ x) (h1 : x ≤ (l.length : Int)) : rdOf false (metF l) x = metAt l x := by
  unfold rdOf metF
  rw [List.getD_eq_getElem?_getD, List.getElem?_map, List.getElem?_range (by omega)]
  simp only [Option.map_some, Option.getD_some]
  congr 1; omega
theorem rmet_ev (l : List S49) (hl : l.length ≤ 80) (hF : Fwd l) : Ev (fun k => fencepostref18_Met.f k l) (metF l) := by
  obtain ⟨r, hr, h1, h2⟩ := led_ev l hl hF 0 (by omega) false
  have e : r.set (0 : Int).toNat true = metF l := by
    apply List.ext_getElem
    · rw [List.length_set, h1, metF_length]
    · intro i h3 h4
      have hi : i < l.length + 1 := by rw [metF_length] at h4; exact h4
      have k1 := rdOf_set r (i : Int) 0 true (by omega) (by omega) (by omega)
      have k2 := metF_rd l (i : Int) (by omega) (by omega)
      have k3 : rdOf false (r.set (0 : Int).toNat true) (i : Int) = rdOf false (metF l) (i : Int) := by
        rw [k1, k2]
        by_cases c : (i : Int) = 0
        · rw [if_pos c, c]; rfl
        · rw [if_neg c]
          rw [Bool.eq_iff_iff, h2 _ (by omega) (by omega), metAt_iff hF]
          exact ⟨fun h => .inr h, fun h => h.resolve_left c⟩
      unfold rdOf at k3
      rw [List.getD_eq_getElem?_getD, List.getD_eq_getElem?_getD, show ((i : Int)).toNat = i by omega, List.getElem?_eq_getElem h3, List.getElem?_eq_getElem h4] at k3
      simpa using k3
  unfold fencepostref18_Met.f
  refine Ev.bind hr ?_
  simp only [if_pos (show 0 < (r.length : Int) by omega)]
  rw [e]
  exact Ev.now _
theorem fwd_row {n : Nat} {l : List S49} (h : RowOk n l) : fwdB l = true := by
  unfold fwdB
  rw [List.all_eq_true]
  intro i hi
  rw [List.mem_range] at hi
  by_cases c : ((rd_T49 l i).f0 == 8 || (rd_T49 l i).f0 == 9 || (rd_T49 l i).f0 == 10) = true
  · have := (h i (by omega) (by omega)).tgt (by simp at c; omega)
    simp only [c, Bool.not_true, Bool.false_or, Bool.and_eq_true, decide_eq_true_eq]
    omega
  · simp only [Bool.not_eq_true] at c
    simp [c]
end Go.Proofs.Ytodjfbcpohcbaaa.Print
