/- cfg.led's closure 'walk': its Lean function and its contract. -/
import Derived.Test.YtphklaajolpieaaHCfgNext
import Derived.Test.YtphklaajolpieaaHMap
import Derived.StillTailTactics
import Derived.Deep.DeepMust
import Derived.Lib.Hide
import Derived.Maps.RangeWalk
namespace Go.Proofs.Ytphklaajolpieaa.Print
open Go.RowKit Go.Maps Go.Proofs.YtphklaajolpieaaW.PrintWords Go.Proofs.YtphklaajolpieaaW.PrintLast Go.Proofs.YtphklaajolpieaaW.PrintMore
set_option linter.unusedVariables false
set_option linter.unusedSimpArgs false
/-- Where a place leads: none, if there is no step. -/
def nexts (l : List S36) (a : Int) : List Int := if a < 0 then [] else if a < (l.length : Int) then nextOf (rd_T36 l a) a else []
theorem next_f (l : List S36) (a : Int) : cfg_Next.f l a = some (nexts l a) := by unfold cfg_Next.f nexts; split <;> (try split) <;> rfl
/-- Jumps go but forward, at most to the end. -/
def Fwd (l : List S36) : Prop := ∀ i : Int, 0 ≤ i → i < (l.length : Int) → (rd_T36 l i).f0 = 8 ∨ (rd_T36 l i).f0 = 9 ∨ (rd_T36 l i).f0 = 10 → i < (rd_T36 l i).f4 ∧ (rd_T36 l i).f4 ≤ (l.length : Int)
/-- What a round does to the counts. -/
def stepF (l : List S36) (thr : S36 → Bool) (go : Int → (Int → Int) → Int → Int) (m : Int → Int) (nx : Int) : Int → Int :=
 if m nx = 0 ∧ nx < (l.length : Int) ∧ thr (rd_T36 l nx) = true then go nx (upd m nx (m nx + 1)) else upd m nx (m nx + 1)
/-- The walk, at most k deep. -/
def walkF (l : List S36) (thr : S36 → Bool) : Nat → Int → (Int → Int) → Int → Int
 | 0, _, m => m
 | k + 1, a, m => (nexts l a).foldl (stepF l thr (walkF l thr k)) m
/-- How many places weren't met yet. -/
def unmet (l : List S36) (m : Int → Int) : Nat := ((List.range l.length).filter (fun i : Nat => decide (m (i : Int) = 0))).length
theorem nexts_range {l : List S36} (hF : Fwd l) {a nx : Int} (h : nx ∈ nexts l a) : 0 ≤ a ∧ a < (l.length : Int) ∧ a < nx ∧ nx ≤ (l.length : Int) := by
 unfold nexts at h
 split at h
 ·simp at h
 ·split at h
  ·rename_i h0 h1
   have hf := hF a (by omega) h1
   unfold nextOf at h
   refine ⟨by omega, h1, ?_⟩
   split at h
   ·simp at h; have := hf (.inl ‹_›); omega
   ·split at h
    ·have := hf (.inr (.inl ‹_›))
     split at h <;> simp at h <;> omega
    ·split at h
     ·have := hf (.inr (.inr ‹_›))
      split at h <;> simp at h <;> omega
     ·simp at h; omega
  ·simp at h
theorem nexts_length (l : List S36) (a : Int) : (nexts l a).length ≤ 2 := by
 unfold nexts nextOf
 repeat' split
 all_goals simp
theorem filter_le {α : Type} (p q : α → Bool) : ∀ l : List α, (∀ x ∈ l, p x = true → q x = true) → (l.filter p).length ≤ (l.filter q).length
 | [], _ => by simp
 | x :: r, h => by
  have ih := filter_le p q r (fun y hy => h y (List.mem_cons_of_mem _ hy))
  have hx := h x List.mem_cons_self
  simp only [List.filter_cons]
  cases hp : p x <;> cases hq : q x <;> simp_all <;> omega
theorem filter_lt {α : Type} (p q : α → Bool) : ∀ l : List α, (∀ x ∈ l, p x = true → q x = true) → (∃ x ∈ l, p x = false ∧ q x = true) → (l.filter p).length + 1 ≤ (l.filter q).length
 | [], _, h => by obtain ⟨x, hx, _⟩ := h; simp at hx
 | x :: r, h, ⟨y, hy, hpy, hqy⟩ => by
  have hx := h x List.mem_cons_self
  simp only [List.filter_cons]
  rcases List.mem_cons.1 hy with e | hy'
  ·subst e
   have := filter_le p q r (fun z hz => h z (List.mem_cons_of_mem _ hz))
   simp [hpy, hqy]; omega
  ·have ih := filter_lt p q r (fun z hz => h z (List.mem_cons_of_mem _ hz)) ⟨y, hy', hpy, hqy⟩
   cases hp : p x <;> cases hq : q x <;> simp_all <;> omega
theorem unmet_upd (l : List S36) (m : Int → Int) (x v : Int) (hv : v ≠ 0) : unmet l (upd m x v) ≤ unmet l m := by
 unfold unmet
 refine filter_le _ _ _ (fun i _ h => ?_)
 have h := of_decide_eq_true h
 apply decide_eq_true
 unfold upd at h
 split at h
 ·exact absurd h hv
 ·exact h
theorem unmet_new (l : List S36) (m : Int → Int) (x v : Int) (hv : v ≠ 0) (h0 : 0 ≤ x) (hx : x < (l.length : Int)) (hm : m x = 0) : unmet l (upd m x v) + 1 ≤ unmet l m := by
 unfold unmet
 refine filter_lt _ _ _ (fun i _ h => ?_) ⟨x.toNat, by simp; omega, ?_, ?_⟩
 ·have h := of_decide_eq_true h
  apply decide_eq_true
  unfold upd at h
  split at h
  ·exact absurd h hv
  ·exact h
 ·have e : ((x.toNat : Nat) : Int) = x := by omega
  simp [upd, e, hv]
 ·have e : ((x.toNat : Nat) : Int) = x := by omega
  simp [e, hm]
/-- Cells keep what they hold while a map's block alone turns. -/
theorem cell_map {w w' : World} {B : Nat} {n : Nat} {m : Int → Int} (h : MapIs w B n m) (hg : w.grownBy w' (some B)) {a : Addr} {v : Value} (hc : w.cell? a = some v) : w'.cell? a = some v := by
 have hlt := World.block_lt_of_cell? w a hc
 have hne : some a.block ≠ some B := by
  intro e
  injection e with e
  obtain ⟨D, ⟨es, clock, hb, _⟩, _⟩ := h
  rw [World.cell?, e, hb] at hc
  simp at hc
 have := hg.block a.block hlt hne
 rw [← hc]
 simp only [World.cell?, this]
theorem CI_map {w w' : World} {B : Nat} {n : Nat} {m : Int → Int} (h : MapIs w B n m) (hg : w.grownBy w' (some B)) {A : Option Addr} {c : Nat} {l : List Int} (hc : Kd.C (Kd.int .i64) w A c l) : Kd.C (Kd.int .i64) w' A c l :=
 ⟨hc.1, hc.2.1, fun hn => by
  obtain ⟨ad, e, hr⟩ := hc.2.2 hn
  refine ⟨ad, e, fun j p hp => ?_⟩
  obtain ⟨cs, h1, h2, h3⟩ := hr j p hp
  exact ⟨cs, h1, h2, fun i u hu => cell_map h hg (h3 i u hu)⟩⟩
theorem C_map {w w' : World} {B : Nat} {n : Nat} {m : Int → Int} (h : MapIs w B n m) (hg : w.grownBy w' (some B)) {A : Option Addr} {c : Nat} {l : List S36} (hc : Kd.C k36 w A c l) : Kd.C k36 w' A c l :=
 ⟨hc.1, hc.2.1, fun hn => by
  obtain ⟨ad, e, hr⟩ := hc.2.2 hn
  refine ⟨ad, e, fun j p hp => ?_⟩
  obtain ⟨cs, h1, h2, h3⟩ := hr j p hp
  exact ⟨cs, h1, h2, fun i u hu => cell_map h hg (h3 i u hu)⟩⟩
/-- What 'through' says of a step, whatever it is, by the call of a function without captured variables. -/
def Thr (ft : Nat) (thr : S36 → Bool) : Prop := ∀ (x : S36) (W : World), Calls Try.prog ft #[.agg #[.int .i64 x.f0, .int .i64 x.f1, .int .i64 x.f2, .int .i64 x.f3, .int .i64 x.f4]] W fun e w' => e = .returned (.bool (thr x)) ∧ Below W.heap.size W w'
/-- The variables that the closure has captured. -/
structure Held (w : World) (A : Option Addr) (c : Nat) (l : List S36) (bl bm bt bw B ft : Nat) : Prop where
 hl : w.cell? ⟨bl, 0, none⟩ = some (.slice A l.length c)
 hm : w.cell? ⟨bm, 0, none⟩ = some (.map (some B))
 ht : w.cell? ⟨bt, 0, none⟩ = some (.func (.func ft) #[] #[])
 hw : w.cell? ⟨bw, 0, none⟩ = some (.func (.func 41) #[] #[.pointer (some ⟨bl, 0, none⟩), .pointer (some ⟨bm, 0, none⟩), .pointer (some ⟨bt, 0, none⟩), .pointer (some ⟨bw, 0, none⟩)])
 hr : Kd.C k36 w A l.length l
theorem Held.map {w w' : World} {A : Option Addr} {c : Nat} {l : List S36} {bl bm bt bw B ft n : Nat} {m : Int → Int} (h : Held w A c l bl bm bt bw B ft) (hM : MapIs w B n m) (hg : w.grownBy w' (some B)) : Held w' A c l bl bm bt bw B ft :=
 ⟨cell_map hM hg h.hl, cell_map hM hg h.hm, cell_map hM hg h.ht, cell_map hM hg h.hw, C_map hM hg h.hr⟩
theorem Held.below {w w' : World} {A : Option Addr} {c : Nat} {l : List S36} {bl bm bt bw B ft : Nat} (h : Held w A c l bl bm bt bw B ft) (hb : Below w.heap.size w w') : Held w' A c l bl bm bt bw B ft :=
 ⟨pw_cell_below hb h.hl, pw_cell_below hb h.hm, pw_cell_below hb h.ht, pw_cell_below hb h.hw, Kd.C_below h.hr hb⟩
/-- What a walk leaves: the counts, how many puts that took, and that nothing else has turned. -/
def Walked (l : List S36) (w : World) (B n : Nat) (m0 m : Int → Int) (d : Nat) (w' : World) : Prop :=
 ∃ n', MapIs w' B n' m ∧ (∀ x, 0 ≤ m x ∧ m x ≤ n') ∧ n' + 2 * unmet l m ≤ n + 2 * unmet l m0 + d ∧ w.grownBy w' (some B)
theorem walked_skip {l : List S36} {w1 wr w2 : World} {B n nj j : Nat} {m mj : Int → Int} {nx : Int} (m2 : ∀ x, 0 ≤ mj x ∧ mj x ≤ nj) (m3 : nj + 2 * unmet l mj ≤ n + 2 * unmet l m + j) (m4 : w1.grownBy wr (some B))
 (hm : MapIs w2 B (nj + 1) (upd mj nx (mj nx + 1))) (hg : wr.grownBy w2 (some B)) : Walked l w1 B n m (upd mj nx (mj nx + 1)) (j + 1) w2 := by
 have h0 := m2 nx
 refine ⟨nj + 1, hm, fun x => ?_, ?_, m4.trans hg⟩
 ·have := m2 x
  unfold upd
  split <;> omega
 ·have := unmet_upd l mj nx (mj nx + 1) (by omega)
  omega
set_option maxHeartbeats 4000000 in
set_option maxRecDepth 100000 in
theorem walk_calls (l : List S36) (thr : S36 → Bool) (ft : Nat) (hT : Hid (Thr ft thr)) (hE : ∀ args w, (callFunc ft args).run Try.prog w = .ok (.enter ft args) w) (hF : Hid (Fwd l)) (A : Option Addr) (c : Nat) (hcl : l.length ≤ c) (bl bm bt bw B : Nat) (k : Nat) :
    ∀ (a : Int) (w : World) (n : Nat) (m : Int → Int), (l.length : Int) - a ≤ k → Held w A c l bl bm bt bw B ft → MapIs w B n m → (∀ x, 0 ≤ m x ∧ m x ≤ n) → n + 2 * unmet l m + 2 < 4611686018427387904 → 0 < k →
    Calls Try.prog 41 #[.int .i64 a, .pointer (some ⟨bl, 0, none⟩), .pointer (some ⟨bm, 0, none⟩), .pointer (some ⟨bt, 0, none⟩), .pointer (some ⟨bw, 0, none⟩)] w fun e w' =>
      e = .returned (.tuple #[]) ∧ Walked l w B n m (walkF l thr k a m) 2 w' := by
  induction k with
  | zero => intro a w n m _ _ _ _ _ h; omega
  | succ k ih =>
    intro a w n m hk H hM h01 hn _
    have h1 := H.hl
    have h2 := H.hm
    have h3 := H.ht
    have h4 := H.hw
    have HH := Lib.hid H
    have HM := Lib.hid hM
    have H01 := Lib.hid h01
    clear H hM h01
    go_enter Try.func41, Try.ntmps41
    go_wp2_with fail
    refine (cfg_Next.calls _ _ l a _ _ HH.out.hr hcl (next_f l a)).mono ?_
    rintro e w1 ⟨v0, rfl, ho, hb⟩
    obtain ⟨A1, c1, rfl⟩ := Kd.R_slice ho
    have h1' := pw_cell_below hb h1
    have h2' := pw_cell_below hb h2
    have h3' := pw_cell_below hb h3
    have h4' := pw_cell_below hb h4
    have HO := Lib.hid (Kd.R_reads' ho).2.2
    have hB1 : B < w.heap.size := HM.out.lt
    have HM1 := Lib.hid (HM.out.below hb)
    have HH1 := Lib.hid (HH.out.below hb)
    have HK := Lib.hid hk
    have HIH := Lib.hid ih
    have hnl := nexts_length l a
    have HR := Lib.hid (fun nx h => nexts_range hF.out (nx := nx) (a := a) (l := l) h)
    have HB := Lib.hid hb
    have HN := Lib.hid hn
    clear ho hb ih hk hn
    go_wp2_with fail
    go_loopw [12] (fun i wr => ∃ j : Nat, j ≤ (nexts l a).length ∧ i = .int .i64 j ∧ Hid (Walked l w1 B n m (((nexts l a).take j).foldl (stepF l thr (walkF l thr k)) m) j wr)) (fun i _ => (nexts l a).length - (intOf i).toNat)
    case atStart => exact ⟨0, Nat.zero_le _, rfl, ⟨n, HM1.out, H01.out, by simp, World.grownBy.refl _ _⟩⟩
    case round =>
      obtain ⟨j, hj, rfl, HW⟩ := hrel
      by_cases hlt : j < (nexts l a).length
      · obtain ⟨nj, m1, m2, m3, m4⟩ := HW.out
        have hmem : rd (nexts l a) (j : Int) ∈ nexts l a := by
          have e : rd (nexts l a) (j : Int) = (nexts l a)[j] := by simp [rd, hlt]
          rw [e]; exact List.getElem_mem _
        have hrng := HR.out _ hmem
        obtain ⟨ad, eA, hx⟩ := Kd.at_int (CI_map HM1.out m4 HO.out) (j : Int) (by omega) (by omega)
        cases eA
        rw [Int.toNat_natCast] at hx
        have HT := Lib.hid (show (nexts l a).take (j + 1) = (nexts l a).take j ++ [rd (nexts l a) (j : Int)] from by
          rw [List.take_succ_eq_append_getElem hlt]; simp [rd, hlt])
        have Hj := Lib.hid (HH1.out.map HM1.out m4)
        have g1 := Hj.out.hl
        have g2 := Hj.out.hm
        have g3 := Hj.out.ht
        have g4 := Hj.out.hw
        clear HW
        generalize rd (nexts l a) (j : Int) = nx at hx hmem hrng HT
        generalize hmj : ((nexts l a).take j).foldl (stepF l thr (walkF l thr k)) m = mj at m1 m2 m3
        have HJ := Lib.hid (show ((nexts l a).take (j + 1)).foldl (stepF l thr (walkF l thr k)) m = stepF l thr (walkF l thr k) mj nx from by rw [HT.out, List.foldl_append, hmj]; rfl)
        clear hmj
        have hx0 := m2 nx
        have hlen := Hj.out.hr.2.1
        have hnn := HN.out
        have hwf : (Lit.int .i64 nx).wf = true := wf_i64_of (by omega) (by omega)
        have hwf1 : (Lit.int .i64 (mj nx + 1)).wf = true := wf_i64_of (by omega) (by omega)
        have hlook := (m1.look nx hwf).1
        have M1 := Lib.hid m1
        have M2 := Lib.hid m2
        have M3 := Lib.hid m3
        have M4 := Lib.hid m4
        have hjn : nj < 4611686018427387904 := by omega
        clear m1 m2 m3 m4 hmem
        by_cases c0 : mj nx = 0
        · have b0 : (mj nx + 1 == 1) = true := by rw [c0]; rfl
          have C0 := Lib.hid c0
          clear c0
          go_wp2_with (at_mapUpdate; refine wpList_put _ rfl _ _ _ rfl B nj mj rfl M1.out (by omega) nx (mj nx + 1) rfl rfl hwf hwf1 ?_; intro w2 hm2 hg2)
          have H2 := Lib.hid (Hj.out.map M1.out hg2)
          have k1 := H2.out.hl
          have k2 := H2.out.hm
          have k3 := H2.out.ht
          have k4 := H2.out.hw
          have e1 : upd mj nx (mj nx + 1) nx = mj nx + 1 := by simp [upd]
          by_cases hl : nx < (l.length : Int)
          · have b1 : decide (nx < (l.length : Int)) = true := decide_eq_true hl
            have p1 : (0 ≤ nx) = True := eq_true (by omega)
            have q1 : (nx < (l.length : Int)) = True := eq_true hl
            have hlook3 : (Instr.lookup 77 (.map (some B)) (.int .i64 nx) false).run Try.prog w2.drew = .ok (.int .i64 (mj nx + 1)) w2.drew := by
              have := ((hm2.drewN 1).look nx hwf).1
              rw [e1] at this
              exact this
            obtain ⟨ad2, eA2, y0, y1, y2, y3, y4⟩ := at_T36 H2.out.hr nx (by omega) hl
            cases eA2
            have HM2 := Lib.hid hm2
            have HG2 := Lib.hid hg2
            clear hm2 hg2 e1 g1 g2 g3 g4 hlook
            generalize hxx : rd_T36 l nx = x at y0 y1 y2 y3 y4
            have HX := Lib.hid hxx
            have HL := Lib.hid hl
            clear hxx hl
            have hu := Try.underlying36
            go_frame
            go_still_tail 16, (by kernel_rfl)
            change wpList _ _ _ _ _ w2.drew
            go_wp2_with fail
            refine (hT.out x w2.drew).mono ?_
            rintro e w3 ⟨rfl, hb3⟩
            have HG3 := Lib.hid (HG2.out.trans (grown_of_below (pw_below_drewN (Below.refl _ _) 1) (some B)) |>.trans (grown_of_below hb3 (some B)))
            have H3 := Lib.hid ((H2.out.below (pw_below_drewN (Below.refl _ _) 1)).below hb3)
            have HM3 := Lib.hid ((HM2.out.drewN 1).below hb3)
            have r4 := H3.out.hw
            clear k1 k2 k3 k4 hlook3 hb3 y0 y1 y2 y3 y4
            by_cases ht : thr x = true
            · rw [ht]
              have HTh := Lib.hid ht
              clear ht
              have hun := unmet_new l mj nx (mj nx + 1) (by have := M2.out nx; omega) (by omega) HL.out C0.out
              have hm3 := M3.out
              have hk := HK.out
              have hl := HL.out
              have HI := Lib.hid (HIH.out nx w3 (nj + 1) (upd mj nx (mj nx + 1)) (by omega) H3.out HM3.out (fun x => by have := M2.out x; have := M2.out nx; unfold upd; split <;> omega) (by omega) (by omega))
              have HU := Lib.hid hun
              clear hun hm3 hk hl
              go_wp2_with fail
              refine HI.out.mono ?_
              rintro e w4 ⟨rfl, HWk⟩
              have HWk := Lib.hid HWk
              go_wp2_with fail
              exact ⟨⟨j + 1, by omega, by go_num, Lib.hid (by
                rw [HJ.out, stepF, HX.out, if_pos ⟨C0.out, HL.out, HTh.out⟩]
                obtain ⟨n', q1, q2, q3, q4⟩ := HWk.out
                have := HU.out
                have := M3.out
                exact ⟨n', q1, q2, by omega, M4.out.trans (HG3.out.trans q4)⟩)⟩, by simp [intOf]; omega⟩
            · have ht : thr x = false := by simpa using ht
              rw [ht]
              have HTh := Lib.hid ht
              clear ht
              go_wp2_with fail
              exact ⟨⟨j + 1, by omega, by go_num, Lib.hid (by rw [HJ.out, stepF, HX.out, HTh.out, if_neg (by simp)]; exact walked_skip M2.out M3.out M4.out HM3.out HG3.out)⟩, by simp [intOf]; omega⟩
          · have b1 : decide (nx < (l.length : Int)) = false := decide_eq_false hl
            have hlook2 := fun q => ((hm2.drewN q).look nx hwf).1
            rw [e1] at hlook2
            have HM2 := Lib.hid hm2
            have HG2 := Lib.hid hg2
            have HL := Lib.hid hl
            clear hm2 hg2 e1 g1 g2 g3 g4 hlook hl
            go_frame
            go_quiet (fail)
            go_wp2_with fail
            exact ⟨⟨j + 1, by omega, by go_num, Lib.hid (by rw [HJ.out, stepF, if_neg (fun h => HL.out h.2.1)]; exact walked_skip M2.out M3.out M4.out (HM2.out.drewN _) (HG2.out.trans (grown_of_below (pw_below_drewN (Below.refl _ _) _) _)))⟩, by simp [intOf]; omega⟩
        · have b0 : (mj nx + 1 == 1) = false := by rw [beq_eq_false_iff_ne]; omega
          have C0 := Lib.hid c0
          clear c0
          go_wp2_with (at_mapUpdate; refine wpList_put _ rfl _ _ _ rfl B nj mj rfl M1.out (by omega) nx (mj nx + 1) rfl rfl hwf hwf1 ?_; intro w2 hm2 hg2)
          have H2 := Lib.hid (Hj.out.map M1.out hg2)
          have k1 := H2.out.hl
          have k2 := H2.out.hm
          have k3 := H2.out.ht
          have k4 := H2.out.hw
          have e1 : upd mj nx (mj nx + 1) nx = mj nx + 1 := by simp [upd]
          have hlook2 := fun q => ((hm2.drewN q).look nx hwf).1
          rw [e1] at hlook2
          have HM2 := Lib.hid hm2
          have HG2 := Lib.hid hg2
          clear hm2 hg2 e1 g1 g2 g3 g4 hlook
          go_frame
          go_quiet (fail)
          go_wp2_with fail
          exact ⟨⟨j + 1, by omega, by go_num, Lib.hid (by rw [HJ.out, stepF, if_neg (fun h => C0.out h.1)]; exact walked_skip M2.out M3.out M4.out (HM2.out.drewN _) (HG2.out.trans (grown_of_below (pw_below_drewN (Below.refl _ _) _) _)))⟩, by simp [intOf]; omega⟩
      · obtain rfl : j = (nexts l a).length := by omega
        go_wp2_with fail
        go_end0
        refine ⟨rfl, ?_⟩
        show Walked l w B n m ((nexts l a).foldl (stepF l thr (walkF l thr k)) m) 2 _
        obtain ⟨n', m1, m2, m3, m4⟩ := HW.out
        rw [List.take_length] at m1 m2 m3
        exact ⟨n', m1, m2, by omega, (grown_of_below HB.out _).trans m4⟩
end Go.Proofs.Ytphklaajolpieaa.Print
