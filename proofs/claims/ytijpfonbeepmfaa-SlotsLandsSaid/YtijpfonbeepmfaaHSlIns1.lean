/- slots.Insert: what it answers, and what holds while it works. -/
import Derived.Test.YtijpfonbeepmfaaHSlTurn
namespace Go.Proofs.Ytijpfonbeepmfaa.Print
open Go.RowKit Go.Maps Go.Proofs.YtijpfonbeepmfaaW.PrintWords Go.Proofs.YtijpfonbeepmfaaW.PrintLast Go.Proofs.YtijpfonbeepmfaaW.PrintMore
set_option linter.unusedVariables false
set_option linter.unusedSimpArgs false
def fenceS : S53 := ⟨6, 0, 0, 0, 0⟩
def insStep (g : List Int) (st : List S53 × List Int × Int) (s : S53) : List S53 × List Int × Int := ((if st.2.2 ∈ g then st.1 ++ [fenceS] else st.1) ++ [s], st.2.1 ++ [(st.1.length : Int)], st.2.2 + 1)
def insF (g : List Int) (l : List S53) (n : Int) : List S53 × List Int × Int := l.foldl (insStep g) ([], [], n)
def toF (beg : List Int) (s : S53) : S53 := if s.f0 ≥ 8 then ⟨s.f0, s.f1, s.f2, s.f3, rd beg s.f4⟩ else s
def begF (q : List S53 × List Int × Int) : List Int := q.2.1 ++ [(q.1.length : Int)]
def thF (g : List Int) (l : List S53) (n : Int) : List S53 := (insF g l n).1.map (toF (begF (insF g l n)))
def progStep (g : List Int) (st : List (List S53) × Int) (l : List S53) : List (List S53) × Int := (st.1 ++ [thF g l st.2], st.2 + l.length)
def progF (g : List Int) (B : List (List S53)) : List (List S53) × Int := B.foldl (progStep g) ([], 0)
def totS (B : List (List S53)) : Nat := (B.map List.length).sum
def insB (A : List Int) (B : List (List S53)) (g : List Int) : Bool := decide (A.length ≤ 1000000) && (decide (totS B ≤ 1000000) && (decide (B.length ≤ 1000000) && (decide (g.length ≤ 1000000) && (B.all (fun l => l.all fun s => !decide (8 ≤ s.f0) || (decide (0 ≤ s.f4) && decide (s.f4 ≤ (l.length : Int)))) && g.all fun x => (Lit.int .i64 x).wf))))
theorem insB_of {A : List Int} {B : List (List S53)} {g : List Int} (h : insB A B g = true) : A.length ≤ 1000000 ∧ totS B ≤ 1000000 ∧ B.length ≤ 1000000 ∧ g.length ≤ 1000000 ∧ (∀ l ∈ B, ∀ s ∈ l, 8 ≤ s.f0 → 0 ≤ s.f4 ∧ s.f4 ≤ (l.length : Int)) ∧ ∀ x ∈ g, (Lit.int .i64 x).wf = true := by
 unfold insB at h
 simp only [Bool.and_eq_true, decide_eq_true_eq, List.all_eq_true, Bool.or_eq_true, Bool.not_eq_true', decide_eq_false_iff_not] at h
 obtain ⟨h1, h2, h3, h4, h5, h6⟩ := h
 refine ⟨h1, h2, h3, h4, fun l hl s hs h8 => ?_, h6⟩
 rcases h5 l hl s hs with h | h
 ·exact absurd h8 h
 ·exact h
def slots_Insert.f (l0_0 : List Int) (l0_1 : List (List S53)) (l1 : List Int) : Option (List Int × List (List S53)) := if insB l0_0 l0_1 l1 = true then some (l0_0, (progF l1 l0_1).1) else none
theorem ins_len (g : List Int) (l : List S53) : ∀ st, (l.foldl (insStep g) st).1.length ≤ st.1.length + 2 * l.length ∧ (l.foldl (insStep g) st).2.1.length = st.2.1.length + l.length ∧ (l.foldl (insStep g) st).2.2 = st.2.2 + l.length ∧ ∀ s ∈ (l.foldl (insStep g) st).1, s ∈ st.1 ∨ s = fenceS ∨ s ∈ l := by
 induction l with
 | nil => intro st; simp; exact fun s hs => .inl hs
 | cons x r ih =>
  intro st
  obtain ⟨h1, h2, h3, h4⟩ := ih (insStep g st x)
  have e1 : (insStep g st x).1.length ≤ st.1.length + 2 := by unfold insStep; split <;> simp
  have e2 : (insStep g st x).2.1.length = st.2.1.length + 1 := by unfold insStep; simp
  have e3 : (insStep g st x).2.2 = st.2.2 + 1 := rfl
  refine ⟨by rw [List.foldl_cons, List.length_cons]; omega, by rw [List.foldl_cons, List.length_cons]; omega, by rw [List.foldl_cons, List.length_cons, h3, e3]; push_cast; omega, fun s hs => ?_⟩
  rw [List.foldl_cons] at hs
  rcases h4 s hs with h | h | h
  ·unfold insStep at h
   simp only [List.mem_append, List.mem_singleton] at h
   rcases h with h | h
   ·split at h
    ·simp only [List.mem_append, List.mem_singleton] at h
     rcases h with h | h
     ·exact .inl h
     ·exact .inr (.inl h)
    ·exact .inl h
   ·exact .inr (.inr (by simp [h]))
  ·exact .inr (.inl h)
  ·exact .inr (.inr (List.mem_cons_of_mem _ h))
theorem prog_len (g : List Int) (B : List (List S53)) : ∀ st, (B.foldl (progStep g) st).1.length = st.1.length + B.length ∧ (B.foldl (progStep g) st).2 = st.2 + totS B := by
 induction B with
 | nil => intro st; simp [totS]
 | cons l r ih =>
  intro st
  obtain ⟨h1, h2⟩ := ih (progStep g st l)
  have e1 : (progStep g st l).1.length = st.1.length + 1 := by unfold progStep; simp
  have e2 : (progStep g st l).2 = st.2 + l.length := rfl
  have e3 : totS (l :: r) = l.length + totS r := by simp [totS]
  rw [List.foldl_cons, List.length_cons, h1, h2, e1, e2, e3]
  refine ⟨by omega, by push_cast; omega⟩
theorem totS_take (B : List (List S53)) (i : Nat) (h : i < B.length) : totS (B.take i) + (rd_L3 B (i : Int)).length ≤ totS B ∧ rd_L3 B (i : Int) ∈ B ∧ B.take (i + 1) = B.take i ++ [rd_L3 B (i : Int)] := by
 have e : rd_L3 B (i : Int) = B[i] := by unfold rd_L3; rw [Int.toNat_natCast, List.getD_eq_getElem?_getD, List.getElem?_eq_getElem h]; rfl
 have e2 : B = B.take i ++ B[i] :: B.drop (i + 1) := by rw [← List.drop_eq_getElem_cons h, List.take_append_drop]
 rw [e]
 refine ⟨?_, List.getElem_mem h, List.take_succ_eq_append_getElem h⟩
 conv => rhs; rw [e2]
 simp only [totS, List.map_append, List.map_cons, List.sum_append, List.sum_cons]
 omega
theorem takeS_snoc (l : List S53) (j : Nat) (h : j < l.length) : l.take (j + 1) = l.take j ++ [rd_T53 l (j : Int)] := by
 rw [List.take_succ_eq_append_getElem h]
 have : rd_T53 l (j : Int) = l[j] := by unfold rd_T53; rw [Int.toNat_natCast, List.getD_eq_getElem?_getD, List.getElem?_eq_getElem h]; rfl
 rw [this]
/-- The row behind k rounds of the last loop. -/
def midF (beg : List Int) (l : List S53) (k : Nat) : List S53 := (l.take k).map (toF beg) ++ l.drop k
theorem mid_len (beg : List Int) (l : List S53) (k : Nat) : (midF beg l k).length = l.length := by unfold midF; simp; omega
theorem mid_get (beg : List Int) (l : List S53) (k : Nat) (h : k < l.length) : rd_T53 (midF beg l k) (k : Int) = rd_T53 l (k : Int) := by
 unfold rd_T53 midF
 rw [Int.toNat_natCast, List.getD_eq_getElem?_getD, List.getD_eq_getElem?_getD, List.getElem?_append_right (by simp; omega)]
 simp only [List.length_map, List.length_take, List.getElem?_drop]
 congr 2
 omega
theorem mid_next (beg : List Int) (l : List S53) (k : Nat) (h : k < l.length) : midF beg l (k + 1) = (midF beg l k).set k (toF beg (rd_T53 l (k : Int))) := by
 have e : rd_T53 l (k : Int) = l[k] := by unfold rd_T53; rw [Int.toNat_natCast, List.getD_eq_getElem?_getD, List.getElem?_eq_getElem h]; rfl
 unfold midF
 rw [e, List.drop_eq_getElem_cons h, List.set_append_right _ _ (by simp; omega), List.take_succ_eq_append_getElem h]
 simp only [List.length_map, List.length_take, List.map_append, List.map_cons, List.map_nil, List.append_assoc]
 rw [show k - min k l.length = 0 by omega]
 rfl
theorem mid_same (beg : List Int) (l : List S53) (k : Nat) (h : k < l.length) (hs : ¬ (rd_T53 l (k : Int)).f0 ≥ 8) : midF beg l (k + 1) = midF beg l k := by
 rw [mid_next beg l k h]
 have e : toF beg (rd_T53 l (k : Int)) = rd_T53 (midF beg l k) (k : Int) := by unfold toF; rw [if_neg hs, mid_get beg l k h]
 have hk : k < (midF beg l k).length := by rw [mid_len]; exact h
 rw [e]
 have e2 : rd_T53 (midF beg l k) (k : Int) = (midF beg l k)[k] := by unfold rd_T53; rw [Int.toNat_natCast, List.getD_eq_getElem?_getD, List.getElem?_eq_getElem hk]; rfl
 rw [e2]
 exact List.set_getElem_self hk
/-- A map's block is no row's. -/
theorem map_ne {W : World} {B nn b t : Nat} {m : Int → Int} {c : Array Value} (h : MapIs W B nn m) (hb : W.heap[b]? = some (.cells c t (0, 0))) : B ≠ b := by
 rintro rfl
 obtain ⟨D, ⟨es, clock, hm, _⟩, _⟩ := h
 rw [hb] at hm
 cases hm
structure IK (w : World) (bq B nn : Nat) (g : List Int) (vA : Value) (A : List Int) (v : Value) (ts : List (List S53)) (u10 : Value) (out : List S53) (u11 : Value) (beg : List Int) (W : World) : Prop where
 bR : W.heap[w.heap.size + 1]? = some (.cells #[.slice none 0 0, .slice none 0 0] 25 (0, 0))
 bQ : W.heap[bq]? = some (.cells #[vA, v] 25 (0, 0))
 hM : MapIs W B nn (cntF g)
 hA : Kd.R (Kd.int .i64) 3 W w.heap.size (fun k => True ∧ some k ≠ u11.ownBlock) vA A
 hS : Kd.S (Kd.slice 53 k53) 50 W w.heap.size (fun k => True ∧ some k ≠ u10.ownBlock) v ts
 ho : Kd.R k53 53 W w.heap.size (fun _ => True) u10 out
 hb : Kd.R (Kd.int .i64) 3 W w.heap.size (fun _ => True) u11 beg
 hB : Below w.heap.size w W
 hq : w.heap.size + 1 < bq
section
variable {w W W' : World} {bq B nn : Nat} {g A beg beg' : List Int} {vA v u10 u11 u1 : Value} {ts : List (List S53)} {out out' : List S53}
theorem IK.below (h : IK w bq B nn g vA A v ts u10 out u11 beg W) (hb : Below W.heap.size W W') : IK w bq B nn g vA A v ts u10 out u11 beg W' :=
 ⟨blk_below h.bR hb, blk_below h.bQ hb, h.hM.below hb, Kd.R_below h.hA hb, Kd.S_below h.hS hb, Kd.R_below h.ho hb, Kd.R_below h.hb hb, below_step h.hB hb, h.hq⟩
/-- The begins' row has grown. -/
theorem IK.grewI (h : IK w bq B nn g vA A v ts u10 out u11 beg W) (hg : W.grownBy W' u11.ownBlock) (hn : Kd.R (Kd.int .i64) 3 W' w.heap.size (fun _ => True) u1 beg') (hat : u1.ownBlock = u11.ownBlock ∨ ∃ b, u1.ownBlock = some b ∧ W.heap.size ≤ b) : IK w bq B nn g vA A v ts u10 out u1 beg' W' :=
  ⟨blk_grown h.bR hg (Kd.R_ne h.hb h.bR (by decide)), blk_grown h.bQ hg (Kd.R_ne h.hb h.bQ (by decide)), h.hM.kept hg (fun e => by obtain ⟨c, hc⟩ := Kd.R_typed h.hb _ e.symm; exact map_ne h.hM hc rfl),
   Kd.R_after h.hA hg hat, Kd.S_over' h.hS (Kd.R_typed h.hb) (by decide) hg, Kd.R_over' h.ho (Kd.R_typed h.hb) (by decide) hg, hn, pw_below_grown h.hB _ h.hB.size hg (fun k e => Kd.R_base h.hb k e), h.hq⟩
/-- The steps' row has grown. -/
theorem IK.grewS (h : IK w bq B nn g vA A v ts u10 out u11 beg W) (hg : W.grownBy W' u10.ownBlock) (hn : Kd.R k53 53 W' w.heap.size (fun _ => True) u1 out') (hat : u1.ownBlock = u10.ownBlock ∨ ∃ b, u1.ownBlock = some b ∧ W.heap.size ≤ b) : IK w bq B nn g vA A v ts u1 out' u11 beg W' :=
  ⟨blk_grown h.bR hg (Kd.R_ne h.ho h.bR (by decide)), blk_grown h.bQ hg (Kd.R_ne h.ho h.bQ (by decide)), h.hM.kept hg (fun e => by obtain ⟨c, hc⟩ := Kd.R_typed h.ho _ e.symm; exact map_ne h.hM hc rfl),
   Kd.R_over' h.hA (Kd.R_typed h.ho) (by decide) hg, Kd.S_after h.hS hg hat, hn, Kd.R_over' h.hb (Kd.R_typed h.ho) (by decide) hg, pw_below_grown h.hB _ h.hB.size hg (fun k e => Kd.R_base h.ho k e), h.hq⟩
/-- A step's cell To in a row of steps. -/
theorem to_set {e base : Nat} {ok : Nat → Prop} {g n cap k : Nat} {xs : List S53} {W : World} (h : Kd.R k53 e W base ok (.slice (some ⟨g, 0, none⟩) n cap) xs) (hl : k < n) {x : S53} (hx : rd_T53 xs (k : Int) = x) (u : Int) :
 Kd.R k53 e (W.setCell ⟨g, k * 5 + 4, none⟩ (.int .i64 u)) base ok (.slice (some ⟨g, 0, none⟩) n cap) (xs.set k ⟨x.f0, x.f1, x.f2, x.f3, u⟩) ∧ W.grownBy (W.setCell ⟨g, k * 5 + 4, none⟩ (.int .i64 u)) (some g) := by
 obtain ⟨c, hc, hM, hcc, hfr⟩ := Kd.R_elem h z53 (k : Int) (by omega) (by omega)
 have hx' : xs.getD (k : Int).toNat z53 = x := hx
 rw [hx'] at hM
 have hM' : c = [.int .i64 x.f0, .int .i64 x.f1, .int .i64 x.f2, .int .i64 x.f3, .int .i64 x.f4] := k53_openM hM
 have := Kd.R_seg (okp := fun _ => False) h (k : Int) (by omega) (by omega) (c := c) (seg := [.int .i64 u]) (j := 4) hc hcc (show 4 + 1 ≤ 5 by decide) (x' := ⟨x.f0, x.f1, x.f2, x.f3, u⟩) (by rw [hM']; exact k53_mkM W base _ ⟨x.f0, x.f1, x.f2, x.f3, u⟩) (fun _ hk => hk.elim)
 rw [show ((k : Int)).toNat = k by omega] at this
 exact this
theorem IK.setTo {g10 n cap k : Nat} (h : IK w bq B nn g vA A v ts (.slice (some ⟨g10, 0, none⟩) n cap) out u11 beg W) (hl : k < n) {x : S53} (hx : rd_T53 out (k : Int) = x) (u : Int) : IK w bq B nn g vA A v ts (.slice (some ⟨g10, 0, none⟩) n cap) (out.set k ⟨x.f0, x.f1, x.f2, x.f3, u⟩) u11 beg (W.setCell ⟨g10, k * 5 + 4, none⟩ (.int .i64 u)) := by
 obtain ⟨h1, h2⟩ := to_set h.ho hl hx u
 exact h.grewS (by simpa [Value.ownBlock] using h2) h1 (.inl rfl)
end
end Go.Proofs.Ytijpfonbeepmfaa.Print
