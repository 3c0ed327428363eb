/- slots.lines: its contract, whatever it is handed. -/
import Derived.Test.YtijpfonbeepmfaaHSlTurn
namespace Go.Proofs.Ytijpfonbeepmfaa.Print
open Go.RowKit Go.Maps Go.Proofs.YtijpfonbeepmfaaW.PrintWords Go.Proofs.YtijpfonbeepmfaaW.PrintLast Go.Proofs.YtijpfonbeepmfaaW.PrintMore
set_option linter.unusedVariables false
set_option linter.unusedSimpArgs false
section
variable {σ : Type}
def lineStep (T : S60 → Int → σ → List S60 × Int × σ) (st : List S60 × Int × σ) (x : S60) : List S60 × Int × σ := if x.f0 = 11 then (st.1 ++ [x], st.2.1, st.2.2) else (st.1 ++ (T x st.2.1 st.2.2).1, (T x st.2.1 st.2.2).2.1, (T x st.2.1 st.2.2).2.2)
def thrF (T : S60 → Int → σ → List S60 × Int × σ) (l : List S60) (n : Int) (s : σ) : List S60 × Int × σ := l.foldl (lineStep T) ([], n, s)
def thrStep (T : S60 → Int → σ → List S60 × Int × σ) (st : List S58 × Int × σ) (t : S58) : List S58 × Int × σ := (st.1 ++ [⟨(thrF T t.f0 st.2.1 st.2.2).1⟩], (thrF T t.f0 st.2.1 st.2.2).2.1, (thrF T t.f0 st.2.1 st.2.2).2.2)
def linesF (T : S60 → Int → σ → List S60 × Int × σ) (l : List S58) (s : σ) : List S58 × Int × σ := l.foldl (thrStep T) ([], 0, s)
/-- What a turn makes is short, and counts by one at most. -/
def Short (T : S60 → Int → σ → List S60 × Int × σ) : Prop := ∀ x n s, (T x n s).1.length ≤ 2 ∧ n ≤ (T x n s).2.1 ∧ (T x n s).2.1 ≤ n + 1
theorem thr_short {T : S60 → Int → σ → List S60 × Int × σ} (h : Short T) (l : List S60) : ∀ st, (l.foldl (lineStep T) st).1.length ≤ st.1.length + 2 * l.length ∧ st.2.1 ≤ (l.foldl (lineStep T) st).2.1 ∧ (l.foldl (lineStep T) st).2.1 ≤ st.2.1 + l.length := by
 induction l with
 | nil => intro st; simp
 | cons x r ih =>
  intro st
  have h1 := ih (lineStep T st x)
  have h2 : (lineStep T st x).1.length ≤ st.1.length + 2 ∧ st.2.1 ≤ (lineStep T st x).2.1 ∧ (lineStep T st x).2.1 ≤ st.2.1 + 1 := by
   unfold lineStep
   have := h x st.2.1 st.2.2
   split
   ·simp only [List.length_append, List.length_cons, List.length_nil]; omega
   ·simp only [List.length_append]; omega
  rw [List.foldl_cons, List.length_cons]
  omega
def totLn (l : List S58) : Nat := (l.map fun t => t.f0.length).sum
theorem lines_short {T : S60 → Int → σ → List S60 × Int × σ} (h : Short T) (l : List S58) : ∀ st, (l.foldl (thrStep T) st).1.length = st.1.length + l.length ∧ st.2.1 ≤ (l.foldl (thrStep T) st).2.1 ∧ (l.foldl (thrStep T) st).2.1 ≤ st.2.1 + totLn l := by
 induction l with
 | nil => intro st; simp [totLn]
 | cons x r ih =>
  intro st
  have h1 := ih (thrStep T st x)
  have h2 : (thrStep T st x).1.length = st.1.length + 1 ∧ st.2.1 ≤ (thrStep T st x).2.1 ∧ (thrStep T st x).2.1 ≤ st.2.1 + x.f0.length := by
   have := (thr_short h x.f0 ([], st.2.1, st.2.2)).2
   exact ⟨by unfold thrStep; simp, this.1, this.2⟩
  have e : totLn (x :: r) = x.f0.length + totLn r := by simp [totLn]
  rw [List.foldl_cons, List.length_cons, e]
  omega
end
/-- Old blocks but one stay. -/
theorem grown_more {w W W1 : World} {row r : Option Nat} (h : w.grownBy W row) (h1 : W.grownBy W1 r) (hr : ∀ k, r = some k → w.heap.size ≤ k ∨ r = row) : w.grownBy W1 row :=
 ⟨h1.os.trans h.os, h1.tape.trans h.tape, h1.output.trans h.output, Nat.le_trans h.size h1.size, fun k hk hne => by
  rw [h1.block k (Nat.lt_of_lt_of_le hk h.size) (fun e => by rcases hr k e.symm with h2 | h2; omega; exact hne (e.trans h2))]
  exact h.block k hk hne⟩
theorem R_old {α : Type} {d : Kd α} {e base : Nat} {ok : Nat → Prop} {W W1 : World} {v : Value} {xs : List α} {row : Option Nat} (h : d.R e W base ok v xs) (hg : W.grownBy W1 row) (hr : ∀ k, row = some k → k < base) : d.R e W1 base ok v xs :=
 Kd.R_mono (Kd.R_grown (Kd.R_bound h) hg (fun k hk e => by have := hr k e.symm; have := hk.2.1; omega)) (fun _ hk => hk.1)
theorem S_oldG {α : Type} {d : Kd α} {e base : Nat} {ok : Nat → Prop} {W W1 : World} {v : Value} {xs : List α} {row : Option Nat} (h : Kd.S d e W base ok v xs) (hg : W.grownBy W1 row) (hr : ∀ k, row = some k → k < base) : Kd.S d e W1 base ok v xs :=
 Kd.S_mono (Kd.S_grown (Kd.S_bound h) hg (fun k hk e => by have := hr k e.symm; have := hk.2.1; omega)) (fun _ hk => hk.1)
theorem blk_grown {W W1 : World} {row : Option Nat} {g : Nat} {o : Obj} (h : W.heap[g]? = some o) (hg : W.grownBy W1 row) (hr : some g ≠ row) : W1.heap[g]? = some o := (hg.block g (blk_lt h) hr).trans h
/-- What a function that is handed to lines does, by its call. -/
def Turn {σ : Type} (g : Nat) (caps : Array Value) (I : σ → World → Prop) (row : Option Nat) (T : S60 → Int → σ → List S60 × Int × σ) : Prop := ∀ (x : S60) (n : Int) (s : σ) (W : World), 0 ≤ n ∧ n ≤ 1000000000 → I s W → Calls Try.prog g (#[.agg (lineC x).toArray, .int .i64 n] ++ caps) W fun e w' => ∃ v, e = .returned (.tuple #[v, .int .i64 (T x n s).2.1]) ∧ Kd.R k60 60 w' W.heap.size (fun _ => True) v (T x n s).1 ∧ I (T x n s).2.2 w' ∧ W.grownBy w' row
def fileC (a0 : ByteArray) (v1 v2 : Value) (a3 : Bool) (v4 : Value) : Array Value := #[.string a0, v1, v2, .bool a3, v4]
/-- What holds between two rounds of lines' outer loop. -/
structure LJ {σ : Type} (w : World) (I : σ → World → Prop) (row : Option Nat) (a0 : ByteArray) (v1 : Value) (a3 : Bool) (v4 : Value) (okS : Nat → Prop) (ts : List S58) (s : σ) (v : Value) (W : World) : Prop where
 bF : W.heap[w.heap.size]? = some (.cells (fileC a0 v1 v a3 v4) 30 (0, 0))
 bR : W.heap[w.heap.size + 1]? = some (.cells (fileC ⟨#[]⟩ (.slice none 0 0) (.slice none 0 0) false (.slice none 0 0)) 30 (0, 0))
 hS : Kd.S k58 58 W w.heap.size okS v ts
 hI : I s W
 hG : w.grownBy W row
theorem LJ.step {σ : Type} {w : World} {I : σ → World → Prop} {row : Option Nat} {a0 : ByteArray} {v1 : Value} {a3 : Bool} {v4 : Value} {okS : Nat → Prop} {ts : List S58} {s : σ} {v : Value} {W W' : World} (h : LJ w I row a0 v1 a3 v4 okS ts s v W) {r : Option Nat} (hg : W.grownBy W' r) (hr : ∀ k, r = some k → w.heap.size ≤ k ∧ ∃ c t, t ≠ 30 ∧ W.heap[k]? = some (.cells c t (0, 0))) (hk : ∀ k, okS k → some k ≠ r)
 (hIk : ∀ s W W' r, I s W → w.heap.size ≤ W.heap.size → W.grownBy W' r → (∀ k, r = some k → w.heap.size ≤ k) → I s W') : LJ w I row a0 v1 a3 v4 okS ts s v W' := by
 have hne : ∀ {b : Nat} {c : Array Value}, W.heap[b]? = some (.cells c 30 (0, 0)) → some b ≠ r := fun hb e => by
  obtain ⟨_, c', t', ht, hc⟩ := hr _ e.symm
  rw [hb] at hc
  injection hc with hc
  injection hc with _ hc
  exact ht hc.symm
 exact ⟨blk_grown h.bF hg (hne h.bF), blk_grown h.bR hg (hne h.bR), Kd.S_grown h.hS hg hk, hIk _ _ _ r h.hI h.hG.size hg (fun k e => (hr k e).1), grown_more h.hG hg (fun k e => .inl (hr k e).1)⟩
theorem LJ.alloc {σ : Type} {w : World} {I : σ → World → Prop} {row : Option Nat} {a0 : ByteArray} {v1 : Value} {a3 : Bool} {v4 : Value} {okS : Nat → Prop} {ts : List S58} {s : σ} {v : Value} {W : World} (h : LJ w I row a0 v1 a3 v4 okS ts s v W) (o : Obj)
 (hIk : ∀ s W W' r, I s W → w.heap.size ≤ W.heap.size → W.grownBy W' r → (∀ k, r = some k → w.heap.size ≤ k) → I s W') : LJ w I row a0 v1 a3 v4 okS ts s v (W.alloc o) :=
 h.step (World.grownBy_alloc W o none) (fun k e => by cases e) (fun k _ => by simp) hIk
theorem LJ.grew {σ : Type} {w : World} {I : σ → World → Prop} {row : Option Nat} {a0 : ByteArray} {v1 : Value} {a3 : Bool} {v4 : Value} {ts : List S58} {s : σ} {v u u1 : Value} {xs : List S60} {W W' : World} (h : LJ w I row a0 v1 a3 v4 (fun k => some k ≠ u.ownBlock) ts s v W) (hR : Kd.R k60 60 W w.heap.size (fun _ => True) u xs) (hg : W.grownBy W' u.ownBlock) (hat : u1.ownBlock = u.ownBlock ∨ ∃ b, u1.ownBlock = some b ∧ W.heap.size ≤ b)
 (hIk : ∀ s W W' r, I s W → w.heap.size ≤ W.heap.size → W.grownBy W' r → (∀ k, r = some k → w.heap.size ≤ k) → I s W') : LJ w I row a0 v1 a3 v4 (fun k => some k ≠ u1.ownBlock) ts s v W' := by
 have h2 := h.step hg (fun k e => ⟨Kd.R_base hR k e, by obtain ⟨c, hc⟩ := Kd.R_typed hR k e; exact ⟨c, _, by decide, hc⟩⟩) (fun k hk => hk) hIk
 exact ⟨h2.bF, h2.bR, Kd.S_mono (Kd.S_after (Kd.S_mono h.hS (ok' := fun k => True ∧ some k ≠ u.ownBlock) (fun k hk => ⟨trivial, hk⟩)) hg hat) (fun k hk => hk.2), h2.hI, h2.hG⟩
theorem LJ.turn {σ : Type} {w : World} {I : σ → World → Prop} {row : Option Nat} {a0 : ByteArray} {v1 : Value} {a3 : Bool} {v4 : Value} {okS : Nat → Prop} {ts : List S58} {s s' : σ} {v : Value} {W W' : World} (h : LJ w I row a0 v1 a3 v4 okS ts s v W) (hg : W.grownBy W' row) (hrow : ∀ k, row = some k → k < w.heap.size) (hI : I s' W') : LJ w I row a0 v1 a3 v4 okS ts s' v W' :=
 ⟨blk_grown h.bF hg (fun e => by have := hrow _ e.symm; omega), blk_grown h.bR hg (fun e => by have := hrow _ e.symm; omega), S_oldG h.hS hg hrow, hI, grown_more h.hG hg (fun k e => .inr rfl)⟩
theorem tot_take (l : List S58) (i : Nat) (h : i < l.length) : totLn (l.take i) + (rd_T58 l (i : Int)).f0.length ≤ totLn l := by
 have e : rd_T58 l (i : Int) = l[i] := by unfold rd_T58; rw [Int.toNat_natCast, List.getD_eq_getElem?_getD, List.getElem?_eq_getElem h]; rfl
 have e2 : l = l.take i ++ l[i] :: l.drop (i + 1) := by rw [← List.drop_eq_getElem_cons h, List.take_append_drop]
 rw [e]
 conv => rhs; rw [e2]
 simp only [totLn, List.map_append, List.map_cons, List.sum_append, List.sum_cons]
 omega
theorem k60_KM {w : World} {base : Nat} {ok : Nat → Prop} (x : S60) (cs : List Value) (h : k60.K w x cs) : k60.M w base ok x cs := by
 rw [k60_open h]; exact k60_mkM w base ok x
theorem take_snoc (l : List S60) (j : Nat) (h : j < l.length) : l.take (j + 1) = l.take j ++ [rd_T60 l (j : Int)] := by
 rw [List.take_succ_eq_append_getElem h]
 have : rd_T60 l (j : Int) = l[j] := by unfold rd_T60; rw [Int.toNat_natCast, List.getD_eq_getElem?_getD, List.getElem?_eq_getElem h]; rfl
 rw [this]
set_option maxHeartbeats 4000000 in
set_option maxRecDepth 100000 in
theorem lines_calls {σ : Type} (g : Nat) (caps : Array Value) (I : σ → World → Prop) (row : Option Nat) (T : S60 → Int → σ → List S60 × Int × σ) (hT : Aside0 (Turn g caps I row T)) (hE : ∀ args w, (callFunc g args).run Try.prog w = .ok (.enter g args) w) (hSh : Aside0 (Short T))
    (a0 : ByteArray) (A1 : Option Addr) (n1 c1 : Nat) (A2 : Option Addr) (c2 : Nat) (l2 : List S58) (a3 : Bool) (A4 : Option Addr) (n4 c4 : Nat) (s0 : σ) (w0 w : World)
    (hC : Kd.C k58 w0 A2 l2.length l2) (hB0 : Aside0 (Below w0.heap.size w0 w)) (hc2 : l2.length ≤ c2) (hrow : Aside0 (∀ k, row = some k → w0.heap.size ≤ k ∧ k < w.heap.size)) (hI : I s0 w) (hIk : Aside0 (∀ s W W' r, I s W → w.heap.size ≤ W.heap.size → W.grownBy W' r → (∀ k, r = some k → w.heap.size ≤ k) → I s W')) (htot : totLn l2 ≤ 1000000) (hl2 : l2.length ≤ 1000000) :
    Calls Try.prog 36 #[.agg (fileC a0 (.slice A1 n1 c1) (.slice A2 l2.length c2) a3 (.slice A4 n4 c4)), .func (.func g) #[] caps] w fun e w' => ∃ v, e = .returned (.agg (fileC a0 (.slice A1 n1 c1) v a3 (.slice A4 n4 c4))) ∧ Kd.S k58 58 w' w.heap.size (fun _ => True) v (linesF T l2 s0).1 ∧ I (linesF T l2 s0).2.2 w' ∧ w.grownBy w' row := by
  have hu1 := Try.underlying30
  have hu2 := Try.underlying58
  have hu3 := Try.underlying60
  have HC := Aside0.mk hC
  have HI := Aside0.mk hI
  unfold fileC
  obtain ⟨W1, hW1⟩ : ∃ W1, W1 = (w.alloc (.cells #[.string a0, .slice A1 n1 c1, .slice A2 l2.length c2, .bool a3, .slice A4 n4 c4] 30)).alloc (.cells #[.string ⟨#[]⟩, .slice none 0 0, .slice none 0 0, .bool false, .slice none 0 0] 30) := ⟨_, rfl⟩
  have bF : W1.heap[w.heap.size]? = some (.cells #[.string a0, .slice A1 n1 c1, .slice A2 l2.length c2, .bool a3, .slice A4 n4 c4] 30 (0, 0)) := by rw [hW1]; exact blk_alloc (blk_new w _) _
  have bR : W1.heap[w.heap.size + 1]? = some (.cells #[.string ⟨#[]⟩, .slice none 0 0, .slice none 0 0, .bool false, .slice none 0 0] 30 (0, 0)) := by
    have := blk_new (w.alloc (.cells #[.string a0, .slice A1 n1 c1, .slice A2 l2.length c2, .bool a3, .slice A4 n4 c4] 30)) (.cells #[.string ⟨#[]⟩, .slice none 0 0, .slice none 0 0, .bool false, .slice none 0 0] 30)
    rw [World.size_alloc] at this; rw [hW1]; exact this
  have hG1 : w.grownBy W1 row := by rw [hW1]; exact (World.grownBy_alloc w _ row).trans (World.grownBy_alloc _ _ row)
  have f2 : W1.cell? ⟨w.heap.size, 2, none⟩ = some (.slice A2 l2.length c2) := (blk_cell bF 2).trans rfl
  have ff := blk_frozen bF 2
  have hs1 : W1.heap.size = w.heap.size + 1 + 1 := by rw [hW1, World.size_alloc, World.size_alloc]
  have HJ0 : Aside0 (LJ w I row a0 (.slice A1 n1 c1) a3 (.slice A4 n4 c4) (fun _ => True) [] s0 (.slice none 0 0) (W1.setCell ⟨w.heap.size, 2, none⟩ (.slice none 0 0))) := Aside0.mk
    ⟨blk_set bF 2 _, blk_far bR (by show w.heap.size + 1 ≠ w.heap.size; omega) _, Kd.S_nil _ _ _ _ _, hIk.out s0 w _ (some w.heap.size) hI (Nat.le_refl _) (by rw [hW1]; exact ((World.grownBy_alloc w _ _).trans (World.grownBy_alloc _ _ _)).trans (grown_set _ _ _ _)) (fun k e => by injection e with e; omega),
     grown_more hG1 (grown_set W1 w.heap.size 2 _) (fun k e => .inl (by injection e with e; omega))⟩
  have HW1 := Aside0.mk hW1
  clear hW1 bF bR hG1 hC hI
  go_enter Try.func36, Try.ntmps36
  go_upto_region 2 with fail
  rw [← HW1.out]
  go_upto_region 5 with fail
  generalize W1.setCell ⟨w.heap.size, 2, none⟩ (.slice none 0 0) = W2 at HJ0 ⊢
  clear f2 ff hs1 HW1
  go_loopw [5, 18] (fun v5 v18 wr => ∃ i : Nat, i ≤ l2.length ∧ v18 = .int .i64 i ∧ v5 = .int .i64 ((l2.take i).foldl (thrStep T) ([], 0, s0)).2.1 ∧ Aside0 (∃ v, LJ w I row a0 (.slice A1 n1 c1) a3 (.slice A4 n4 c4) (fun _ => True) ((l2.take i).foldl (thrStep T) ([], 0, s0)).1 ((l2.take i).foldl (thrStep T) ([], 0, s0)).2.2 v wr)) (fun _ i _ => l2.length - (intOf i).toNat)
  case atStart => exact ⟨0, Nat.zero_le _, rfl, rfl, Aside0.mk ⟨_, HJ0.out⟩⟩
  case round =>
    obtain ⟨i, hi, rfl, rfl, HJ⟩ := hrel
    by_cases hlt : i < l2.length
    · have p1 : ((i : Int) < (l2.length : Int)) = True := eq_true (by omega)
      have p2 : (0 ≤ (i : Int)) = True := eq_true (by omega)
      have p3 : (i < l2.length) = True := eq_true hlt
      obtain ⟨v, J⟩ := HJ.out
      obtain ⟨ad, A0, c0, rfl, hcell0, hc0, hC0⟩ := at_T58 HC.out (i : Int) (by omega) (by omega)
      rw [Int.toNat_natCast] at hcell0
      have hcell := pw_cell_below (pw_below_grown hB0.out row hB0.out.size J.hG (fun k e => (hrow.out k e).1)) hcell0
      have hst : (l2.take (i + 1)).foldl (thrStep T) ([], 0, s0) = thrStep T ((l2.take i).foldl (thrStep T) ([], 0, s0)) (rd_T58 l2 (i : Int)) := by
        have e : l2.take (i + 1) = l2.take i ++ [rd_T58 l2 (i : Int)] := by
          rw [List.take_succ_eq_append_getElem hlt]
          have : rd_T58 l2 (i : Int) = l2[i] := by unfold rd_T58; rw [Int.toNat_natCast, List.getD_eq_getElem?_getD, List.getElem?_eq_getElem hlt]; rfl
          rw [this]
        rw [e, List.foldl_append]; rfl
      have hsh := (lines_short hSh.out (l2.take i) ([], 0, s0)).2
      have hlen0 := (lines_short hSh.out (l2.take i) ([], 0, s0)).1
      have htk := tot_take l2 i hlt
      simp only [List.length_take, List.length_nil] at hsh hlen0
      have HL0 := Aside0.mk hlen0
      clear hlen0
      have HST := Aside0.mk hst
      have HJJ := Aside0.mk J
      have HC0 := Aside0.mk hC0
      have HLT := Aside0.mk hlt
      clear J hC0 HJ hst hlt hcell0
      generalize (l2.take i).foldl (thrStep T) ([], 0, s0) = st at *
      generalize rd_T58 l2 (i : Int) = t at *
      go_upto_region 9 with fail
      have hlen : t.f0.length ≤ 1000000 := by omega
      have HJ3 : Aside0 (LJ w I row a0 (.slice A1 n1 c1) a3 (.slice A4 n4 c4) (fun k => some k ≠ (Value.slice none 0 0).ownBlock) st.1 st.2.2 v (wr.alloc (.cells #[.slice A0 t.f0.length c0] 58))) := Aside0.mk
        (by have h := HJJ.out.alloc (.cells #[.slice A0 t.f0.length c0] 58) hIk.out
            exact ⟨h.bF, h.bR, Kd.S_mono h.hS (fun k _ => by simp [Value.ownBlock]), h.hI, h.hG⟩)
      have B3 : Aside0 ((wr.alloc (.cells #[.slice A0 t.f0.length c0] 58)).heap[wr.heap.size]? = some (.cells #[.slice A0 t.f0.length c0] 58 (0, 0))) := Aside0.mk (blk_new _ _)
      generalize wr.alloc (.cells #[.slice A0 t.f0.length c0] 58) = W3 at HJ3 B3 ⊢
      generalize wr.heap.size = b8 at B3 ⊢
      go_loopw [5, 9, 25] (fun v5 v9 v25 wi => ∃ j : Nat, j ≤ t.f0.length ∧ v25 = .int .i64 j ∧ v5 = .int .i64 ((t.f0.take j).foldl (lineStep T) ([], st.2.1, st.2.2)).2.1 ∧ Aside0 (LJ w I row a0 (.slice A1 n1 c1) a3 (.slice A4 n4 c4) (fun k => some k ≠ v9.ownBlock) st.1 ((t.f0.take j).foldl (lineStep T) ([], st.2.1, st.2.2)).2.2 v wi ∧ Kd.R k60 60 wi w.heap.size (fun _ => True) v9 ((t.f0.take j).foldl (lineStep T) ([], st.2.1, st.2.2)).1)) (fun _ _ j _ => t.f0.length - (intOf j).toNat)
      case atStart => exact ⟨0, Nat.zero_le _, rfl, rfl, Aside0.mk ⟨HJ3.out, Kd.R_nil _ _ _ _ _⟩⟩
      case round =>
        obtain ⟨j, hj, rfl, rfl, HK⟩ := hrel
        by_cases hjl : j < t.f0.length
        · have p4 : ((j : Int) < (t.f0.length : Int)) = True := eq_true (by omega)
          have p5 : (0 ≤ (j : Int)) = True := eq_true (by omega)
          have p6 : (j < t.f0.length) = True := eq_true hjl
          obtain ⟨hK1, hK2⟩ := HK.out
          have HBi : Aside0 (Below w0.heap.size w0 wr) := Aside0.mk (pw_below_grown hB0.out row hB0.out.size hK1.hG (fun k e => (hrow.out k e).1))
          obtain ⟨ad2, rfl, y0, y1, y2, y3, y4⟩ := at_T60 (Kd.C_below HC0.out HBi.out) (j : Int) (by omega) (by omega)
          have hst2 : (t.f0.take (j + 1)).foldl (lineStep T) ([], st.2.1, st.2.2) = lineStep T ((t.f0.take j).foldl (lineStep T) ([], st.2.1, st.2.2)) (rd_T60 t.f0 (j : Int)) := by
            rw [take_snoc t.f0 j hjl, List.foldl_append]; rfl
          have hsh2 := thr_short hSh.out (t.f0.take j) ([], st.2.1, st.2.2)
          simp only [List.length_take, List.length_nil] at hsh2
          have HST2 := Aside0.mk hst2
          have HK1 := Aside0.mk hK1
          have HK2 := Aside0.mk hK2
          have HJL := Aside0.mk hjl
          clear hK1 hK2 HK hst2 hjl
          generalize (t.f0.take j).foldl (lineStep T) ([], st.2.1, st.2.2) = q at *
          rw [Int.toNat_natCast] at y0 y1 y2 y3 y4
          generalize rd_T60 t.f0 (j : Int) = x at *
          go_upto_region 11 with fail
          obtain ⟨W4, hW4⟩ : ∃ W4, W4 = wr.alloc (.cells #[.int .i64 x.f0, .string x.f1, .string x.f2, .string x.f3, .int .i64 x.f4] 60) := ⟨_, rfl⟩
          have b4 : W4.heap[wr.heap.size]? = some (.cells #[.int .i64 x.f0, .string x.f1, .string x.f2, .string x.f3, .int .i64 x.f4] 60 (0, 0)) := by rw [hW4]; exact blk_new _ _
          have HJ4 := Aside0.mk (HK1.out.alloc (.cells #[.int .i64 x.f0, .string x.f1, .string x.f2, .string x.f3, .int .i64 x.f4] 60) hIk.out)
          have HR4 := Aside0.mk (Kd.R_alloc HK2.out (.cells #[.int .i64 x.f0, .string x.f1, .string x.f2, .string x.f3, .int .i64 x.f4] 60))
          rw [← hW4] at HJ4 HR4
          rw [← hW4]
          generalize wr.heap.size = b11 at b4 ⊢
          have z0 : W4.cell? ⟨b11, 0, none⟩ = some (.int .i64 x.f0) := (blk_cell b4 0).trans rfl
          have z1 : W4.cell? ⟨b11, 1, none⟩ = some (.string x.f1) := (blk_cell b4 1).trans rfl
          have z2 : W4.cell? ⟨b11, 2, none⟩ = some (.string x.f2) := (blk_cell b4 2).trans rfl
          have z3 : W4.cell? ⟨b11, 3, none⟩ = some (.string x.f3) := (blk_cell b4 3).trans rfl
          have z4 : W4.cell? ⟨b11, 4, none⟩ = some (.int .i64 x.f4) := (blk_cell b4 4).trans rfl
          have B4 := Aside0.mk b4
          clear hW4 b4 y0 y1 y2 y3 y4 HK1 HK2
          go_upto_region 12 with fail
          obtain ⟨W5, hW5⟩ : ∃ W5, W5 = W4.alloc (.cells #[.int .i64 x.f0, .string x.f1, .string x.f2, .string x.f3, .int .i64 x.f4] 60) := ⟨_, rfl⟩
          have HJ5 := Aside0.mk (HJ4.out.alloc (.cells #[.int .i64 x.f0, .string x.f1, .string x.f2, .string x.f3, .int .i64 x.f4] 60) hIk.out)
          have HR5 := Aside0.mk (Kd.R_alloc HR4.out (.cells #[.int .i64 x.f0, .string x.f1, .string x.f2, .string x.f3, .int .i64 x.f4] 60))
          have b5 := blk_alloc B4.out (.cells #[.int .i64 x.f0, .string x.f1, .string x.f2, .string x.f3, .int .i64 x.f4] 60)
          have HN5 := Aside0.mk (row_new k60 60 W4 w.heap.size HJ4.out.hG.size [x] _ (reps_sing (k60_mkM W4 w.heap.size (fun _ => False) x) rfl) (by simp))
          rw [← hW5] at HJ5 HR5 b5
          rw [show (W4.alloc (.cells (List.toArray [Value.int .i64 x.f0, .string x.f1, .string x.f2, .string x.f3, .int .i64 x.f4]) 60)) = W5 from hW5.symm] at HN5
          rw [← hW5]
          have B5 := Aside0.mk b5
          clear z0 z1 z2 z3 z4 hW5 b5
          have z0 : W5.cell? ⟨b11, 0, none⟩ = some (.int .i64 x.f0) := (blk_cell B5.out 0).trans rfl
          have z1 : W5.cell? ⟨b11, 1, none⟩ = some (.string x.f1) := (blk_cell B5.out 1).trans rfl
          have z2 : W5.cell? ⟨b11, 2, none⟩ = some (.string x.f2) := (blk_cell B5.out 2).trans rfl
          have z3 : W5.cell? ⟨b11, 3, none⟩ = some (.string x.f3) := (blk_cell B5.out 3).trans rfl
          have z4 : W5.cell? ⟨b11, 4, none⟩ = some (.int .i64 x.f4) := (blk_cell B5.out 4).trans rfl
          generalize W4.heap.size = b12 at HN5 ⊢
          by_cases c11 : x.f0 = 11
          · have e11 : lineStep T q x = (q.1 ++ [x], q.2.1, q.2.2) := by unfold lineStep; rw [if_pos c11]
            have q1 : (x.f0 != 11) = false := by simp [c11]
            go_wp2_with ((with_reducible refine gate_builtin (b := .append) (xs := #[.tmp 41, .tmp 42]) rfl ?_); at_builtin; refine Kd.R_append_rows k60 (Rr := k60.K W5) (w0 := W5) w.heap.size rfl (.tmp 41) (.tmp 42) 56 60 _ 64 rfl Try.underlying56 info60 rfl (by decide) (by omega) u9 q.1 [x] _ _ _ (fun _ => True) (fun _ => False) rfl rfl HR5.out (Kd.R_reads' HN5.out).2.2 k60_KM (fun _ h => h.elim) (fun _ _ => trivial) (Below.refl _ _) HJ5.out.hG.size (by omega) ?_; intro u1 w1 hu hbw hgw hatw)
            go_roundw
            case rel => exact ⟨j + 1, HJL.out, by simp, by rw [HST2.out, e11], Aside0.mk (by rw [HST2.out, e11]; exact ⟨HJ5.out.grew HR5.out hgw hatw hIk.out, hu⟩)⟩
            case measure => have := HJL.out; simp [intOf]; omega
          · have e11 : lineStep T q x = (q.1 ++ (T x q.2.1 q.2.2).1, (T x q.2.1 q.2.2).2.1, (T x q.2.1 q.2.2).2.2) := by unfold lineStep; rw [if_neg c11]
            have q1 : (x.f0 != 11) = true := by simp [c11]
            have hTs := hSh.out x q.2.1 q.2.2
            go_wp2_with fail
            refine (hT.out x q.2.1 q.2.2 W5 ⟨by omega, by omega⟩ HJ5.out.hI).mono ?_
            rintro e w6 ⟨vr, rfl, hR6, hI6, hg6⟩
            obtain ⟨Am, cm, rfl⟩ := Kd.R_slice hR6
            have hrw : ∀ k, row = some k → k < w.heap.size := fun k e => (hrow.out k e).2
            have HJ6 := Aside0.mk (HJ5.out.turn hg6 hrw hI6)
            have HR6 := Aside0.mk (R_old HR5.out hg6 hrw)
            have HN6 := Aside0.mk hR6
            clear hR6 hI6 hg6 z0 z1 z2 z3 z4 HJ5 HR5 HN5 B5 B4 HJ4 HR4
            go_wp2_with ((with_reducible refine gate_builtin (b := .append) (xs := #[.tmp 41, .tmp 42]) rfl ?_); at_builtin; refine Kd.R_append_rows k60 (Rr := k60.K w6) (w0 := w6) w.heap.size rfl (.tmp 41) (.tmp 42) 56 60 _ 64 rfl Try.underlying56 info60 rfl (by decide) (by omega) u9 q.1 (T x q.2.1 q.2.2).1 _ _ _ (fun _ => True) (fun _ => False) rfl rfl HR6.out (Kd.R_reads' HN6.out).2.2 k60_KM (fun _ h => h.elim) (fun _ _ => trivial) (Below.refl _ _) HJ6.out.hG.size (by omega) ?_; intro u1 w1 hu hbw hgw hatw)
            go_roundw
            case rel => exact ⟨j + 1, HJL.out, by simp, by rw [HST2.out, e11], Aside0.mk (by rw [HST2.out, e11]; exact ⟨HJ6.out.grew HR6.out hgw hatw hIk.out, hu⟩)⟩
            case measure => have := HJL.out; simp [intOf]; omega
        · obtain rfl : j = t.f0.length := by omega
          obtain ⟨hK1, hK2⟩ := HK.out
          have p4 : ((t.f0.length : Int) < (t.f0.length : Int)) = False := eq_false (by omega)
          rw [List.take_length] at hK1 hK2
          have hth : thrStep T st t = (st.1 ++ [⟨(t.f0.foldl (lineStep T) ([], st.2.1, st.2.2)).1⟩], (t.f0.foldl (lineStep T) ([], st.2.1, st.2.2)).2.1, (t.f0.foldl (lineStep T) ([], st.2.1, st.2.2)).2.2) := rfl
          rw [List.take_length]
          clear HK HJ3 HJJ
          generalize t.f0.foldl (lineStep T) ([], st.2.1, st.2.2) = q at *
          obtain ⟨A9, c9, rfl⟩ := Kd.R_slice hK2
          obtain ⟨Av, cv, rfl⟩ := Kd.S_slice hK1.hS
          have f2 : wr.cell? ⟨w.heap.size, 2, none⟩ = some (.slice Av st.1.length cv) := (blk_cell hK1.bF 2).trans rfl
          have HK1 := Aside0.mk hK1
          have HK2 := Aside0.mk hK2
          have HTH := Aside0.mk hth
          have hbl : (st.1.length + 1) * 24 ≤ 140737488355328 := by have := HL0.out; omega
          clear hK1 hK2 hth
          go_wp2_with ((with_reducible refine gate_builtin (b := .append) (xs := #[.tmp 46, .tmp 49]) rfl ?_); at_builtin; refine Kd.S_append k58 (w0 := wr) (W := wr) w.heap.size rfl (.tmp 46) (.tmp 49) 27 58 _ 24 rfl Try.underlying27 info58 rfl (by decide) (by omega) (.slice Av st.1.length cv) st.1 ⟨q.1⟩ [.slice A9 q.1.length c9] (fun _ => True) (fun k => some k = (Value.slice A9 q.1.length c9).ownBlock) rfl rfl (k58_mkM wr w.heap.size _ ⟨q.1⟩ (Kd.R_tight rfl HK2.out)) (fun k hk => ⟨trivial, fun e => by obtain ⟨ca, ha⟩ := Kd.R_typed HK2.out k hk.symm; obtain ⟨cb, hb⟩ := Kd.S_typed HK1.out.hS k e.symm; rw [ha] at hb; injection hb with hb; injection hb with _ hb; exact absurd hb (by decide)⟩) (fun _ _ => trivial) (Kd.S_mono HK1.out.hS (fun k hk => ⟨trivial, hk⟩)) (Below.refl _ _) HK1.out.hG.size hbl ?_; intro u1 w1 hu hbw hgw hatw; obtain ⟨Au, cu, rfl⟩ := Kd.S_slice hu; have bF1 := blk_grown HK1.out.bF hgw (fun e => by obtain ⟨cb, hb⟩ := Kd.S_typed HK1.out.hS _ e.symm; rw [HK1.out.bF] at hb; injection hb with hb; injection hb with _ hb; exact absurd hb (by decide)); have ff1 := blk_frozen bF1 2; have cF1 : w1.cell? ⟨w.heap.size, 2, none⟩ = some (.slice Av st.1.length cv) := (blk_cell bF1 2).trans rfl)
          have hfa : ∀ k, (Value.slice Av st.1.length cv).ownBlock = some k → w.heap.size ≤ k := fun k e => Kd.S_base HK1.out.hS k e
          have hG1 : w.grownBy w1 row := grown_more HK1.out.hG hgw (fun k e => .inl (hfa k e))
          have bR1 := blk_grown HK1.out.bR hgw (fun e => by obtain ⟨cb, hb⟩ := Kd.S_typed HK1.out.hS _ e.symm; rw [HK1.out.bR] at hb; injection hb with hb; injection hb with _ hb; exact absurd hb (by decide))
          have hI1 := hIk.out _ _ w1 _ HK1.out.hI HK1.out.hG.size hgw hfa
          have HJN : Aside0 (LJ w I row a0 (.slice A1 n1 c1) a3 (.slice A4 n4 c4) (fun _ => True) (st.1 ++ [⟨q.1⟩]) q.2.2 (.slice Au (st.1 ++ [(⟨q.1⟩ : S58)]).length cu) (w1.setCell ⟨w.heap.size, 2, none⟩ (.slice Au (st.1 ++ [(⟨q.1⟩ : S58)]).length cu))) := Aside0.mk
            ⟨blk_set bF1 2 _, blk_far bR1 (by show w.heap.size + 1 ≠ w.heap.size; omega) _, Kd.S_set hu bF1 (by intro q' hq'; have hq2 : q' ∈ ([58, 60] : List Nat) := hq'; simp at hq2; rcases hq2 with rfl | rfl <;> decide) 2 _, hIk.out _ _ _ (some w.heap.size) hI1 hG1.size (grown_set w1 w.heap.size 2 _) (fun k e => by injection e with e; omega),
             grown_more hG1 (grown_set w1 w.heap.size 2 _) (fun k e => .inl (by injection e with e; omega))⟩
          clear bF1 ff1 cF1 hu hbw hgw hatw hG1 bR1 hI1 hfa
          go_roundw
          case rel => exact ⟨i + 1, HLT.out, by simp, by rw [HST.out, HTH.out], Aside0.mk ⟨_, by rw [HST.out, HTH.out]; have h := HJN.out; simp only [List.length_append, List.length_cons, List.length_nil, Nat.zero_add] at h; exact h⟩⟩
          case measure => have := HLT.out; simp [intOf]; omega
    · obtain rfl : i = l2.length := by omega
      have p1 : ((l2.length : Int) < (l2.length : Int)) = False := eq_false (by omega)
      obtain ⟨v, J⟩ := HJ.out
      rw [List.take_length] at J
      have hfin : linesF T l2 s0 = l2.foldl (thrStep T) ([], 0, s0) := rfl
      rw [List.take_length]
      obtain ⟨Av, cv, rfl⟩ := Kd.S_slice J.hS
      have d0 : wr.cell? ⟨w.heap.size, 0, none⟩ = some (.string a0) := (blk_cell J.bF 0).trans rfl
      have d1 : wr.cell? ⟨w.heap.size, 1, none⟩ = some (.slice A1 n1 c1) := (blk_cell J.bF 1).trans rfl
      have d2 : wr.cell? ⟨w.heap.size, 2, none⟩ = some (.slice Av (l2.foldl (thrStep T) ([], 0, s0)).1.length cv) := (blk_cell J.bF 2).trans rfl
      have d3 : wr.cell? ⟨w.heap.size, 3, none⟩ = some (.bool a3) := (blk_cell J.bF 3).trans rfl
      have d4 : wr.cell? ⟨w.heap.size, 4, none⟩ = some (.slice A4 n4 c4) := (blk_cell J.bF 4).trans rfl
      have r0 : wr.cell? ⟨w.heap.size + 1, 0, none⟩ = some (.string ⟨#[]⟩) := (blk_cell J.bR 0).trans rfl
      have r1 : wr.cell? ⟨w.heap.size + 1, 1, none⟩ = some (.slice none 0 0) := (blk_cell J.bR 1).trans rfl
      have r2 : wr.cell? ⟨w.heap.size + 1, 2, none⟩ = some (.slice none 0 0) := (blk_cell J.bR 2).trans rfl
      have r3 : wr.cell? ⟨w.heap.size + 1, 3, none⟩ = some (.bool false) := (blk_cell J.bR 3).trans rfl
      have r4 : wr.cell? ⟨w.heap.size + 1, 4, none⟩ = some (.slice none 0 0) := (blk_cell J.bR 4).trans rfl
      have rf0 := blk_frozen J.bR 0
      have rf1 := blk_frozen J.bR 1
      have rf2 := blk_frozen J.bR 2
      have rf3 := blk_frozen J.bR 3
      have rf4 := blk_frozen J.bR 4
      have JJ := Aside0.mk J
      clear J HJ HJ0
      rw [← hfin] at d2 JJ
      clear hfin
      go_wp2_with fail
      have e0 : ((((((wr.setCell ⟨w.heap.size + 1, 0, none⟩ (.string a0)).setCell ⟨w.heap.size + 1, 1, none⟩ (.slice A1 n1 c1)).setCell ⟨w.heap.size + 1, 2, none⟩ (.slice Av (linesF T l2 s0).1.length cv)).setCell ⟨w.heap.size + 1, 3, none⟩ (.bool a3)).setCell ⟨w.heap.size + 1, 4, none⟩ (.slice A4 n4 c4))).cell? ⟨w.heap.size + 1, 0, none⟩ = some (.string a0) := (blk_cell (blk_set (blk_set (blk_set (blk_set (blk_set JJ.out.bR 0 _) 1 _) 2 _) 3 _) 4 _) 0).trans rfl
      have e1 : ((((((wr.setCell ⟨w.heap.size + 1, 0, none⟩ (.string a0)).setCell ⟨w.heap.size + 1, 1, none⟩ (.slice A1 n1 c1)).setCell ⟨w.heap.size + 1, 2, none⟩ (.slice Av (linesF T l2 s0).1.length cv)).setCell ⟨w.heap.size + 1, 3, none⟩ (.bool a3)).setCell ⟨w.heap.size + 1, 4, none⟩ (.slice A4 n4 c4))).cell? ⟨w.heap.size + 1, 1, none⟩ = some (.slice A1 n1 c1) := (blk_cell (blk_set (blk_set (blk_set (blk_set (blk_set JJ.out.bR 0 _) 1 _) 2 _) 3 _) 4 _) 1).trans rfl
      have e2 : ((((((wr.setCell ⟨w.heap.size + 1, 0, none⟩ (.string a0)).setCell ⟨w.heap.size + 1, 1, none⟩ (.slice A1 n1 c1)).setCell ⟨w.heap.size + 1, 2, none⟩ (.slice Av (linesF T l2 s0).1.length cv)).setCell ⟨w.heap.size + 1, 3, none⟩ (.bool a3)).setCell ⟨w.heap.size + 1, 4, none⟩ (.slice A4 n4 c4))).cell? ⟨w.heap.size + 1, 2, none⟩ = some (.slice Av (linesF T l2 s0).1.length cv) := (blk_cell (blk_set (blk_set (blk_set (blk_set (blk_set JJ.out.bR 0 _) 1 _) 2 _) 3 _) 4 _) 2).trans rfl
      have e3 : ((((((wr.setCell ⟨w.heap.size + 1, 0, none⟩ (.string a0)).setCell ⟨w.heap.size + 1, 1, none⟩ (.slice A1 n1 c1)).setCell ⟨w.heap.size + 1, 2, none⟩ (.slice Av (linesF T l2 s0).1.length cv)).setCell ⟨w.heap.size + 1, 3, none⟩ (.bool a3)).setCell ⟨w.heap.size + 1, 4, none⟩ (.slice A4 n4 c4))).cell? ⟨w.heap.size + 1, 3, none⟩ = some (.bool a3) := (blk_cell (blk_set (blk_set (blk_set (blk_set (blk_set JJ.out.bR 0 _) 1 _) 2 _) 3 _) 4 _) 3).trans rfl
      have e4 : ((((((wr.setCell ⟨w.heap.size + 1, 0, none⟩ (.string a0)).setCell ⟨w.heap.size + 1, 1, none⟩ (.slice A1 n1 c1)).setCell ⟨w.heap.size + 1, 2, none⟩ (.slice Av (linesF T l2 s0).1.length cv)).setCell ⟨w.heap.size + 1, 3, none⟩ (.bool a3)).setCell ⟨w.heap.size + 1, 4, none⟩ (.slice A4 n4 c4))).cell? ⟨w.heap.size + 1, 4, none⟩ = some (.slice A4 n4 c4) := (blk_cell (blk_set (blk_set (blk_set (blk_set (blk_set JJ.out.bR 0 _) 1 _) 2 _) 3 _) 4 _) 4).trans rfl
      have hty : ∀ q', q' ∈ 58 :: k58.E → q' ≠ 30 := by
        intro q' hq'; have hq2 : q' ∈ ([58, 60] : List Nat) := hq'; simp at hq2; rcases hq2 with rfl | rfl <;> decide
      have hG : wr.grownBy (((((wr.setCell ⟨w.heap.size + 1, 0, none⟩ (.string a0)).setCell ⟨w.heap.size + 1, 1, none⟩ (.slice A1 n1 c1)).setCell ⟨w.heap.size + 1, 2, none⟩ (.slice Av (linesF T l2 s0).1.length cv)).setCell ⟨w.heap.size + 1, 3, none⟩ (.bool a3)).setCell ⟨w.heap.size + 1, 4, none⟩ (.slice A4 n4 c4)) (some (w.heap.size + 1)) := (((((grown_set wr (w.heap.size + 1) 0 _).trans (grown_set _ _ 1 _)).trans (grown_set _ _ 2 _)).trans (grown_set _ _ 3 _)).trans (grown_set _ _ 4 _))
      refine bodyPost_ret (v := .agg #[.string a0, .slice A1 n1 c1, .slice Av (linesF T l2 s0).1.length cv, .bool a3, .slice A4 n4 c4]) (by simp [results, Try.results36, go_sem, e0, e1, e2, e3, e4]) rfl ⟨_, rfl, (Kd.S_set (Kd.S_set (Kd.S_set (Kd.S_set (Kd.S_set JJ.out.hS JJ.out.bR hty 0 _) (blk_set JJ.out.bR 0 _) hty 1 _) (blk_set (blk_set JJ.out.bR 0 _) 1 _) hty 2 _) (blk_set (blk_set (blk_set JJ.out.bR 0 _) 1 _) 2 _) hty 3 _) (blk_set (blk_set (blk_set (blk_set JJ.out.bR 0 _) 1 _) 2 _) 3 _) hty 4 _), hIk.out _ _ _ (some (w.heap.size + 1)) JJ.out.hI JJ.out.hG.size hG (fun k e => by injection e with e; omega), grown_more JJ.out.hG hG (fun k e => .inl (by injection e with e; omega))⟩
end Go.Proofs.Ytijpfonbeepmfaa.Print
