/- What holds between two rounds of sc.own's loop, and how a round keeps it: no walk. -/
import Derived.Test.YtdliojcpnkggnaaHScClone
namespace Go.Proofs.Ytdliojcpnkggnaa.Print
open Go.RowKit Go.Proofs.YtdliojcpnkggnaaW.PrintWords Go.Proofs.YtdliojcpnkggnaaW.PrintLast Go.Proofs.YtdliojcpnkggnaaW.PrintMore
set_option linter.unusedVariables false
set_option linter.unusedSimpArgs false
/-- Between two rounds of own's loop: the first t threads have rows of their own. -/
structure OInv (w : World) (l0 : List Int) (l1 : List S45) (rows : List (List Value)) (gO : Nat) (vm vt : Value) (t : Nat) (W : World) : Prop where
  out : W.heap[gO]? = some (.cells #[vm, vt] 28 (0, 0))
  ge : w.heap.size ≤ gO
  res : W.heap[w.heap.size + 1]? = some (.cells #[.slice none 0 0, .slice none 0 0] 28 (0, 0))
  mem : Kd.R (Kd.int .i64) 3 W w.heap.size (fun _ => True) vm l0
  ths : ∃ rws : List (List Value), rws.length = l1.length ∧ Kd.R (Kd.raw 4) 45 W w.heap.size (fun _ => True) vt rws ∧ (∀ j : Nat, t ≤ j → rws[j]? = rows[j]?) ∧
    ∃ f : Nat → Nat, ∀ (j : Nat) (x : S45) (c : List Value), j < t → l1[j]? = some x → rws[j]? = some c → k45.M W w.heap.size (fun k => f k = j ∧ some k ≠ vt.ownBlock ∧ some k ≠ vm.ownBlock) x c
  bel : Below w.heap.size w W
theorem OInv.below {w W W' : World} {l0 : List Int} {l1 : List S45} {rows : List (List Value)} {gO t : Nat} {vm vt : Value} (h : OInv w l0 l1 rows gO vm vt t W) (hb : Below W.heap.size W W') : OInv w l0 l1 rows gO vm vt t W' := by
  obtain ⟨h1, h2, h3, h4, ⟨rws, h5, h6, h7, f, h8⟩, h9⟩ := h
  exact ⟨blk_below h1 hb, h2, blk_below h3 hb, Kd.R_below h4 hb, ⟨rws, h5, Kd.R_below h6 hb, h7, f, fun j x c hj hx hc => Kd.M_below (h8 j x c hj hx hc) hb⟩, below_step h9 hb⟩
theorem types_ne {W : World} {a b t u : Nat} {ca cb : Array Value} (ha : W.heap[a]? = some (.cells ca t (0, 0))) (hb : W.heap[b]? = some (.cells cb u (0, 0))) (h : t ≠ u) : a ≠ b := by
  intro e
  subst e
  rw [ha] at hb
  injection hb with hb
  injection hb with _ hb
  exact h hb
theorem OInv.apart {w W : World} {l0 : List Int} {l1 : List S45} {rows : List (List Value)} {gO t : Nat} {vm vt : Value} (h : OInv w l0 l1 rows gO vm vt t W) : ∀ k, vt.ownBlock = some k → some k ≠ vm.ownBlock := by
  intro k hk e
  obtain ⟨rws, _, hR, _⟩ := h.ths
  obtain ⟨ca, ha⟩ := Kd.R_typed hR k hk
  obtain ⟨cb, hb⟩ := Kd.R_typed h.mem k e.symm
  exact types_ne ha hb (by decide) rfl
theorem OInv.done {w W : World} {l0 : List Int} {l1 : List S45} {rows : List (List Value)} {gO : Nat} {vm vt : Value} (h : OInv w l0 l1 rows gO vm vt l1.length W) : Kd.S k45 45 W w.heap.size (fun k => some k ≠ vm.ownBlock) vt l1 := by
  have hap := h.apart
  obtain ⟨rws, hrl, ⟨_, inner, ho, hr⟩, _, f, hf⟩ := h.ths
  refine ⟨f, hap, inner, by rw [List.length_zipIdx, ← hrl]; exact ho, by rw [List.length_zipIdx, ← hrl]; exact hr.1, fun j p hj => ?_⟩
  rw [List.getElem?_zipIdx, Nat.zero_add] at hj
  cases hx : l1[j]? with
  | none => rw [hx] at hj; simp at hj
  | some x =>
    rw [hx] at hj
    simp only [Option.map_some, Option.some.injEq] at hj
    subst hj
    have hlt : j < l1.length := (List.getElem?_eq_some_iff.1 hx).1
    have hc : rws[j]? = some (rws[j]'(by omega)) := List.getElem?_eq_getElem (by omega)
    have h1 := hr.2 j _ hc
    have h2 := hf j x _ hlt hx hc
    rw [← h1.1] at h2
    exact k45.M_mono (fun k hk => ⟨⟨hk.2.2, hk.2.1⟩, hk.1⟩) h2
theorem OInv.next {w W3 W4 : World} {l0 : List Int} {l1 : List S45} {rows : List (List Value)} {gO t g n cap : Nat} {vm v1 v3 : Value} {x : S45} {s1 s3 : Value} (h : OInv w l0 l1 rows gO vm (.slice (some ⟨g, 0, none⟩) n cap) t W3) (hb : Below W3.heap.size W3 W4)
    (h1 : Kd.R (Kd.int .i64) 3 W4 W3.heap.size (fun _ => True) v1 x.f1) (h3 : Kd.R k53 53 W4 W3.heap.size (fun _ => True) v3 x.f3) (hx : l1[t]? = some x) (hrow : rows[t]? = some [.int .i64 x.f0, s1, .bool x.f2, s3]) (hn : n = l1.length) :
    OInv w l0 l1 rows gO vm (.slice (some ⟨g, 0, none⟩) n cap) (t + 1) ((W4.setCell ⟨g, t * 4 + 1, none⟩ v1).setCell ⟨g, t * 4 + 3, none⟩ v3) := by
  have hg : (Value.slice (some ⟨g, 0, none⟩) n cap).ownBlock = some g := by simp [Value.ownBlock]
  have h4 := h.below hb
  obtain ⟨rws, hrl, hR, hrest, f, hf⟩ := h.ths
  have hR4 := Kd.R_below hR hb
  obtain ⟨cells, hcells⟩ := Kd.R_typed hR4 g hg
  have htl : t < l1.length := (List.getElem?_eq_some_iff.1 hx).1
  have hrt : rws[t]? = some [.int .i64 x.f0, s1, .bool x.f2, s3] := (hrest t (Nat.le_refl _)).trans hrow
  have hcl : ([.int .i64 x.f0, s1, .bool x.f2, s3] : List Value).length = 4 := rfl
  -- the cells of element t
  obtain ⟨c, hc4, hM, hcc⟩ := Kd.R_getA hR4 [] (t : Int) (by omega) (by omega)
  rw [List.getD_eq_getElem?_getD, show ((t : Int)).toNat = t by omega, hrt] at hM
  simp only [Option.getD_some] at hM
  obtain ⟨rfl, _, hone⟩ := hM
  have hcc' : ∀ (j : Nat) (u : Value), ([.int .i64 x.f0, s1, .bool x.f2, s3] : List Value)[j]? = some u → W4.cell? ⟨g, (t : Int).toNat * (Kd.raw 4).sz + j, none⟩ = some u := fun j u hu => by
    have := hcc j u hu
    rwa [add_at, Nat.zero_add] at this
  have hv1 : v1.oneCell' = true := (Kd.R_val h1).2
  have hv3 : v3.oneCell' = true := (Kd.R_val h3).2
  have hs1 : s1.oneCell' = true := hone s1 (by simp)
  have hs3 : s3.oneCell' = true := hone s3 (by simp)
  have st1 := Kd.R_seg (okp := fun _ => False) hR4 (t : Int) (by omega) (by omega) (c := [.int .i64 x.f0, s1, .bool x.f2, s3]) (seg := [v1]) (j := 1) rfl hcc' (show 1 + 1 ≤ 4 by decide) (x' := [.int .i64 x.f0, v1, .bool x.f2, s3]) ⟨rfl, rfl, by intro u hu; simp at hu; rcases hu with rfl | rfl | rfl | rfl <;> first | rfl | assumption⟩ (fun _ hk => hk.elim)
  obtain ⟨hR5, hg5⟩ := st1
  have e5 : W4.setCells g ((t : Int).toNat * (Kd.raw 4).sz + 1) [v1] = W4.setCell ⟨g, t * 4 + 1, none⟩ v1 := by
    rw [show ((t : Int)).toNat = t by omega]; rfl
  rw [e5] at hR5 hg5
  have hcc5 : ∀ (j : Nat) (u : Value), ([.int .i64 x.f0, v1, .bool x.f2, s3] : List Value)[j]? = some u → (W4.setCell ⟨g, t * 4 + 1, none⟩ v1).cell? ⟨g, (t : Int).toNat * (Kd.raw 4).sz + j, none⟩ = some u := fun j u hu => by
    obtain ⟨c', hc', hM', hcc'⟩ := Kd.R_getA hR5 [] (t : Int) (by omega) (by omega)
    rw [List.getD_eq_getElem?_getD, show ((t : Int)).toNat = t by omega, List.getElem?_set_self (by omega)] at hM'
    simp only [Option.getD_some] at hM'
    obtain ⟨rfl, _, _⟩ := hM'
    have := hcc' j u hu
    rwa [add_at, Nat.zero_add] at this
  have st3 := Kd.R_seg (okp := fun _ => False) hR5 (t : Int) (by omega) (by omega) (c := [.int .i64 x.f0, v1, .bool x.f2, s3]) (seg := [v3]) (j := 3) rfl hcc5 (show 3 + 1 ≤ 4 by decide) (x' := [.int .i64 x.f0, v1, .bool x.f2, v3]) ⟨rfl, rfl, by intro u hu; simp at hu; rcases hu with rfl | rfl | rfl | rfl <;> first | rfl | assumption⟩ (fun _ hk => hk.elim)
  obtain ⟨hR6, hg6⟩ := st3
  have e6 : (W4.setCell ⟨g, t * 4 + 1, none⟩ v1).setCells g ((t : Int).toNat * (Kd.raw 4).sz + 3) [v3] = (W4.setCell ⟨g, t * 4 + 1, none⟩ v1).setCell ⟨g, t * 4 + 3, none⟩ v3 := by
    rw [show ((t : Int)).toNat = t by omega]; rfl
  rw [e6] at hR6
  have hfar : ∀ k, k ≠ g → ((W4.setCell ⟨g, t * 4 + 1, none⟩ v1).setCell ⟨g, t * 4 + 3, none⟩ v3).heap[k]? = W4.heap[k]? := fun k hk => (Below.heap_setCell _ ⟨g, t * 4 + 3, none⟩ v3 k hk).trans (Below.heap_setCell W4 ⟨g, t * 4 + 1, none⟩ v1 k hk)
  have hgO : gO ≠ g := types_ne h4.out hcells (by decide)
  have hres : w.heap.size + 1 ≠ g := types_ne h4.res hcells (by decide)
  have hgw : w.heap.size ≤ g := Kd.R_base hR g hg
  have hglt : g < W3.heap.size := Kd.R_lt hR g hg
  have hmlt := Kd.R_lt h.mem
  have hmove : ∀ {j : Nat} {y : S45} {c : List Value} {ok : Nat → Prop}, (∀ k, ok k → k ≠ g) → k45.M W4 w.heap.size ok y c → k45.M ((W4.setCell ⟨g, t * 4 + 1, none⟩ v1).setCell ⟨g, t * 4 + 3, none⟩ v3) w.heap.size ok y c := fun hok hM => k45.M_move (fun k hk => hfar k (hok k hk)) hM
  refine ⟨(hfar gO hgO).trans h4.out, h.ge, (hfar _ hres).trans h4.res, ?_, ⟨_, ?_, hR6, ?_, fun k => if W3.heap.size ≤ k then t else f k, ?_⟩, below_set (below_set h4.bel hgw) hgw⟩
  · exact Kd.R_set (Kd.R_set h4.mem hcells (by decide) _ _) (blk_set hcells _ _) (by decide) _ _
  · rw [List.length_set, List.length_set, hrl]
  · intro j hj
    rw [List.getElem?_set_ne (by omega), List.getElem?_set_ne (by omega)]
    exact hrest j (by omega)
  · intro j y c hj hy hc
    rw [hg]
    by_cases e : j = t
    · subst e
      rw [hx] at hy
      obtain rfl := Option.some.inj hy
      rw [show ((j : Int)).toNat = j by omega, List.getElem?_set_self (by rw [List.length_set]; omega)] at hc
      obtain rfl := Option.some.inj hc
      refine hmove (j := j) (fun k hk e => hk.2.1 (by rw [e])) ?_
      have new : ∀ k, W3.heap.size ≤ k → ((if W3.heap.size ≤ k then j else f k) = j ∧ some k ≠ some g ∧ some k ≠ vm.ownBlock) := fun k hk => ⟨if_pos hk, fun e => by injection e with e; omega, fun e => by have := hmlt k e.symm; omega⟩
      exact k45_mkM _ _ _ x (Kd.R_lower (Kd.R_mono (Kd.R_bound h1) (fun k hk => new k hk.2.1)) h.bel.size) (Kd.R_lower (Kd.R_mono (Kd.R_bound h3) (fun k hk => new k hk.2.1)) h.bel.size)
    · rw [List.getElem?_set_ne (by omega), List.getElem?_set_ne (by omega)] at hc
      have hM := hf j y c (by omega) hy hc
      rw [hg] at hM
      have hM2 := k45.M_mono (ok' := fun k => (if W3.heap.size ≤ k then t else f k) = j ∧ some k ≠ some g ∧ some k ≠ vm.ownBlock) (fun k hk => ⟨by rw [if_neg (by have := hk.2.2.1; omega)]; exact hk.1.1, hk.1.2⟩) (k45.M_bound hM)
      exact hmove (j := j) (fun k hk e => hk.2.1 (by rw [e])) (Kd.M_below hM2 hb)
end Go.Proofs.Ytdliojcpnkggnaa.Print
