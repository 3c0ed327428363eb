/- adm.kept: its contract: in each round of a loop a loop over pending's closure. -/
import Derived.Test.YtphklaajolpieaaHPendingOf
import Derived.Maps.AppendAt
import Derived.Maps.OwnIn
namespace Go.Proofs.Ytphklaajolpieaa.Print
open Go.RowKit Go.Shelf Go.Proofs.YtphklaajolpieaaW.PrintWords Go.Proofs.YtphklaajolpieaaW.PrintLast Go.Proofs.YtphklaajolpieaaW.PrintMore
set_option linter.unusedVariables false
set_option linter.unusedSimpArgs false
attribute [local go_sem] Oper.semAt_some
def keptP (isF : Int → Bool) (p : Int × S36) : Bool := !(p.2.f0 == 6) && !(p.2.f0 == 5) && isF p.1
def keptT (metF : List S36 → List Bool) (zs : List (List S36)) (isF : Int → Bool) (t : Nat) : List Int := ((pendK (rd_L2 zs (t : Int)) (metF (rd_L2 zs (t : Int))) zs (t : Int) (rd_L2 zs (t : Int)).length).filter (keptP isF)).map (·.1)
def keptF (metF : List S36 → List Bool) (zs : List (List S36)) (isF : Int → Bool) (n : Nat) : List Int := (List.range n).flatMap (keptT metF zs isF)
/-- What holds between two rounds of kept's outer loop. -/
structure KInv (A0 A1 : Option Addr) (len0 cap0 cap1 : Nat) (zs : List (List S36)) (g : Nat) (caps : Array Value) (out : List Int) (G : Value → Prop) (w W : World) : Prop where
 hP : W.heap[w.heap.size]? = some (.cells #[.slice A0 len0 cap0, .slice A1 zs.length cap1] 25 (0, 0))
 hI : Boxed W (w.heap.size + 1) 54 (.func (.func g) #[] caps)
 hO : ∃ v, Boxed W (w.heap.size + 1 + 1) 22 v ∧ W.ownsRow w.heap.size 3 1 v out.length (out.map (Value.int .i64)) ∧ G v
 hB : Below w.heap.size w W
/-- It abides what the loops' own book-keeping does. -/
theorem kinv_own {β : Type} {B : Nat} {A0 A1 : Option Addr} {len0 cap0 cap1 : Nat} {zs : List (List S36)} {g : Nat} {caps : Array Value} (outF : β → List Int) (G : Value → Prop) {w : World} (hB : w.heap.size ≤ B) : OwnFrom B (fun s W => KInv A0 A1 len0 cap0 cap1 zs g caps (outF s) G w W) := fun s X Y row hs hg hr =>
 ⟨blk_own _ _ _ () X Y row hs.hP hg (fun r e => (hr r e).2), boxed_own _ _ (fun (_ : Unit) => Value.func (.func g) #[] caps) () X Y row hs.hI hg (fun r e => (hr r e).2),
  by
   exact holdsRow_own w.heap.size (w.heap.size + 1 + 1) 22 3 1 (fun (_ : Unit) => (outF s).length) (fun _ => (outF s).map (Value.int .i64)) (fun _ v => G v) () X Y row hs.hO hg (fun r e => (hr r e).2),
  ownFrom_below (β := Unit) (Nat.le_refl _) hB () X Y row hs.hB hg hr⟩
theorem kinv_below {A0 A1 : Option Addr} {len0 cap0 cap1 : Nat} {zs : List (List S36)} {g : Nat} {caps : Array Value} {out : List Int} {G : Value → Prop} {w W W' : World} (h : KInv A0 A1 len0 cap0 cap1 zs g caps out G w W) (hb : Below W.heap.size W W') : KInv A0 A1 len0 cap0 cap1 zs g caps out G w W' :=
 ⟨(hb.block _ (Array.getElem?_eq_some_iff.1 h.hP).1).trans h.hP, (hb.block _ h.hI.lt).trans h.hI, by obtain ⟨v, h1, h2, h3⟩ := h.hO; exact ⟨v, (hb.block _ h1.lt).trans h1, pw_own_below h2 hb, h3⟩, h.hB.trans (hb.mono h.hB.size)⟩
theorem keeps_below {B : Nat} {W W' : World} (h : Below W.heap.size W W') : KeepsFrom B W W' :=
 ⟨h.size, fun k o _ hk _ => (h.block k (Array.getElem?_eq_some_iff.1 hk).1).trans hk⟩
theorem step_heap : Kd.Heap k36 := Kd.heap_iso _ (Kd.heap_pair (Kd.heap_int .i64) (Kd.heap_pair (Kd.heap_int .i64) (Kd.heap_pair (Kd.heap_int .i64) (Kd.heap_pair (Kd.heap_int .i64) (Kd.heap_int .i64)))))
theorem pendK_length (l : List S36) (m : List Bool) (zs : List (List S36)) (t : Int) (k : Nat) : (pendK l m zs t k).length ≤ k := by
 unfold pendK
 rw [List.length_map]
 have := List.length_filter_le (aheadF l m) (List.range k)
 rwa [List.length_range] at this
theorem kept_length (metF : List S36 → List Bool) (zs : List (List S36)) (isF : Int → Bool) (hz : ∀ l ∈ zs, l.length ≤ 1000) : ∀ n, n ≤ zs.length → (keptF metF zs isF n).length ≤ n * 1000 := by
 intro n
 induction n with
 | zero => intro _; simp [keptF]
 | succ n ih =>
  intro h
  have e : keptF metF zs isF (n + 1) = keptF metF zs isF n ++ keptT metF zs isF n := by simp [keptF, List.range_succ]
  rw [e, List.length_append]
  have h1 : (keptT metF zs isF n).length ≤ 1000 := by
   unfold keptT
   rw [List.length_map]
   have hm : rd_L2 zs (n : Int) ∈ zs := by
    unfold rd_L2
    rw [List.getD_eq_getElem?_getD, List.getElem?_eq_getElem (show ((n : Int)).toNat < zs.length by omega)]
    exact List.getElem_mem _
   have := List.length_filter_le (keptP isF) (pendK (rd_L2 zs (n : Int)) (metF (rd_L2 zs (n : Int))) zs (n : Int) (rd_L2 zs (n : Int)).length)
   have := pendK_length (rd_L2 zs (n : Int)) (metF (rd_L2 zs (n : Int))) zs (n : Int) (rd_L2 zs (n : Int)).length
   have := hz _ hm
   omega
  have := ih (by omega)
  omega
/-- The marks of loops that ran, taken off one by one. -/
theorem leaves_marks {n : Nat} {P : Program} {fn : Func} {tmps : Array Value} {R : Ending → World → Prop} {B : Nat} {S : World → Prop} (hS : ∀ W D, B ≤ D → W.heap[D]? = some (.deferred (some [])) → S W → S (W.putObj D (.deferred none))) (hend : ∀ W, S W → LeavesInM Fence.wide n P fn tmps R [] .returning W) :
 ∀ (Ds : List Nat) (W : World), Ds.Nodup → (∀ D ∈ Ds, B ≤ D ∧ W.heap[D]? = some (.deferred (some []))) → S W → LeavesInM Fence.wide n P fn tmps R (Ds.map (fun D => { target := .collected D, args := #[] })) .returning W
 | [], W, _, _, hs => hend W hs
 | D :: Ds, W, hn, hd, hs => by
  obtain ⟨h1, h2⟩ := hd D (by simp)
  rw [List.nodup_cons] at hn
  refine ⟨by simp, .inl ⟨D, _, rfl, run_takeDeferred h2, ?_⟩⟩
  refine leaves_marks hS hend Ds _ hn.2 (fun D' hD' => ?_) (hS W D h1 h2 hs)
  obtain ⟨k1, k2⟩ := hd D' (by simp [hD'])
  exact ⟨k1, (World.putObj_heap_other (fun e => hn.1 (by rw [← e]; exact hD'))).trans k2⟩
set_option maxRecDepth 100000 in
set_option maxHeartbeats 4000000 in
theorem kept_in (A0 A1 : Option Addr) (len0 cap0 cap1 : Nat) (zs : List (List S36)) (g : Nat) (caps : Array Value) (isF : Int → Bool) (metF : List S36 → List Bool) (w : World) (hC : Kd.C (Kd.slice 36 k36) w A1 zs.length zs)
 (hz : ∀ l ∈ zs, l.length ≤ 1000 ∧ fwdB l = true ∧ (metF l).length = l.length + 1 ∧ ∃ kk, cfg_Met.f kk l = some (metF l)) (hlen2 : zs.length ≤ 1000) (htot : tot zs ≤ 1000000)
 (hEnter : ∀ args w, (callFunc g args).run Try.prog w = .ok (.enter g args) w) (hIs : ∀ (n : Int) (W : World), Below w.heap.size w W → Calls Try.prog g (#[.int .i64 n] ++ caps) W fun e w' => e = .returned (.bool (isF n)) ∧ Below W.heap.size W w') :
 CallsIn Fence.wide 40 Try.prog 17 #[.agg #[.slice A0 len0 cap0, .slice A1 zs.length cap1], .func (.func g) #[] caps] w fun e w' => ∃ v, e = .returned v ∧ Kd.R (Kd.int .i64) 3 w' w.heap.size (fun _ => True) v (keptF metF zs isF zs.length) ∧ Below w.heap.size w w' := by
 have hu := Try.underlying25
 refine callsIn_of_wp_marks Try.func17 rfl trivial ?_ rfl
 simp only [Try.ntmps17, List.size_toArray, List.length_cons, List.length_nil, Nat.reduceAdd, Nat.reduceSub, Array.replicate_succ, Array.replicate_zero, List.push_toArray, List.append_toArray, List.nil_append, List.cons_append]
 gi_wp2
 have bP := blk_alloc (blk_alloc (blk_new w (.cells #[.slice A0 len0 cap0, .slice A1 zs.length cap1] 25)) (.cells #[.func (.func g) #[] caps] 54)) (.cells #[.slice none 0 0] 22)
 have bI := (Boxed.new (w.alloc (.cells #[.slice A0 len0 cap0, .slice A1 zs.length cap1] 25)) 54 (.func (.func g) #[] caps)).alloc (.cells #[.slice none 0 0] 22)
 have bO := Boxed.new ((w.alloc (.cells #[.slice A0 len0 cap0, .slice A1 zs.length cap1] 25)).alloc (.cells #[.func (.func g) #[] caps] 54)) 22 (.slice none 0 0)
 have hB0 : Below w.heap.size w (((w.alloc (.cells #[.slice A0 len0 cap0, .slice A1 zs.length cap1] 25)).alloc (.cells #[.func (.func g) #[] caps] 54)).alloc (.cells #[.slice none 0 0] 22)) := below_alloc (below_alloc (below_alloc (Below.refl _ _) _) _) _
 simp only [World.size_alloc] at bI bO
 generalize ((w.alloc (.cells #[.slice A0 len0 cap0, .slice A1 zs.length cap1] 25)).alloc (.cells #[.func (.func g) #[] caps] 54)).alloc (.cells #[.slice none 0 0] 22) = W0 at *
 refine wpIn_loop_rounds (zs.length + 1) ?_
 refine (?key : ∀ (q t : Nat) (Ds : List Nat) (u6 u7 u8 u13 u14 u15 u16 u17 u18 u19 u20 u21 u22 u23 u24 u25 u26 u27 u28 u29 u30 u31 u32 u33 u34 u35 u36 u37 u38 : Value) (W : World), t + q = zs.length + 1 → t ≤ zs.length → KInv A0 A1 len0 cap0 cap1 zs g caps (keptF metF zs isF t) (fun _ => True) w W → (∀ D ∈ Ds, w.heap.size + 3 ≤ D ∧ W.heap[D]? = some (.deferred (some []))) → Ds.Nodup →
  Code.roundsIn Fence.wide 40 Try.prog _ _ q { tmps := #[.agg #[.slice A0 len0 cap0, .slice A1 zs.length cap1], .func (.func g) #[] caps, .pointer (some ⟨w.heap.size, 0, none⟩), .pointer (some ⟨w.heap.size + 1, 0, none⟩), .slice none 0 0, .pointer (some ⟨w.heap.size + 1 + 1, 0, none⟩), u6, u7, u8, .pointer (some ⟨w.heap.size, 1, none⟩), .slice A1 zs.length cap1, .int .i64 (zs.length : Int), .int .i64 (t : Int), u13, u14, u15, u16, u17, u18, u19, u20, u21, u22, u23, u24, u25, u26, u27, u28, u29, u30, u31, u32, u33, u34, u35, u36, u37, u38], defers := Ds.map (fun D => { target := .collected D, args := #[] }) } W) (zs.length + 1) 0 [] undef undef undef undef undef undef undef undef undef undef undef undef undef undef undef undef undef undef undef undef undef undef undef undef undef undef undef undef undef W0 (by omega) (by omega) ⟨bP, bI, ⟨_, bO, World.ownsRow_nil _ _ _ _, trivial⟩, hB0⟩ (by simp) (by simp)
 intro q
 induction q with
 | zero => intro t Ds u6 u7 u8 u13 u14 u15 u16 u17 u18 u19 u20 u21 u22 u23 u24 u25 u26 u27 u28 u29 u30 u31 u32 u33 u34 u35 u36 u37 u38 W hq ht; omega
 | succ q ih =>
  rintro t Ds u6 u7 u8 u13 u14 u15 u16 u17 u18 u19 u20 u21 u22 u23 u24 u25 u26 u27 u28 u29 u30 u31 u32 u33 u34 u35 u36 u37 u38 W hq ht ⟨cP, cI, ⟨vo, cO, hrow, _⟩, hB⟩ hDs hnd
  rw [roundsIn_succ]
  by_cases hlt : t < zs.length
  ·obtain ⟨tt, htt⟩ : ∃ tt : Int, tt = (t : Int) := ⟨_, rfl⟩
   rw [← htt]
   obtain ⟨ad, Al, cl, rfl, x0, hcl, hCl⟩ := at_L2 hC tt (by omega) (by omega)
   have hmem : rd_L2 zs tt ∈ zs := by
    unfold rd_L2
    rw [List.getD_eq_getElem?_getD, List.getElem?_eq_getElem (show tt.toNat < zs.length by omega)]
    exact List.getElem_mem _
   obtain ⟨hl1, hl2, hl3, kk, hkk⟩ := hz _ hmem
   obtain ⟨l, hl⟩ : ∃ l, l = rd_L2 zs tt := ⟨_, rfl⟩
   rw [← hl] at x0 hcl hCl hl1 hl2 hl3 hkk
   have hKW : Kpt (fun k => k < w.heap.size) w W := ⟨hB.size, fun k h1 _ => hB.block k h1⟩
   have x0W : W.cell? (ad.add tt.toNat) = some (.slice Al l.length cl) := by
    have hlt0 : (ad.add tt.toNat).block < w.heap.size := by
     unfold World.cell? at x0
     cases hh : w.heap[(ad.add tt.toNat).block]? with
     | none => simp [hh] at x0
     | some x => exact (Array.getElem?_eq_some_iff.1 hh).1
    rw [← x0]; exact World.cell?_of_block (hB.block _ hlt0)
   have HH := Aside0.mk htt
   have HLT := Aside0.mk hlt
   have HL := Aside0.mk hl
   have p1 : (tt < (zs.length : Int)) = True := eq_true (by omega)
   have s1 : tt + 1 ≤ 9223372036854775807 := by omega
   have s2 : -9223372036854775808 ≤ tt + 1 := by omega
   have ht0 : 0 ≤ tt := by omega
   have ht1 : tt < (zs.length : Int) := by omega
   have cP0 : W.cell? ⟨w.heap.size, 0, none⟩ = some (.slice A0 len0 cap0) := (blk_cell cP 0).trans rfl
   have cP1 : W.cell? ⟨w.heap.size, 1, none⟩ = some (.slice (some ad) zs.length cap1) := (blk_cell cP 1).trans rfl
   have hCLW := Kd.C_below hCl hB
   clear htt hlt hl
   gi_wp2_with (refine ⟨trivial, ?_⟩; gi_at_call 28; refine (pending_in 30 kk A0 Al ad len0 cap0 cap1 cl zs l tt (metF l) W ht0 ht1 x0W hcl hCLW hkk).mono ?_; rintro e w2 ⟨Bl, Bm, Bp, Bt, Am, cm, rfl, hb2, ⟨hFm, hcm⟩, ⟨⟨g1, g2, g3, g4⟩, g5, g6, g7, g8⟩, k1, k2, k3, k4, k5⟩)
   obtain ⟨ok, hok⟩ : ∃ ok : Nat → Prop, ok = fun k => k < w.heap.size ∨ (W.heap.size ≤ k ∧ k < w2.heap.size) := ⟨_, rfl⟩
   have hszW := hB.size
   have hsz2 := hb2.size
   have hBw2 : Below w.heap.size w w2 := hB.trans (hb2.mono hszW)
   have fC : ∀ W', Kpt ok w2 W' → Kd.C (Kd.slice 36 k36) W' (some ad) zs.length zs := fun W' h => Kd.F_now (Kd.F_step (Kd.F_step (Kd.C_F (Kd.heap_slice 36 step_heap) hC) (fun k h1 _ => hBw2.block k h1)) (fun k h1 h2 => h.same k (by rw [hok]; exact .inl h1) h2))
   have fCl : ∀ W', Kpt ok w2 W' → Kd.C k36 W' Al l.length l := fun W' h => Kd.F_now (Kd.F_step (Kd.F_step (Kd.C_F step_heap hCl) (fun k h1 _ => hBw2.block k h1)) (fun k h1 h2 => h.same k (by rw [hok]; exact .inl h1) h2))
   have fCm : ∀ W', Kpt ok w2 W' → Kd.C Kd.bool W' Am (metF l).length (metF l) := fun W' h => Kd.F_now (Kd.F_step hFm (fun k h1 h2 => h.same k (by rw [hok]; exact .inr ⟨h1, h2⟩) h2))
   have cO2 : Boxed w2 (w.heap.size + 1 + 1) 22 vo := (hb2.block _ cO.lt).trans cO
   have cI2 : Boxed w2 (w.heap.size + 1) 54 (.func (.func g) #[] caps) := (hb2.block _ cI.lt).trans cI
   have cP2 : w2.heap[w.heap.size]? = some (.cells #[.slice A0 len0 cap0, .slice (some ad) zs.length cap1] 25 (0, 0)) := (hb2.block _ (Array.getElem?_eq_some_iff.1 cP).1).trans cP
   have hrow2 := pw_own_below hrow hb2
   have hDs2 : ∀ D ∈ Ds, w2.heap[D]? = some (.deferred (some [])) := fun D hD => (hb2.block _ (Array.getElem?_eq_some_iff.1 (hDs D hD).2).1).trans (hDs D hD).2
   have hG0 : ∀ k, vo.ownBlock = some k → k < W.heap.size ∨ w2.heap.size ≤ k := fun k hk => .inl (by
    obtain ⟨cells, hc⟩ := own_typed hrow k hk
    exact (Array.getElem?_eq_some_iff.1 hc).1)
   have hs3 : w.heap.size + 3 ≤ W.heap.size := by have := cO.lt; omega
   refine wpIn_rangeFunc_ownH rfl (by omega) (gf := 33) (lb := #[.pointer (some ⟨Bl, 0, none⟩), .pointer (some ⟨Bm, 0, none⟩), .pointer (some ⟨Bp, 0, none⟩), .pointer (some ⟨Bt, 0, none⟩)]) rfl trivial (enters_of Try.func33 (by kernel_rfl) rfl)
    (pending_stops 30 w w2 A0 (some ad) Al Am len0 cap0 cap1 cl cm Bl Bm Bp Bt ok zs l (metF l) tt htot (by omega) (by omega) hl2 hl3 fC fCl fCm hcl hcm (by rw [hok]; exact .inr ⟨g1, g5⟩) (by rw [hok]; exact .inr ⟨g2, g6⟩) (by rw [hok]; exact .inr ⟨g3, g7⟩) (by rw [hok]; exact .inr ⟨g4, g8⟩) k1 k2 k3 k4 k5)
    Kpt.trans (fun W' q o o' h1 h2 _ _ => ⟨by simp [World.putObj], fun k h3 _ => World.putObj_heap_other (fun e => by rw [hok] at h3; omega)⟩) (Below.refl _ _) (fun _ => rfl)
    (fun pre W' => KInv A0 (some ad) len0 cap0 cap1 zs g caps (keptF metF zs isF t ++ (pre.filter (keptP isF)).map (·.1)) (fun v => ∀ k, v.ownBlock = some k → k < W.heap.size ∨ w2.heap.size ≤ k) w W' ∧ (∀ D ∈ Ds, W'.heap[D]? = some (.deferred (some []))) ∧ w2.heap.size ≤ W'.heap.size)
    (fun _ _ _ => False)
    (OwnFrom.and (kinv_own (fun pre : List (Int × S36) => keptF metF zs isF t ++ (pre.filter (keptP isF)).map (·.1)) (fun v => ∀ k, v.ownBlock = some k → k < W.heap.size ∨ w2.heap.size ≤ k) (by omega)) (OwnFrom.and (fun s X Y row hs hg hr D hD => (hg.block D (Array.getElem?_eq_some_iff.1 (hs D hD)).1 (fun e => by have h1 := (hr D e.symm).1; have h2 := (Array.getElem?_eq_some_iff.1 (hDs2 D hD)).1; omega)).trans (hs D hD)) (fun s X Y row hs hg hr => Nat.le_trans hs hg.size)))
    (fun _ _ _ _ _ hs _ _ => hs)
    ⟨⟨cP2, cI2, ⟨vo, cO2, by simpa using hrow2, hG0⟩, hBw2⟩, hDs2, Nat.le_refl _⟩
    (fun x a' W' => ∃ Bx, w2.heap.size ≤ Bx ∧ W'.heap[Bx]? = some (.cells #[.int .i64 x.2.f0, .int .i64 x.2.f1, .int .i64 x.2.f2, .int .i64 x.2.f3, .int .i64 x.2.f4] 36 (0, 0)) ∧ a' = { tmps := #[.agg #[.slice A0 len0 cap0, .slice (some ad) zs.length cap1], .func (.func g) #[] caps, .pointer (some ⟨w.heap.size, 0, none⟩), .pointer (some ⟨w.heap.size + 1, 0, none⟩), .slice none 0 0, .pointer (some ⟨w.heap.size + 1 + 1, 0, none⟩), .int .i64 tt, .int .i64 x.1, .pointer (some ⟨Bx, 0, none⟩), .pointer (some ⟨w.heap.size, 1, none⟩), .slice (some ad) zs.length cap1, .int .i64 (zs.length : Int), .int .i64 tt, .bool true, .int .i64 tt, .agg #[.slice A0 len0 cap0, .slice (some ad) zs.length cap1], .int .i64 tt, .func (.func 33) #[] #[.pointer (some ⟨Bl, 0, none⟩), .pointer (some ⟨Bm, 0, none⟩), .pointer (some ⟨Bp, 0, none⟩), .pointer (some ⟨Bt, 0, none⟩)], .int .i64 x.1, .agg #[.int .i64 x.2.f0, .int .i64 x.2.f1, .int .i64 x.2.f2, .int .i64 x.2.f3, .int .i64 x.2.f4], u20, u21, u22, u23, u24, u25, u26, u27, u28, u29, u30, u31, u32, u33, u34, u35, u36, u37, u38], defers := [] })
    (fun x a' s X Y row hs hg hr => by obtain ⟨Bx, h1, h2, h3⟩ := hs; exact ⟨Bx, h1, blk_own Bx _ _ () X Y row h2 hg (fun r e => (hr r e).2), h3⟩)
    ?assign ?body ?done ?stop
   case assign =>
    rintro l2 pre x W' K ⟨hK1, hD1, hS1⟩ hK
    gi_wp2
    have hba : Below W'.heap.size W' (W'.alloc (.cells #[.int .i64 x.2.f0, .int .i64 x.2.f1, .int .i64 x.2.f2, .int .i64 x.2.f3, .int .i64 x.2.f4] 36)) := below_alloc (Below.refl _ _) _
    exact hK _ _ (keeps_below hba) (Kpt.of_below hba) ⟨kinv_below hK1 hba, fun D hD => (hba.block D (Array.getElem?_eq_some_iff.1 (hD1 D hD)).1).trans (hD1 D hD), Nat.le_trans hS1 hba.size⟩ ⟨W'.heap.size, hS1, World.alloc_heap_new W' _, rfl⟩
   case body =>
    rintro l2 pre x a' W' hl2 ⟨r, hr⟩ ⟨hK1, hD1, hS1⟩ ⟨Bx, hBx, hX, rfl⟩ hlt
    obtain ⟨vo', hO1, hO2, hO3⟩ := hK1.hO
    have eI := hK1.hI.cell
    have eO := hO1.cell
    have fO := hO1.frozen
    have y0 : W'.cell? ⟨Bx, 0, none⟩ = some (.int .i64 x.2.f0) := (blk_cell hX 0).trans rfl
    have same : ∀ W'', Below W'.heap.size W' W'' → keptP isF x = false → KeepsFrom w2.heap.size W' W'' ∧ Kpt ok W' W'' ∧ (KInv A0 (some ad) len0 cap0 cap1 zs g caps (keptF metF zs isF t ++ ((pre ++ [x]).filter (keptP isF)).map (·.1)) (fun v => ∀ k, v.ownBlock = some k → k < W.heap.size ∨ w2.heap.size ≤ k) w W'' ∧ (∀ D ∈ Ds, W''.heap[D]? = some (.deferred (some []))) ∧ w2.heap.size ≤ W''.heap.size) := fun W'' hb hk => by
     refine ⟨keeps_below hb, Kpt.of_below hb, ?_, fun D hD => (hb.block D (Array.getElem?_eq_some_iff.1 (hD1 D hD)).1).trans (hD1 D hD), Nat.le_trans hS1 hb.size⟩
     rw [List.filter_append, List.filter_cons_of_neg (by rw [hk]; simp), List.filter_nil, List.append_nil]
     exact kinv_below hK1 hb
    by_cases c6 : x.2.f0 = 6
    ·have b6 : (x.2.f0 == 6) = true := by simpa using c6
     have b6' : (x.2.f0 != 6) = false := by simp [c6]
     have C6 := Aside0.mk c6
     clear c6
     gi_wp2
     refine ⟨fun _ h => (by cases h), ?_⟩
     gi_wp2
     exact same _ (Below.refl _ _) (by simp [keptP, b6])
    ·have b6 : (x.2.f0 == 6) = false := by simpa using c6
     have b6' : (x.2.f0 != 6) = true := by simpa using c6
     have C6 := Aside0.mk c6
     clear c6
     by_cases c5 : x.2.f0 = 5
     ·have b5 : (x.2.f0 == 5) = true := by simpa using c5
      have b5' : (x.2.f0 != 5) = false := by simp [c5]
      have C5 := Aside0.mk c5
      clear c5
      gi_wp2
      refine ⟨fun _ h => (by cases h), ?_⟩
      gi_wp2
      exact same _ (Below.refl _ _) (by simp [keptP, b5])
     ·have b5 : (x.2.f0 == 5) = false := by simpa using c5
      have b5' : (x.2.f0 != 5) = true := by simpa using c5
      have C5 := Aside0.mk c5
      clear c5
      have hEn := hEnter
      cases hF : isF x.1 with
      | false =>
       have hIx := hIs x.1 W' hK1.hB
       rw [hF] at hIx
       gi_wp2_with (refine ⟨trivial, ?_⟩; refine (CallsIn.inRound l2 (callsIn_wide.2 hIx)).mono ?_; rintro e w4 ⟨rfl, hb4⟩)
       exact same _ hb4 (by simp [keptP, hF])
      | true =>
       have hIx := hIs x.1 W' hK1.hB
       rw [hF] at hIx
       obtain ⟨i0, hi, hz0, hz1, hz2⟩ := info_parts info3
       have hlen : (keptF metF zs isF t ++ (pre.filter (keptP isF)).map (·.1)).length + 1 ≤ 3000000 := by
        have h1 : (keptF metF zs isF t).length ≤ t * 1000 := kept_length metF zs isF (fun l hl => (hz l hl).1) t (by have := HLT.out; omega)
        have h2 := List.length_filter_le (keptP isF) pre
        have h3 := HLT.out
        rw [List.length_append, List.length_map]
        have : t * 1000 ≤ 1000000 := by omega
        omega
       obtain ⟨ol, hol⟩ : ∃ ol : List Int, ol = keptF metF zs isF t ++ (pre.filter (keptP isF)).map (·.1) := ⟨_, rfl⟩
       rw [← hol] at hO2 hlen
       have HOL := Aside0.mk hol
       clear hol
       have hsz4 : w.heap.size + 3 ≤ W'.heap.size := by have := hO1.lt; omega
       gi_wp2_with (first | (refine ⟨trivial, ?_⟩; refine (CallsIn.inRound l2 (callsIn_wide.2 hIx)).mono ?_; rintro e w4 ⟨rfl, hb4⟩; have hO4 : Boxed w4 (w.heap.size + 1 + 1) 22 vo' := (hb4.block _ hO1.lt).trans hO1; have hr4 := pw_own_below hO2 hb4; have hc4 := hO4.cell; have hf4 := hO4.frozen) | (gi_at_builtin; refine wpListIn_append_own_at _ rfl _ _ 22 rfl w.heap.size 3 i0 (.int .i64 0) 1 8 Try.underlying22 hi hz0 hz1 hz2 rfl (by decide) _ _ _ rfl (hr4.alloc _) ⟨w4.heap.size, 0, none⟩ 1 1 [.int .i64 x.1] rfl rfl (cell_one_new _ _ _) (by simp [Value.oneCell']) (by unfold maxLen; omega) (by omega) (by have := hb4.size; simp; omega) ?_; intro v' w6 hown' hgrow _ hat; obtain ⟨g', cap', rfl⟩ := ownsRow_succ hown'; obtain ⟨hv1, hv2, hr2, hk2, hb2'⟩ := hO4.appended (by decide) hr4 (by have := hb4.size; omega) (by omega) hown' hgrow; have hc1 := hv1.cell; have hf1 := hv1.frozen))
       have hgrow' : (w4.alloc (.cells #[.int .i64 x.1] 3)).grownBy w6 vo'.ownBlock := hgrow
       have hat' : some g' = vo'.ownBlock ∨ some g' = some (w4.alloc (.cells #[.int .i64 x.1] 3)).heap.size := hat
       obtain ⟨Wf, hWf⟩ : ∃ Wf, w6.setCell ⟨w.heap.size + 1 + 1, 0, none⟩ (.slice (some ⟨g', 0, none⟩) (ol.length + 1) cap') = Wf := ⟨_, rfl⟩
       have hfar : ∀ k, k < w4.heap.size → k ≠ w.heap.size + 1 + 1 → some k ≠ vo'.ownBlock → Wf.heap[k]? = w4.heap[k]? := fun k h1 h2 h3 => by
        rw [← hWf]
        exact (Below.heap_setCell w6 ⟨w.heap.size + 1 + 1, 0, none⟩ _ k h2).trans ((hgrow'.block k (by simp; omega) h3).trans (Below.heap_alloc w4 _ k h1))
       rw [hWf] at hv2 hr2 hk2 hb2' ⊢
       have hs4 := hb4.size
       have hsf := hb2'.size
       refine ⟨(keeps_below hb4).trans (hk2.from _), (Kpt.of_below hb4).trans ⟨hsf, fun k hk h4 => hfar k h4 (fun e => by rw [hok] at hk; omega) (fun e => ?_)⟩, ⟨?_, ?_, ⟨_, hv2, ?_, ?_⟩, (hK1.hB.trans (hb4.mono (by omega))).trans hb2'⟩, fun D hD => hk2.same D _ ((hb4.block D (Array.getElem?_eq_some_iff.1 (hD1 D hD)).1).trans (hD1 D hD)) rfl, by omega⟩
       ·have h1 := hO3 k e.symm
        have h2 := own_base hr4 k e.symm
        rw [hok] at hk
        omega
       ·have h1 : w4.heap[w.heap.size]? = _ := (hb4.block _ (by omega)).trans hK1.hP
        refine (hfar _ (by omega) (by omega) (fun e => ?_)).trans h1
        obtain ⟨cells, hc⟩ := own_typed hr4 _ e.symm
        rw [h1] at hc
        injection hc with hc
        injection hc with _ hc
        exact absurd hc (by decide)
       ·have h1 : w4.heap[w.heap.size + 1]? = _ := (hb4.block _ (by omega)).trans hK1.hI
        refine (hfar _ (by omega) (by omega) (fun e => ?_)).trans h1
        obtain ⟨cells, hc⟩ := own_typed hr4 _ e.symm
        rw [h1] at hc
        injection hc with hc
        injection hc with _ hc
        exact absurd hc (by decide)
       ·have e1 : keptF metF zs isF t ++ ((pre ++ [x]).filter (keptP isF)).map (·.1) = ol ++ [x.1] := by
         rw [HOL.out, List.filter_append, List.filter_cons_of_pos (by simp [keptP, b6, b5, hF]), List.filter_nil, List.map_append, List.append_assoc]; rfl
        rw [e1]
        simpa using hr2
       ·intro k hk
        rcases hat' with e | e
        ·exact hO3 k (by rw [← e]; exact hk)
        ·have hk2' : some g' = some k := hk
         rw [e] at hk2'
         injection hk2' with hk2'
         simp at hk2'
         right; omega
   case done =>
    rintro D ys W' hD rfl ⟨hK1, hD1, hS1⟩ hK
    gi_wp2
    have e1 : tt + 1 = ((t + 1 : Nat) : Int) := by rw [HH.out]; simp
    rw [e1]
    refine ih (t + 1) (D :: Ds) _ _ _ _ _ _ _ _ _ _ _ _ _ _ _ _ _ _ _ _ _ _ _ _ _ _ _ _ _ W' (by omega) (by have := HLT.out; omega) ?_ ?_ ?_
    ·have e2 : keptF metF zs isF t ++ ((pendK l (metF l) zs tt l.length).filter (keptP isF)).map (·.1) = keptF metF zs isF (t + 1) := by
      have e : keptF metF zs isF (t + 1) = keptF metF zs isF t ++ keptT metF zs isF t := by simp [keptF, List.range_succ]
      rw [e]; unfold keptT; rw [← HH.out, ← HL.out]
     rw [e2] at hK1
     obtain ⟨v, h1, h2, _⟩ := hK1.hO
     exact ⟨hK1.hP, hK1.hI, ⟨v, h1, h2, trivial⟩, hK1.hB⟩
    ·intro D' hD'
     rcases List.mem_cons.1 hD' with rfl | h
     ·exact ⟨by omega, hK⟩
     ·exact ⟨(hDs D' h).1, hD1 D' h⟩
    ·rw [List.nodup_cons]
     refine ⟨fun h => ?_, hnd⟩
     have := (Array.getElem?_eq_some_iff.1 (hDs2 D h)).1
     omega
   case stop =>
    rintro D c pre W' _ _ h _
    exact h.elim
  ·obtain rfl : t = zs.length := by omega
   have p1 : ((zs.length : Int) < (zs.length : Int)) = False := eq_false (by omega)
   have cOc := cO.cell
   gi_wp2
   refine leaves_marks (B := w.heap.size) (S := fun W => W.ownsRow w.heap.size 3 1 vo (keptF metF zs isF zs.length).length ((keptF metF zs isF zs.length).map (Value.int .i64)) ∧ Below w.heap.size w W) ?_ ?_ Ds W hnd (fun D hD => ⟨by have := (hDs D hD).1; omega, (hDs D hD).2⟩) ⟨hrow, hB⟩
   ·intro W D hD hd ⟨h1, h2⟩
    exact ⟨ownsRow_putObj h1 _ hd rfl, h2.trans (belowK_b (w := w) (Nat.le_refl _) W D _ _ hD hd rfl rfl)⟩
   ·intro W ⟨h1, h2⟩
    exact ⟨_, results_tmp rfl _ _ _, vo, rfl, Kd.R_of_own (by simpa [encs] using h1) (fun _ _ => trivial), h2⟩
end Go.Proofs.Ytphklaajolpieaa.Print
