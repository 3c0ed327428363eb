/- fencepostlaw08.head answers true. -/
import Derived.Test.YtijpfonbeepmfaaHSlInsert
import Derived.Test.YtijpfonbeepmfaaHSlOf
import Derived.Test.YtijpfonbeepmfaaHSlFence
import Derived.Test.YtijpfonbeepmfaaHSlErase
import Derived.Test.YtijpfonbeepmfaaHSq
import Derived.Test.YtijpfonbeepmfaaPrint7
import Derived.Test.YtijpfonbeepmfaaPrint6
import Derived.Test.YtijpfonbeepmfaaPrint5
namespace Go.Proofs.Ytijpfonbeepmfaa.Print
open Go.RowKit Go.Maps Go.Proofs.YtijpfonbeepmfaaW.PrintWords Go.Proofs.YtijpfonbeepmfaaW.PrintLast Go.Proofs.YtijpfonbeepmfaaW.PrintMore
set_option linter.unusedVariables false
set_option linter.unusedSimpArgs false
def hdN : ByteArray := ⟨#[115, 98]⟩
def bufI : List S62 := [⟨⟨#[120]⟩, 0⟩]
def bufT : List S58 := [⟨[⟨4, ⟨#[]⟩, ⟨#[120]⟩, ⟨#[]⟩, 1⟩, ⟨2, ⟨#[101, 97, 120]⟩, ⟨#[121]⟩, ⟨#[]⟩, 0⟩]⟩, ⟨[⟨4, ⟨#[]⟩, ⟨#[121]⟩, ⟨#[]⟩, 1⟩, ⟨2, ⟨#[101, 97, 120]⟩, ⟨#[120]⟩, ⟨#[]⟩, 0⟩]⟩]
def bufC : List S64 := [⟨0, ⟨#[101, 97, 120]⟩, 0⟩, ⟨1, ⟨#[101, 97, 120]⟩, 0⟩]
def fncT : List S58 := [⟨[⟨4, ⟨#[]⟩, ⟨#[120]⟩, ⟨#[]⟩, 1⟩, fenceL, ⟨2, ⟨#[101, 97, 120]⟩, ⟨#[121]⟩, ⟨#[]⟩, 0⟩]⟩, ⟨[⟨4, ⟨#[]⟩, ⟨#[121]⟩, ⟨#[]⟩, 1⟩, fenceL, ⟨2, ⟨#[101, 97, 120]⟩, ⟨#[120]⟩, ⟨#[]⟩, 0⟩]⟩]
def hdA : List S53 := [⟨8, 0, 0, 0, 1⟩, ⟨6, 0, 0, 0, 0⟩]
def hdB : List S53 := [⟨9, 0, 0, 0, 1⟩]
def hdQA : List S53 := [⟨8, 0, 0, 0, 1⟩, ⟨6, 0, 0, 0, 0⟩, ⟨6, 0, 0, 0, 0⟩]
def hdQB : List S53 := [⟨6, 0, 0, 0, 0⟩, ⟨9, 0, 0, 0, 2⟩]
theorem hd_buf : fencepostlaw04_Buffering.f = some (hdN, bufI, bufT, false, bufC) := rfl
theorem hd_fence : slots_Fence.f hdN bufI bufT false bufC [1, 3] = some (hdN, bufI, fncT, false, bufC) := by kernel_rfl
theorem hd_fb1 : fileB fncT [1, 3] = true := by kernel_rfl
theorem hd_fb2 : fileB bufT [1, 3] = true := by kernel_rfl
theorem hd_fb3 : fileB bufT [0] = true := by kernel_rfl
theorem hd_er1 : (linesF (eraseTT [1, 3]) fncT (-1)).1 = bufT := by kernel_rfl
theorem hd_fe1 : (linesF (fenceTT [1, 3]) bufT ()).1 = fncT := by kernel_rfl
theorem hd_erase : slots_Erase.f hdN bufI fncT false bufC [1, 3] = some (hdN, bufI, bufT, false, bufC, true) := by
 unfold slots_Erase.f
 rw [if_pos hd_fb1, hd_er1, if_pos hd_fb2, if_pos hd_fe1]
theorem hd_fb4 : fileB (linesF (eraseTT [0]) bufT (-1)).1 [0] = true := by kernel_rfl
theorem hd_ne : ¬ (linesF (fenceTT [0]) (linesF (eraseTT [0]) bufT (-1)).1 ()).1 = bufT := fun h => by
 have h2 := congrArg (fun l : List S58 => l.map fun t => t.f0.map fun x => x.f0) h
 have e : (fun l : List S58 => l.map fun t => t.f0.map fun x => x.f0) (linesF (fenceTT [0]) (linesF (eraseTT [0]) bufT (-1)).1 ()).1 = [[6, 2], [4, 2]] := by kernel_rfl
 exact absurd (e.symm.trans h2) (by decide)
theorem hd_off : slots_Erase.f hdN bufI bufT false bufC [0] = some (hdN, bufI, bufT, false, bufC, false) := by
 unfold slots_Erase.f
 rw [if_pos hd_fb3, if_pos hd_fb4, if_neg hd_ne]
theorem hd_of2 : slots_Of.f [] [hdA, hdB] 2 = some (1, 0, true) := by kernel_rfl
theorem hd_of3 : slots_Of.f [] [hdA, hdB] 3 = some (0, 0, false) := by kernel_rfl
theorem hd_num : slots_Num.f [] [hdA, hdB] 1 0 = some 2 := by kernel_rfl
theorem hd_num2 : slots_Num.f [] [hdA, hdB] 1 1 = some (-1) := by kernel_rfl
theorem hd_many : slots_Many.f [] [hdA, hdB] = some 3 := by kernel_rfl
theorem hd_ins : slots_Insert.f [] [hdA, hdB] [1, 2, 7, 1] = some ([], [hdQA, hdQB]) := by kernel_rfl
theorem hd_same : fencepostref07_Same.f 20 [] [hdQA, hdQB] [] [hdQA, hdQB] = some true := by kernel_rfl
theorem hd_same4 : fencepostref04_Same.f 20 hdN bufI bufT false bufC hdN bufI bufT false bufC = some true := by kernel_rfl
theorem C_nil {α : Type} (d : Kd α) (W : World) : d.C W none ([] : List α).length [] := ⟨rfl, by simp, fun hh => absurd hh (by simp)⟩
/-- A row of rows of steps that was just written down. -/
theorem C_two {W : World} {b b1 b2 t : Nat} {l1 l2 : List S53} (h : W.heap[b]? = some (.cells #[.slice (some ⟨b1, 0, none⟩) l1.length l1.length, .slice (some ⟨b2, 0, none⟩) l2.length l2.length] t (0, 0))) (h1 : Kd.C k53 W (some ⟨b1, 0, none⟩) l1.length l1) (h2 : Kd.C k53 W (some ⟨b2, 0, none⟩) l2.length l2) : Kd.C (Kd.slice 53 k53) W (some ⟨b, 0, none⟩) 2 [l1, l2] := by
 refine ⟨rfl, by decide, fun _ => ⟨_, rfl, fun j p hj => ?_⟩⟩
 have hj1 : j < 2 := (List.getElem?_eq_some_iff.1 hj).1
 rcases j with _ | _ | j
 ·obtain rfl := Option.some.inj hj
  refine ⟨[.slice (some ⟨b1, 0, none⟩) l1.length l1.length], rfl, ⟨_, _, rfl, Nat.le_refl _, h1⟩, fun i u hu => ?_⟩
  have hi1 : i < 1 := (List.getElem?_eq_some_iff.1 hu).1
  obtain rfl : i = 0 := by omega
  rw [add_at, Nat.zero_add]
  show W.cell? ⟨b, 0, none⟩ = _
  rw [blk_cell h]
  exact hu
 ·obtain rfl := Option.some.inj hj
  refine ⟨[.slice (some ⟨b2, 0, none⟩) l2.length l2.length], rfl, ⟨_, _, rfl, Nat.le_refl _, h2⟩, fun i u hu => ?_⟩
  have hi1 : i < 1 := (List.getElem?_eq_some_iff.1 hu).1
  obtain rfl : i = 0 := by omega
  rw [add_at, Nat.zero_add]
  show W.cell? ⟨b, 1, none⟩ = _
  rw [blk_cell h]
  exact hu
 ·omega
/-- A row of steps that was just written down. -/
theorem C_steps (W : World) (xs : List S53) (inner : List Value) (hrep : Reps (k53.M W 0 (fun _ => False)) k53.sz xs inner) (hm : xs.length ≤ 9223372036854775807) : Kd.C k53 (W.alloc (.cells inner.toArray 53)) (some ⟨W.heap.size, 0, none⟩) xs.length xs :=
 (Kd.R_reads' (row_new k53 53 W 0 (Nat.zero_le _) xs inner hrep hm)).2.2
def stC (x : S53) : List Value := [.int .i64 x.f0, .int .i64 x.f1, .int .i64 x.f2, .int .i64 x.f3, .int .i64 x.f4]
theorem reps_steps (W : World) : ∀ xs : List S53, Reps (k53.M W 0 (fun _ => False)) k53.sz xs (xs.flatMap stC)
 | [] => Reps.none _ _
 | x :: r => Kd.reps_append (reps_sing (k53_mkM W 0 (fun _ => False) x) rfl) (reps_steps W r)
theorem C_ints {W : World} {b t : Nat} (xs : List Int) (h : W.heap[b]? = some (.cells (xs.map (Value.int .i64)).toArray t (0, 0))) (hn : xs.length ≤ 9223372036854775807) : Kd.C (Kd.int .i64) W (some ⟨b, 0, none⟩) xs.length xs :=
 ⟨rfl, hn, fun _ => ⟨_, rfl, fun j p hj => ⟨[.int .i64 p], rfl, rfl, fun i u hu => by
  cases i with
  | zero =>
   obtain rfl := Option.some.inj hu
   have := blk_cell h j
   simp only [List.getElem?_toArray, List.getElem?_map, hj, Option.map_some] at this
   rw [add_at, Nat.zero_add]
   show W.cell? ⟨b, j * 1 + 0, none⟩ = _
   rw [Nat.mul_one, Nat.add_zero]
   exact this
  | succ i => simp at hu⟩⟩⟩
/-- A program's box, and what it leads to. -/
structure HdP (gP : Nat) (A : Option Addr) (c : Nat) (B : Option Addr) (d : Nat) (xs : List (List S53)) (W : World) : Prop where
 bP : W.heap[gP]? = some (.cells #[.slice A 0 c, .slice B 2 d] 25 (0, 0))
 c0 : Kd.C (Kd.int .i64) W A 0 []
 c1 : Kd.C (Kd.slice 53 k53) W B 2 xs
 hd : 2 ≤ d
/-- A file's slices. -/
structure HdV (A1 : Option Addr) (c1 : Nat) (A2 : Option Addr) (c2 : Nat) (A4 : Option Addr) (c4 : Nat) (ts : List S58) (W : World) : Prop where
 h1 : Kd.V k62 62 W 0 (fun _ => True) (.slice A1 1 c1) bufI
 h2 : Kd.V k58 58 W 0 (fun _ => True) (.slice A2 2 c2) ts
 h4 : Kd.V k64 64 W 0 (fun _ => True) (.slice A4 2 c4) bufC
section
variable {W W' : World} {gP gQ c d c1 c2 c4 : Nat} {A B A1 A2 A4 : Option Addr} {xs : List (List S53)} {ts : List S58}
theorem HdP.below (h : HdP gP A c B d xs W) (hb : Below W.heap.size W W') : HdP gP A c B d xs W' := ⟨blk_below h.bP hb, Kd.C_below h.c0 hb, Kd.C_below h.c1 hb, h.hd⟩
theorem HdP.e0 (h : HdP gP A c B d xs W) : W.cell? ⟨gP, 0, none⟩ = some (.slice A 0 c) := (blk_cell h.bP 0).trans rfl
theorem HdP.e1 (h : HdP gP A c B d xs W) : W.cell? ⟨gP, 1, none⟩ = some (.slice B 2 d) := (blk_cell h.bP 1).trans rfl
theorem HdV.below (h : HdV A1 c1 A2 c2 A4 c4 ts W) (hb : Below W.heap.size W W') : HdV A1 c1 A2 c2 A4 c4 ts W' := ⟨Kd.V_below h.h1 hb, Kd.V_below h.h2 hb, Kd.V_below h.h4 hb⟩
theorem hd_made (W : World) (l1 l2 : List S53) (h1 : l1.length ≤ 9223372036854775807) (h2 : l2.length ≤ 9223372036854775807) : ∀ W', W' = (((W.alloc (.cells (l1.flatMap stC).toArray 53)).alloc (.cells (l2.flatMap stC).toArray 53)).alloc (.cells #[.slice (some ⟨W.heap.size, 0, none⟩) l1.length l1.length, .slice (some ⟨W.heap.size + 1, 0, none⟩) l2.length l2.length] 50)).alloc (.cells #[.slice none 0 0, .slice (some ⟨W.heap.size + 1 + 1, 0, none⟩) 2 2] 25) → HdP (W.heap.size + 1 + 1 + 1) none 0 (some ⟨W.heap.size + 1 + 1, 0, none⟩) 2 [l1, l2] W' ∧ Below W.heap.size W W' := by
 rintro W' rfl
 have g1 := C_steps W l1 _ (reps_steps W l1) h1
 have g2 := C_steps (W.alloc (.cells (l1.flatMap stC).toArray 53)) l2 _ (reps_steps _ l2) h2
 rw [World.size_alloc] at g2
 have g3 := blk_new ((W.alloc (.cells (l1.flatMap stC).toArray 53)).alloc (.cells (l2.flatMap stC).toArray 53)) (.cells #[.slice (some ⟨W.heap.size, 0, none⟩) l1.length l1.length, .slice (some ⟨W.heap.size + 1, 0, none⟩) l2.length l2.length] 50)
 rw [World.size_alloc, World.size_alloc] at g3
 have g4 := blk_new (((W.alloc (.cells (l1.flatMap stC).toArray 53)).alloc (.cells (l2.flatMap stC).toArray 53)).alloc (.cells #[.slice (some ⟨W.heap.size, 0, none⟩) l1.length l1.length, .slice (some ⟨W.heap.size + 1, 0, none⟩) l2.length l2.length] 50)) (.cells #[.slice none 0 0, .slice (some ⟨W.heap.size + 1 + 1, 0, none⟩) 2 2] 25)
 rw [World.size_alloc, World.size_alloc, World.size_alloc] at g4
 exact ⟨⟨g4, C_nil _ _, Kd.C_alloc (C_two g3 (Kd.C_alloc (Kd.C_alloc g1 _) _) (Kd.C_alloc g2 _)) _, Nat.le_refl _⟩, below_alloc (below_alloc (below_alloc (below_alloc (Below.refl _ _) _) _) _) _⟩
theorem hdInsert (h : HdP gP A c B d [hdA, hdB] W) : Calls Try.prog 22 #[.agg #[.slice A 0 c, .slice B 2 d], .slice (some ⟨W.heap.size, 0, none⟩) 4 4] (W.alloc (.cells #[.int .i64 1, .int .i64 2, .int .i64 7, .int .i64 1] 3)) fun e w' => ∃ Aq cq Bq dq, e = .returned (.agg #[.slice Aq 0 cq, .slice Bq 2 dq]) ∧ Kd.C (Kd.int .i64) w' Aq 0 [] ∧ Kd.C (Kd.slice 53 k53) w' Bq 2 [hdQA, hdQB] ∧ 2 ≤ dq ∧ Below W.heap.size W w' := by
 refine (slots_Insert.calls A c [] B d [hdA, hdB] (some ⟨W.heap.size, 0, none⟩) 4 [1, 2, 7, 1] [] [hdQA, hdQB] _ (Kd.C_alloc h.c0 _) (Nat.zero_le _) (Kd.C_alloc h.c1 _) h.hd (C_ints [1, 2, 7, 1] (blk_new W _) (by decide)) (Nat.le_refl _) hd_ins).mono ?_
 rintro e w' ⟨v0, v1, rfl, g0, g1, hb⟩
 obtain ⟨Aq, cq, rfl⟩ := Kd.R_slice g0
 obtain ⟨Bq, dq, rfl⟩ := Kd.S_slice g1
 exact ⟨Aq, cq, Bq, dq, rfl, (Kd.R_reads' g0).2.2, (Kd.S_reads' g1).2.2, (Kd.S_reads' g1).2.1, below_step (below_alloc (Below.refl _ _) _) hb⟩
theorem hdOf (h : HdP gP A c B d [hdA, hdB] W) (n a b : Int) (is : Bool) (hof : slots_Of.f [] [hdA, hdB] n = some (a, b, is)) : Calls Try.prog 13 #[.agg #[.slice A 0 c, .slice B 2 d], .int .i64 n] W fun e w' => e = .returned (.tuple #[.int .i64 a, .int .i64 b, .bool is]) ∧ Below W.heap.size W w' :=
 slots_Of.calls A c [] B d [hdA, hdB] n a b is W h.c0 (Nat.zero_le _) h.c1 h.hd hof
theorem hdNum (h : HdP gP A c B d [hdA, hdB] W) (a b r : Int) (hn : slots_Num.f [] [hdA, hdB] a b = some r) : Calls Try.prog 19 #[.agg #[.slice A 0 c, .slice B 2 d], .int .i64 a, .int .i64 b] W fun e w' => e = .returned (.int .i64 r) ∧ Below W.heap.size W w' :=
 slots_Num.calls A c [] B d [hdA, hdB] a b r W h.c0 (Nat.zero_le _) h.c1 h.hd hn
theorem hdMany (h : HdP gP A c B d [hdA, hdB] W) : Calls Try.prog 17 #[.agg #[.slice A 0 c, .slice B 2 d]] W fun e w' => e = .returned (.int .i64 3) ∧ Below W.heap.size W w' :=
 slots_Many.calls A c [] B d [hdA, hdB] 3 W h.c0 (Nat.zero_le _) h.c1 h.hd hd_many
theorem hdSame {A' B' : Option Addr} {c' d' : Nat} (h : HdP gP A c B d [hdQA, hdQB] W) (h' : HdP gQ A' c' B' d' [hdQA, hdQB] W) : Calls Try.prog 21 #[.agg #[.slice A 0 c, .slice B 2 d], .agg #[.slice A' 0 c', .slice B' 2 d']] W fun e w' => e = .returned (.bool true) ∧ Below W.heap.size W w' :=
 fencepostref07_Same.calls 20 A c [] B d [hdQA, hdQB] A' c' [] B' d' [hdQA, hdQB] true W h.c0 (Nat.zero_le _) h.c1 h.hd h'.c0 (Nat.zero_le _) h'.c1 h'.hd hd_same
theorem hdBuf (W : World) : Calls Try.prog 30 #[] W fun e w' => ∃ A1 c1 A2 c2 A4 c4, e = .returned (.agg #[.string hdN, .slice A1 1 c1, .slice A2 2 c2, .bool false, .slice A4 2 c4]) ∧ HdV A1 c1 A2 c2 A4 c4 bufT w' ∧ Below W.heap.size W w' := by
 refine (fencepostlaw04_Buffering.calls hdN bufI bufT false bufC W hd_buf).mono ?_
 rintro e w' ⟨v1, v2, v4, rfl, g1, g2, g4, hb⟩
 have q1 : Kd.V k62 62 w' 0 (fun _ => True) v1 bufI := Kd.V_mono (Kd.R_V g1) (fun _ _ => trivial)
 have q2 : Kd.V k58 58 w' 0 (fun _ => True) v2 bufT := Kd.V_mono (Kd.N_V g2) (fun _ _ => trivial)
 have q4 : Kd.V k64 64 w' 0 (fun _ => True) v4 bufC := Kd.V_mono (Kd.R_V g4) (fun _ _ => trivial)
 obtain ⟨A1, c1, rfl⟩ := Kd.V_slice q1
 obtain ⟨A2, c2, rfl⟩ := Kd.V_slice q2
 obtain ⟨A4, c4, rfl⟩ := Kd.V_slice q4
 exact ⟨A1, c1, A2, c2, A4, c4, rfl, ⟨q1, q2, q4⟩, hb⟩
theorem hdFence (h : HdV A1 c1 A2 c2 A4 c4 bufT W) : Calls Try.prog 25 #[.agg #[.string hdN, .slice A1 1 c1, .slice A2 2 c2, .bool false, .slice A4 2 c4], .slice (some ⟨W.heap.size, 0, none⟩) 2 2] (W.alloc (.cells #[.int .i64 1, .int .i64 3] 3)) fun e w' => ∃ B1 d1 B2 d2 B4 d4, e = .returned (.agg #[.string hdN, .slice B1 1 d1, .slice B2 2 d2, .bool false, .slice B4 2 d4]) ∧ HdV B1 d1 B2 d2 B4 d4 fncT w' ∧ Below W.heap.size W w' := by
 have h' := h.below (below_alloc (Below.refl W.heap.size W) (.cells #[.int .i64 1, .int .i64 3] 3))
 refine (slots_Fence.calls hdN (fun _ => True) A1 c1 bufI A2 c2 bufT false (fun _ => True) A4 c4 bufC (some ⟨W.heap.size, 0, none⟩) 2 [1, 3] hdN bufI fncT false bufC _ h'.h1 (Kd.V_reads' h'.h2).2.2 (Kd.V_reads' h'.h2).2.1 h'.h4 (C_ints [1, 3] (blk_new W _) (by decide)) (Nat.le_refl _) hd_fence).mono ?_
 rintro e w' ⟨v1, v2, v4, rfl, g1, g2, g4, hb⟩
 have q1 : Kd.V k62 62 w' 0 (fun _ => True) v1 bufI := Kd.V_mono g1 (fun _ _ => trivial)
 have q2 : Kd.V k58 58 w' 0 (fun _ => True) v2 fncT := Kd.V_mono (Kd.S_V g2) (fun _ _ => trivial)
 have q4 : Kd.V k64 64 w' 0 (fun _ => True) v4 bufC := Kd.V_mono g4 (fun _ _ => trivial)
 obtain ⟨B1, d1, rfl⟩ := Kd.V_slice q1
 obtain ⟨B2, d2, rfl⟩ := Kd.V_slice q2
 obtain ⟨B4, d4, rfl⟩ := Kd.V_slice q4
 exact ⟨B1, d1, B2, d2, B4, d4, rfl, ⟨q1, q2, q4⟩, below_step (below_alloc (Below.refl _ _) _) hb⟩
theorem hdErase (g : List Int) (cs : Array Value) (n : Nat) (hcs : (g.map (Value.int .i64)).toArray = cs) (hg : g.length = n) (hn : n ≤ 100) (is : Bool) (us : List S58) (hu : us.length = 2) (he : slots_Erase.f hdN bufI ts false bufC g = some (hdN, bufI, us, false, bufC, is)) (h : HdV A1 c1 A2 c2 A4 c4 ts W) : Calls Try.prog 15 #[.agg #[.string hdN, .slice A1 1 c1, .slice A2 2 c2, .bool false, .slice A4 2 c4], .slice (some ⟨W.heap.size, 0, none⟩) n n] (W.alloc (.cells cs 3)) fun e w' => ∃ B1 d1 B2 d2 B4 d4, e = .returned (.tuple #[.agg #[.string hdN, .slice B1 1 d1, .slice B2 2 d2, .bool false, .slice B4 2 d4], .bool is]) ∧ HdV B1 d1 B2 d2 B4 d4 us w' ∧ Below W.heap.size W w' := by
 subst hcs
 subst hg
 have h' := h.below (below_alloc (Below.refl W.heap.size W) (.cells (g.map (Value.int .i64)).toArray 3))
 have hl := (Kd.V_reads' h'.h2).1
 have hh := h'.h2
 rw [hl] at hh
 have hC := slots_Erase.calls hdN (fun _ => True) A1 c1 bufI (fun _ => True) A2 c2 ts false (fun _ => True) A4 c4 bufC (some ⟨W.heap.size, 0, none⟩) g.length g hdN bufI us false bufC is _ h'.h1 hh h'.h4 (C_ints g (blk_new W _) (by omega)) (Nat.le_refl _) he
 rw [← hl] at hC
 refine hC.mono ?_
 rintro e w' ⟨v1, v2, v4, rfl, g1, g2, g4, hb⟩
 have q1 : Kd.V k62 62 w' 0 (fun _ => True) v1 bufI := Kd.V_mono g1 (fun _ _ => trivial)
 have q2 : Kd.V k58 58 w' 0 (fun _ => True) v2 us := Kd.V_mono g2 (fun _ _ => trivial)
 have q4 : Kd.V k64 64 w' 0 (fun _ => True) v4 bufC := Kd.V_mono g4 (fun _ _ => trivial)
 obtain ⟨B1, d1, rfl⟩ := Kd.V_slice q1
 obtain ⟨B2, d2, rfl⟩ := Kd.V_slice q2
 obtain ⟨B4, d4, rfl⟩ := Kd.V_slice q4
 rw [hu] at q2 ⊢
 exact ⟨B1, d1, B2, d2, B4, d4, rfl, ⟨q1, q2, q4⟩, below_step (below_alloc (Below.refl _ _) _) hb⟩
theorem hdSame4 {B1 B2 B4 : Option Addr} {d1 d2 d4 : Nat} (h : HdV A1 c1 A2 c2 A4 c4 bufT W) (h' : HdV B1 d1 B2 d2 B4 d4 bufT W) : Calls Try.prog 24 #[.agg #[.string hdN, .slice A1 1 c1, .slice A2 2 c2, .bool false, .slice A4 2 c4], .agg #[.string hdN, .slice B1 1 d1, .slice B2 2 d2, .bool false, .slice B4 2 d4]] W fun e w' => e = .returned (.bool true) ∧ Below W.heap.size W w' :=
 fencepostref04_Same.calls 20 hdN A1 c1 bufI A2 c2 bufT false A4 c4 bufC hdN B1 d1 bufI B2 d2 bufT false B4 d4 bufC true W (Kd.V_reads' h.h1).2.2 (Kd.V_reads' h.h1).2.1 (Kd.V_reads' h.h2).2.2 (Kd.V_reads' h.h2).2.1 (Kd.V_reads' h.h4).2.2 (Kd.V_reads' h.h4).2.1 (Kd.V_reads' h'.h1).2.2 (Kd.V_reads' h'.h1).2.1 (Kd.V_reads' h'.h2).2.2 (Kd.V_reads' h'.h2).2.1 (Kd.V_reads' h'.h4).2.2 (Kd.V_reads' h'.h4).2.1 hd_same4
end
theorem hdLine {W : World} {A1 A2 A4 : Option Addr} {c1 c2 c4 : Nat} (h : HdV A1 c1 A2 c2 A4 c4 fncT W) : ∃ ad X d, A2 = some ad ∧ W.cell? ⟨ad.block, ad.off + 1, none⟩ = some (.slice (some X) 3 d) ∧ W.cell? ⟨X.block, X.off + 5, none⟩ = some (.int .i64 6) := by
 obtain ⟨ad, X, d, e, g1, g2, g3⟩ := at_T58 (Kd.V_reads' h.h2).2.2 1 (by decide) (by decide)
 obtain ⟨ad2, e2, y0, _⟩ := at_T60 g3 1 (by decide) (by decide)
 subst e2
 exact ⟨ad, ad2, d, e, g1, y0⟩
def fencepostlaw08_head.T9 : Bool × List (List Nat × List Nat) := (true, [([], []), ([0], [0]), ([1], [1]), ([2, 1], [2]), ([3], [3]), ([4, 3], [3, 4]), ([3, 5], [3, 5]), ([6, 3], [6]), ([7], [7]), ([8, 7], [7, 8]), ([7, 9], [7, 9]), ([10, 7], [10]), ([11], [11]), ([11, 12], [11, 12]), ([13, 11], [13]), ([14], [14]), ([15, 14], [14, 15]), ([14, 16], [14, 16]), ([17, 14], [17]), ([18], [18]), ([19, 18, 18], [18, 19]), ([20, 18], [18, 20]), ([18, 21], [18, 21]), ([22, 20], [22]), ([23], [23]), ([24, 23, 23], [23, 24]), ([25, 23], [23, 25]), ([23, 26], [23, 26]), ([27, 25], [27]), ([28], [28]), ([28], [28]), ([29, 30, 28, 28], [28, 29, 30]), ([28, 31], [28, 31]), ([32, 31], [32]), ([33], [33]), ([34, 33], [33, 34]), ([35, 33], [33, 35]), ([36, 33], [33, 36]), ([33, 37], [33, 37]), ([38, 33], [38]), ([39], [39]), ([40, 39], [39, 40]), ([41, 39], [39, 41]), ([42, 39], [39, 42]), ([43, 39], [39, 43]), ([44, 39], [39, 44]), ([45, 39], [39, 45]), ([39, 46], [39, 46]), ([47, 39], [47]), ([48], [48]), ([49, 48], [48, 49]), ([50, 48], [48, 50]), ([51, 48], [48, 51]), ([52, 48], [48, 52]), ([53, 48], [48, 53]), ([54, 48], [48, 54]), ([55, 48], [48, 55]), ([56, 48], [48, 56]), ([48, 57], [48, 57]), ([58, 48], [58]), ([59], [59]), ([59, 59], [59]), ([60, 61, 61, 59], [59, 60, 61]), ([59, 62], [59, 62]), ([63, 62], [63]), ([64], [64]), ([64, 65], [64, 65]), ([66, 64], [66]), ([67], [67]), ([68, 67], [67, 68]), ([67, 69], [67, 69]), ([70, 67, 0, 1, 2, 3, 4, 5, 6, 7, 8, 9, 10, 11, 12, 13, 14, 15, 16, 17, 18, 19, 20, 21, 22, 23, 24, 25, 26, 27, 28, 29, 30, 31, 32, 33, 34, 35, 36, 37, 38, 39, 40, 41, 42, 43, 44, 45, 46, 47, 48, 49, 50, 51, 52, 53, 54, 55, 56, 57, 58, 59, 60, 61, 62, 63, 64, 65, 66, 67, 68, 69, 70], [70])])
def fencepostlaw08_head.B9 : List Nat := [0, 1, 3, 7, 15, 31, 63, 127, 255, 511, 1023, 2047, 4095, 8191, 16383, 32767, 65535, 131071, 262143, 524287, 1048575, 2097151, 4194303, 8388607, 16777215, 33554431, 67108863, 134217727, 268435455, 536870911, 536870911, 2147483647, 4294967295, 8589934591, 17179869183, 34359738367, 68719476735, 137438953471, 274877906943, 549755813887, 1099511627775, 2199023255551, 4398046511103, 8796093022207, 17592186044415, 35184372088831, 70368744177663, 140737488355327, 281474976710655, 562949953421311, 1125899906842623, 2251799813685247, 4503599627370495, 9007199254740991, 18014398509481983, 36028797018963967, 72057594037927935, 144115188075855871, 288230376151711743, 576460752303423487, 1152921504606846975, 1152921504606846975, 4611686018427387903, 9223372036854775807, 18446744073709551615, 36893488147419103231, 73786976294838206463, 147573952589676412927, 295147905179352825855, 590295810358705651711, 1180591620717411303423, 2361183241434822606847]
theorem fencepostlaw08_head.tab9 : rtab .any (opsOf Try.f10 9) = fencepostlaw08_head.T9 := by kernel_rfl
theorem fencepostlaw08_head.bits9 : waitsOk fencepostlaw08_head.T9.2 fencepostlaw08_head.B9 = true := by kernel_rfl
def fencepostlaw08_head.f : Option Bool := some true
set_option maxRecDepth 100000 in
set_option maxHeartbeats 4000000 in
theorem fencepostlaw08_head.calls (r : Bool) (w : World) (h : fencepostlaw08_head.f = some r) : Calls Try.prog 10 #[] w fun e w' => e = .returned (.bool r) ∧ Below w.heap.size w w' := by
 obtain rfl := Option.some.inj h
 clear h
 have hu1 := Try.underlying25
 have hu2 := Try.underlying53
 have hu3 := Try.underlying30
 have hu4 := Try.underlying58
 have hu5 := Try.underlying60
 go_enter Try.func10, Try.ntmps10
 (try simp only [List.append_eq, List.cons_append, List.nil_append])
 go_upto_region 2 with fail
 obtain ⟨W1, hW1⟩ : ∃ W1, W1 = (((w.alloc (.cells #[.int .i64 8, .int .i64 0, .int .i64 0, .int .i64 0, .int .i64 1, .int .i64 6, .int .i64 0, .int .i64 0, .int .i64 0, .int .i64 0] 53)).alloc (.cells #[.int .i64 9, .int .i64 0, .int .i64 0, .int .i64 0, .int .i64 1] 53)).alloc (.cells #[.slice (some ⟨w.heap.size, 0, none⟩) 2 2, .slice (some ⟨w.heap.size + 1, 0, none⟩) 1 1] 50)).alloc (.cells #[.slice none 0 0, .slice (some ⟨w.heap.size + 1 + 1, 0, none⟩) 2 2] 25) := ⟨_, rfl⟩
 obtain ⟨hp, hb⟩ := hd_made w hdA hdB (by decide) (by decide) W1 hW1
 rw [← hW1]
 clear hW1
 generalize w.heap.size + 1 + 1 + 1 = gP at hp ⊢
 generalize w.heap.size + 1 + 1 = bT at hp ⊢
 have ep0 := hp.e0
 have ep1 := hp.e1
 have HP := Aside0.mk hp
 have HB := Aside0.mk hb
 clear hp hb
 go_upto_region 3 with (go_at_call 22; with_reducible refine (hdInsert HP.out).mono ?_; rintro e w2 ⟨Aq, cq, Bq, dq, rfl, hq0, hq1, hqd, hb2⟩; have HQ0 := Aside0.mk hq0; have HQ1 := Aside0.mk hq1; have HQD := Aside0.mk hqd; have HB2 := Aside0.mk hb2; clear hq0 hq1 hqd hb2)
 obtain ⟨W3, hW3⟩ : ∃ W3, W3 = w2.alloc (.cells #[.slice Aq 0 cq, .slice Bq 2 dq] 25) := ⟨_, rfl⟩
 have hb23 : Below w2.heap.size w2 W3 := by rw [hW3]; exact below_alloc (Below.refl _ _) _
 have HQ3 : Aside0 (HdP w2.heap.size Aq cq Bq dq [hdQA, hdQB] W3) := Aside0.mk ⟨by rw [hW3]; exact blk_new w2 _, Kd.C_below HQ0.out hb23, Kd.C_below HQ1.out hb23, HQD.out⟩
 have HP3 := Aside0.mk ((HP.out.below HB2.out).below hb23)
 have HB3 := Aside0.mk (below_step (below_step HB.out HB2.out) hb23)
 rw [← hW3]
 clear hW3 hb23 HQ0 HQ1 HQD HB2 HP HB ep0 ep1
 generalize w2.heap.size = gQ at HQ3 ⊢
 go_upto_region 4 with fail
 obtain ⟨W4, hW4⟩ : ∃ W4, W4 = (((W3.alloc (.cells #[.int .i64 8, .int .i64 0, .int .i64 0, .int .i64 0, .int .i64 1, .int .i64 6, .int .i64 0, .int .i64 0, .int .i64 0, .int .i64 0, .int .i64 6, .int .i64 0, .int .i64 0, .int .i64 0, .int .i64 0] 53)).alloc (.cells #[.int .i64 6, .int .i64 0, .int .i64 0, .int .i64 0, .int .i64 0, .int .i64 9, .int .i64 0, .int .i64 0, .int .i64 0, .int .i64 2] 53)).alloc (.cells #[.slice (some ⟨W3.heap.size, 0, none⟩) 3 3, .slice (some ⟨W3.heap.size + 1, 0, none⟩) 2 2] 50)).alloc (.cells #[.slice none 0 0, .slice (some ⟨W3.heap.size + 1 + 1, 0, none⟩) 2 2] 25) := ⟨_, rfl⟩
 obtain ⟨hw, hb⟩ := hd_made W3 hdQA hdQB (by decide) (by decide) W4 hW4
 have HP4 := Aside0.mk (HP3.out.below hb)
 have HQ4 := Aside0.mk (HQ3.out.below hb)
 have HB4 := Aside0.mk (below_step HB3.out hb)
 rw [← hW4]
 clear hW4 hb HP3 HQ3 HB3
 generalize W3.heap.size + 1 + 1 + 1 = gW at hw ⊢
 generalize W3.heap.size + 1 + 1 = bW at hw ⊢
 have HW4 := Aside0.mk hw
 clear hw
 have ep0 := HP4.out.e0
 have ep1 := HP4.out.e1
 go_upto_region 5 with (go_at_call 13; with_reducible refine (hdOf HP4.out 2 1 0 true hd_of2).mono ?_; rintro e w5 ⟨rfl, hb⟩; have HP5 := Aside0.mk (HP4.out.below hb); have HQ5 := Aside0.mk (HQ4.out.below hb); have HW5 := Aside0.mk (HW4.out.below hb); have HB5 := Aside0.mk (below_step HB4.out hb); clear hb HP4 HQ4 HW4 HB4 ep0 ep1)
 have ep0 := HP5.out.e0
 have ep1 := HP5.out.e1
 go_upto_region 6 with (go_at_call 13; with_reducible refine (hdOf HP5.out 3 0 0 false hd_of3).mono ?_; rintro e w6 ⟨rfl, hb⟩; have HP6 := Aside0.mk (HP5.out.below hb); have HQ6 := Aside0.mk (HQ5.out.below hb); have HW6 := Aside0.mk (HW5.out.below hb); have HB6 := Aside0.mk (below_step HB5.out hb); clear hb HP5 HQ5 HW5 HB5 ep0 ep1)
 go_upto_region 7 with (first | (go_at_call 30; with_reducible refine (hdBuf w6).mono ?_; rintro e w7 ⟨A1, c1, A2, c2, A4, c4, rfl, hv, hb⟩; have HV7 := Aside0.mk hv; have HP7 := Aside0.mk (HP6.out.below hb); have HQ7 := Aside0.mk (HQ6.out.below hb); have HW7 := Aside0.mk (HW6.out.below hb); have HB7 := Aside0.mk (below_step HB6.out hb); clear hv hb HP6 HQ6 HW6 HB6) | (go_at_call 25; with_reducible refine (hdFence HV7.out).mono ?_; rintro e w8 ⟨F1, f1, F2, f2, F4, f4, rfl, hv, hb⟩; have HV8 := Aside0.mk hv; have HP8 := Aside0.mk (HP7.out.below hb); have HQ8 := Aside0.mk (HQ7.out.below hb); have HW8 := Aside0.mk (HW7.out.below hb); have HB8 := Aside0.mk (below_step HB7.out hb); clear hv hb HP7 HQ7 HW7 HB7 HV7))
 obtain ⟨W9, hW9⟩ : ∃ W9, W9 = w8.alloc (.cells #[.string hdN, .slice F1 1 f1, .slice F2 2 f2, .bool false, .slice F4 2 f4] 30) := ⟨_, rfl⟩
 have hb89 : Below w8.heap.size w8 W9 := by rw [hW9]; exact below_alloc (Below.refl _ _) _
 have BF9 : Aside0 (W9.heap[w8.heap.size]? = some (.cells #[.string hdN, .slice F1 1 f1, .slice F2 2 f2, .bool false, .slice F4 2 f4] 30 (0, 0))) := Aside0.mk (by rw [hW9]; exact blk_new w8 _)
 have HV9 := Aside0.mk (HV8.out.below hb89)
 have HP9 := Aside0.mk (HP8.out.below hb89)
 have HQ9 := Aside0.mk (HQ8.out.below hb89)
 have HW9 := Aside0.mk (HW8.out.below hb89)
 have HB9 := Aside0.mk (below_step HB8.out hb89)
 rw [← hW9]
 clear hW9 hb89 HV8 HP8 HQ8 HW8 HB8
 generalize w8.heap.size = gF at BF9 ⊢
 have ef0 : W9.cell? ⟨gF, 0, none⟩ = some (.string hdN) := (blk_cell BF9.out 0).trans rfl
 have ef1 : W9.cell? ⟨gF, 1, none⟩ = some (.slice F1 1 f1) := (blk_cell BF9.out 1).trans rfl
 have ef2 : W9.cell? ⟨gF, 2, none⟩ = some (.slice F2 2 f2) := (blk_cell BF9.out 2).trans rfl
 have ef3 : W9.cell? ⟨gF, 3, none⟩ = some (.bool false) := (blk_cell BF9.out 3).trans rfl
 have ef4 : W9.cell? ⟨gF, 4, none⟩ = some (.slice F4 2 f4) := (blk_cell BF9.out 4).trans rfl
 go_upto_region 8 with (go_at_call 15; with_reducible refine (hdErase [1, 3] #[.int .i64 1, .int .i64 3] 2 rfl rfl (by decide) true bufT rfl hd_erase HV9.out).mono ?_; rintro e w10 ⟨E1, e1, E2, e2, E4, e4, rfl, hv, hb⟩; have HE10 := Aside0.mk hv; have HV10 := Aside0.mk (HV9.out.below hb); have BF10 := Aside0.mk (blk_below BF9.out hb); have HP10 := Aside0.mk (HP9.out.below hb); have HQ10 := Aside0.mk (HQ9.out.below hb); have HW10 := Aside0.mk (HW9.out.below hb); have HB10 := Aside0.mk (below_step HB9.out hb); clear hv hb HP9 HQ9 HW9 HB9 HV9 BF9 ef0 ef1 ef2 ef3 ef4)
 obtain ⟨W11, hW11⟩ : ∃ W11, W11 = w10.alloc (.cells #[.string hdN, .slice E1 1 e1, .slice E2 2 e2, .bool false, .slice E4 2 e4] 30) := ⟨_, rfl⟩
 have hb : Below w10.heap.size w10 W11 := by rw [hW11]; exact below_alloc (Below.refl _ _) _
 have BE11 : Aside0 (W11.heap[w10.heap.size]? = some (.cells #[.string hdN, .slice E1 1 e1, .slice E2 2 e2, .bool false, .slice E4 2 e4] 30 (0, 0))) := Aside0.mk (by rw [hW11]; exact blk_new w10 _)
 have HV11 := Aside0.mk (HV10.out.below hb)
 have HE11 := Aside0.mk (HE10.out.below hb)
 have HP11 := Aside0.mk (HP10.out.below hb)
 have HQ11 := Aside0.mk (HQ10.out.below hb)
 have HW11 := Aside0.mk (HW10.out.below hb)
 have BF11 := Aside0.mk (blk_below BF10.out hb)
 have HB11 := Aside0.mk (below_step HB10.out hb)
 rw [← hW11]
 clear hW11 hb HV10 HE10 HP10 HQ10 HW10 BF10 HB10
 generalize w10.heap.size = gE at BE11 ⊢
 obtain ⟨adF, XF, dF, hf2, ht1, ht2⟩ := hdLine HV11.out
 subst hf2
 have HT11 := Aside0.mk (And.intro ht1 ht2)
 clear ht1 ht2
 go_upto_region 9 with (first | (go_at_call 30; with_reducible refine (hdBuf W11).mono ?_; rintro e w12 ⟨A1', c1', A2', c2', A4', c4', rfl, hv, hb⟩; have HX12 := Aside0.mk hv; clear hv; have HV12 := Aside0.mk (HV11.out.below hb); have HE12 := Aside0.mk (HE11.out.below hb); have HP12 := Aside0.mk (HP11.out.below hb); have HQ12 := Aside0.mk (HQ11.out.below hb); have HW12 := Aside0.mk (HW11.out.below hb); have BF12 := Aside0.mk (blk_below BF11.out hb); have BE12 := Aside0.mk (blk_below BE11.out hb); have HB12 := Aside0.mk (below_step HB11.out hb); have HT12 := Aside0.mk (And.intro (pw_cell_below hb HT11.out.1) (pw_cell_below hb HT11.out.2)); clear hb HV11 HE11 HP11 HQ11 HW11 BF11 BE11 HB11 HT11; ) | (go_at_call 15; with_reducible refine (hdErase [0] #[.int .i64 0] 1 rfl rfl (by decide) false bufT rfl hd_off HX12.out).mono ?_; rintro e w13 ⟨G1, g1, G2, g2, G4, g4, rfl, hv, hb⟩; clear hv HX12; have HV13 := Aside0.mk (HV12.out.below hb); have HE13 := Aside0.mk (HE12.out.below hb); have HP13 := Aside0.mk (HP12.out.below hb); have HQ13 := Aside0.mk (HQ12.out.below hb); have HW13 := Aside0.mk (HW12.out.below hb); have BF13 := Aside0.mk (blk_below BF12.out hb); have BE13 := Aside0.mk (blk_below BE12.out hb); have HB13 := Aside0.mk (below_step HB12.out hb); have HT13 := Aside0.mk (And.intro (pw_cell_below hb HT12.out.1) (pw_cell_below hb HT12.out.2)); clear hb HV12 HE12 HP12 HQ12 HW12 BF12 BE12 HB12 HT12; ))
 obtain ⟨W14, hW14⟩ : ∃ W14, W14 = w13.alloc (.cells #[.string hdN, .slice G1 1 g1, .slice G2 2 g2, .bool false, .slice G4 2 g4] 30) := ⟨_, rfl⟩
 have hb : Below w13.heap.size w13 W14.drew := by rw [hW14]; exact below_drew1 (below_alloc (Below.refl _ _) _)
 have HV15 := Aside0.mk (HV13.out.below hb)
 have HE15 := Aside0.mk (HE13.out.below hb)
 have HP15 := Aside0.mk (HP13.out.below hb)
 have HQ15 := Aside0.mk (HQ13.out.below hb)
 have HW15 := Aside0.mk (HW13.out.below hb)
 have BF15 := Aside0.mk (blk_below BF13.out hb)
 have BE15 := Aside0.mk (blk_below BE13.out hb)
 have HB15 := Aside0.mk (below_step HB13.out hb)
 have HT15 := Aside0.mk (And.intro (pw_cell_below hb HT13.out.1) (pw_cell_below hb HT13.out.2))
 clear hb HV13 HE13 HP13 HQ13 HW13 BF13 BE13 HB13 HT13
 rw [← hW14]
 clear hW14
 refine start_ (n := 72) (S := fun w' => w'.cell? ⟨gP, 0, none⟩ = some (.slice none 0 0) ∧ w'.cell? ⟨gP, 1, none⟩ = some (.slice (some ⟨bT, 0, none⟩) 2 2) ∧ w'.cell? ⟨gQ, 0, none⟩ = some (.slice Aq 0 cq) ∧ w'.cell? ⟨gQ, 1, none⟩ = some (.slice Bq 2 dq) ∧ w'.cell? ⟨gW, 0, none⟩ = some (.slice none 0 0) ∧ w'.cell? ⟨gW, 1, none⟩ = some (.slice (some ⟨bW, 0, none⟩) 2 2) ∧ w'.cell? ⟨gF, 2, none⟩ = some (.slice (some adF) 2 f2) ∧ w'.cell? ⟨gE, 0, none⟩ = some (.string hdN) ∧ w'.cell? ⟨gE, 1, none⟩ = some (.slice E1 1 e1) ∧ w'.cell? ⟨gE, 2, none⟩ = some (.slice E2 2 e2) ∧ w'.cell? ⟨gE, 3, none⟩ = some (.bool false) ∧ w'.cell? ⟨gE, 4, none⟩ = some (.slice E4 2 e4) ∧ w'.cell? ⟨adF.block, adF.off + 1, none⟩ = some (.slice (some XF) 3 dF) ∧ w'.cell? ⟨XF.block, XF.off + 5, none⟩ = some (.int .i64 6)) (ds := []) (lb_ 72 0) (by kernel_rfl) rfl rfl ⟨HP15.out.e0, HP15.out.e1, HQ15.out.e0, HQ15.out.e1, HW15.out.e0, HW15.out.e1, (blk_cell BF15.out 2).trans rfl, (blk_cell BE15.out 0).trans rfl, (blk_cell BE15.out 1).trans rfl, (blk_cell BE15.out 2).trans rfl, (blk_cell BE15.out 3).trans rfl, (blk_cell BE15.out 4).trans rfl, HT15.out.1, HT15.out.2⟩ (fun hHeld => ?_)
 refine with_tabW fencepostlaw08_head.tab9 fencepostlaw08_head.bits9 (fun HT_ HW_ => ?_)
 generalize W14.drew = W15 at HV15 HE15 HP15 HQ15 HW15 BF15 BE15 HB15 HT15 hHeld ⊢
 refine take_ (i := 0) (N := some 61) (v := ?_) (a' := ?_) (lb_ 72 1) rfl rfl (take_ofW HT_.out HW_.out (by kernel_rfl)) (fun _ _ _ h => h) (Or.inl ⟨by rfl, ?_⟩) hHeld ?_ ?_; rotate_left; rintro w' ⟨s0, s1, s2, s3, s4, s5, s6, s7, s8, s9, s10, s11, s12, s13⟩; go_simp; with_reducible rfl; rotate_left; simp only [Act.put, List.setIfInBounds_toArray, List.set_cons_zero, List.set_cons_succ, i64_w, i32_w]; rfl
 refine one_ (i := 1) (N := some 62) (lb_ 72 3) rfl rfl (one_of HT_.out (by kernel_rfl)) (by decide) (fun K hK => ?_)
 refine goes_ Try.func17 (by kernel_rfl) rfl #[.agg #[.slice none 0 0, .slice (some ⟨bT, 0, none⟩) 2 2]] (by rfl) rfl rfl (by (try simp only [List.map_toArray, List.map_cons, List.map_nil]); first | done | rfl) ?_
 refine (hdMany HP15.out).mono ?_
 rintro e W16 ⟨rfl, hb⟩
 refine ⟨_, rfl, ?_⟩
 have HV16 := Aside0.mk (HV15.out.below hb)
 have HE16 := Aside0.mk (HE15.out.below hb)
 have HP16 := Aside0.mk (HP15.out.below hb)
 have HQ16 := Aside0.mk (HQ15.out.below hb)
 have HW16 := Aside0.mk (HW15.out.below hb)
 have BF16 := Aside0.mk (blk_below BF15.out hb)
 have BE16 := Aside0.mk (blk_below BE15.out hb)
 have HB16 := Aside0.mk (below_step HB15.out hb)
 have HT16 := Aside0.mk (And.intro (pw_cell_below hb HT15.out.1) (pw_cell_below hb HT15.out.2))
 clear hb HV15 HE15 HP15 HQ15 HW15 BF15 BE15 HB15 HT15
 refine hK.out _ _ ⟨HP16.out.e0, HP16.out.e1, HQ16.out.e0, HQ16.out.e1, HW16.out.e0, HW16.out.e1, (blk_cell BF16.out 2).trans rfl, (blk_cell BE16.out 0).trans rfl, (blk_cell BE16.out 1).trans rfl, (blk_cell BE16.out 2).trans rfl, (blk_cell BE16.out 3).trans rfl, (blk_cell BE16.out 4).trans rfl, HT16.out.1, HT16.out.2⟩ (fun hHeld => ?_)
 clear hK K
 refine norm_ (a' := ?_) ?_ ?_
 rotate_left
 ·show Act.put _ (some 62) _ = _
  simp only [Act.put, List.setIfInBounds_toArray, List.set_cons_zero, List.set_cons_succ, i64_w, i32_w]
  rfl
 refine pure_ (i := 2) (N := some 63) (v := ?_) (a' := ?_) (lb_ 72 7) rfl rfl (any_of HT_.out (by kernel_rfl)) (fun _ _ _ h => h) (Or.inl ⟨by rfl, ?_⟩) ?_ ?_; rotate_left; intro w'; go_simp; with_reducible rfl; rotate_left; simp only [Act.put, List.setIfInBounds_toArray, List.set_cons_zero, List.set_cons_succ, i64_w, i32_w]; rfl
 refine pure_ (i := 3) (N := some 64) (v := ?_) (a' := ?_) (lb_ 72 15) rfl rfl (any_of HT_.out (by kernel_rfl)) (fun _ _ _ h => h) (Or.inl ⟨by rfl, ?_⟩) ?_ ?_; rotate_left; intro w'; go_simp; with_reducible rfl; rotate_left; simp only [Act.put, List.setIfInBounds_toArray, List.set_cons_zero, List.set_cons_succ, i64_w, i32_w]; rfl
 refine pure_ (i := 4) (N := some 65) (v := ?_) (a' := ?_) (lb_ 72 31) rfl rfl (any_of HT_.out (by kernel_rfl)) (fun _ _ _ h => h) (Or.inl ⟨by rfl, ?_⟩) ?_ ?_; rotate_left; intro w'; go_simp; with_reducible rfl; rotate_left; simp only [Act.put, List.setIfInBounds_toArray, List.set_cons_zero, List.set_cons_succ, i64_w, i32_w]; rfl
 refine pure_ (i := 5) (N := some 66) (v := ?_) (a' := ?_) (lb_ 72 63) rfl rfl (any_of HT_.out (by kernel_rfl)) (fun _ _ _ h => h) (Or.inl ⟨by rfl, ?_⟩) ?_ ?_; rotate_left; intro w'; go_simp; with_reducible rfl; rotate_left; simp only [Act.put, List.setIfInBounds_toArray, List.set_cons_zero, List.set_cons_succ, i64_w, i32_w]; rfl
 refine pure_ (i := 6) (N := some 67) (v := ?_) (a' := ?_) (lb_ 72 127) rfl rfl (any_of HT_.out (by kernel_rfl)) (fun _ _ _ h => h) (Or.inl ⟨by rfl, ?_⟩) ?_ ?_; rotate_left; intro w'; go_simp; with_reducible rfl; rotate_left; simp only [Act.put, List.setIfInBounds_toArray, List.set_cons_zero, List.set_cons_succ, i64_w, i32_w]; rfl
 refine pure_ (i := 7) (N := some 68) (v := ?_) (a' := ?_) (lb_ 72 255) rfl rfl (any_of HT_.out (by kernel_rfl)) (fun _ _ _ h => h) (Or.inl ⟨by rfl, ?_⟩) ?_ ?_; rotate_left; intro w'; go_simp; with_reducible rfl; rotate_left; simp only [Act.put, List.setIfInBounds_toArray, List.set_cons_zero, List.set_cons_succ, i64_w, i32_w]; rfl
 refine pure_ (i := 8) (N := some 69) (v := ?_) (a' := ?_) (lb_ 72 511) rfl rfl (any_of HT_.out (by kernel_rfl)) (fun _ _ _ h => h) (Or.inl ⟨by rfl, ?_⟩) ?_ ?_; rotate_left; intro w'; go_simp; with_reducible rfl; rotate_left; simp only [Act.put, List.setIfInBounds_toArray, List.set_cons_zero, List.set_cons_succ, i64_w, i32_w]; rfl
 refine pure_ (i := 9) (N := some 70) (v := ?_) (a' := ?_) (lb_ 72 1023) rfl rfl (any_of HT_.out (by kernel_rfl)) (fun _ _ _ h => h) (Or.inl ⟨by rfl, ?_⟩) ?_ ?_; rotate_left; intro w'; go_simp; with_reducible rfl; rotate_left; simp only [Act.put, List.setIfInBounds_toArray, List.set_cons_zero, List.set_cons_succ, i64_w, i32_w]; rfl
 refine pure_ (i := 10) (N := some 71) (v := ?_) (a' := ?_) (lb_ 72 2047) rfl rfl (any_of HT_.out (by kernel_rfl)) (fun _ _ _ h => h) (Or.inl ⟨by rfl, ?_⟩) ?_ ?_; rotate_left; intro w'; go_simp; with_reducible rfl; rotate_left; simp only [Act.put, List.setIfInBounds_toArray, List.set_cons_zero, List.set_cons_succ, i64_w, i32_w]; rfl
 refine pure_ (i := 11) (N := some 72) (v := ?_) (a' := ?_) (lb_ 72 4095) rfl rfl (any_of HT_.out (by kernel_rfl)) (fun _ _ _ h => h) (Or.inl ⟨by rfl, ?_⟩) ?_ ?_; rotate_left; intro w'; go_simp; with_reducible rfl; rotate_left; simp only [Act.put, List.setIfInBounds_toArray, List.set_cons_zero, List.set_cons_succ, i64_w, i32_w]; rfl
 refine pure_ (i := 12) (N := some 73) (v := ?_) (a' := ?_) (lb_ 72 8191) rfl rfl (any_of HT_.out (by kernel_rfl)) (fun _ _ _ h => h) (Or.inl ⟨by rfl, ?_⟩) ?_ ?_; rotate_left; intro w'; go_simp; with_reducible rfl; rotate_left; simp only [Act.put, List.setIfInBounds_toArray, List.set_cons_zero, List.set_cons_succ, i64_w, i32_w]; rfl
 refine pure_ (i := 13) (N := some 74) (v := ?_) (a' := ?_) (lb_ 72 16383) rfl rfl (any_of HT_.out (by kernel_rfl)) (fun _ _ _ h => h) (Or.inl ⟨by rfl, ?_⟩) ?_ ?_; rotate_left; intro w'; go_simp; with_reducible rfl; rotate_left; simp only [Act.put, List.setIfInBounds_toArray, List.set_cons_zero, List.set_cons_succ, i64_w, i32_w]; rfl
 refine pure_ (i := 14) (N := some 75) (v := ?_) (a' := ?_) (lb_ 72 32767) rfl rfl (any_of HT_.out (by kernel_rfl)) (fun _ _ _ h => h) (Or.inl ⟨by rfl, ?_⟩) ?_ ?_; rotate_left; intro w'; go_simp; with_reducible rfl; rotate_left; simp only [Act.put, List.setIfInBounds_toArray, List.set_cons_zero, List.set_cons_succ, i64_w, i32_w]; rfl
 refine pure_ (i := 15) (N := some 76) (v := ?_) (a' := ?_) (lb_ 72 65535) rfl rfl (any_of HT_.out (by kernel_rfl)) (fun _ _ _ h => h) (Or.inl ⟨by rfl, ?_⟩) ?_ ?_; rotate_left; intro w'; go_simp; with_reducible rfl; rotate_left; simp only [Act.put, List.setIfInBounds_toArray, List.set_cons_zero, List.set_cons_succ, i64_w, i32_w]; rfl
 refine pure_ (i := 16) (N := some 77) (v := ?_) (a' := ?_) (lb_ 72 131071) rfl rfl (any_of HT_.out (by kernel_rfl)) (fun _ _ _ h => h) (Or.inl ⟨by rfl, ?_⟩) ?_ ?_; rotate_left; intro w'; go_simp; with_reducible rfl; rotate_left; simp only [Act.put, List.setIfInBounds_toArray, List.set_cons_zero, List.set_cons_succ, i64_w, i32_w]; rfl
 refine pure_ (i := 17) (N := some 78) (v := ?_) (a' := ?_) (lb_ 72 262143) rfl rfl (any_of HT_.out (by kernel_rfl)) (fun _ _ _ h => h) (Or.inl ⟨by rfl, ?_⟩) ?_ ?_; rotate_left; intro w'; go_simp; with_reducible rfl; rotate_left; simp only [Act.put, List.setIfInBounds_toArray, List.set_cons_zero, List.set_cons_succ, i64_w, i32_w]; rfl
 refine pure_ (i := 18) (N := some 79) (v := ?_) (a' := ?_) (lb_ 72 524287) rfl rfl (any_of HT_.out (by kernel_rfl)) (fun _ _ _ h => h) (Or.inl ⟨by rfl, ?_⟩) ?_ ?_; rotate_left; intro w'; go_simp; with_reducible rfl; rotate_left; simp only [Act.put, List.setIfInBounds_toArray, List.set_cons_zero, List.set_cons_succ, i64_w, i32_w]; rfl
 refine take_ (i := 19) (N := some 80) (v := ?_) (a' := ?_) (lb_ 72 1048575) rfl rfl (take_ofW HT_.out HW_.out (by kernel_rfl)) (fun _ _ _ h => h) (Or.inl ⟨by rfl, ?_⟩) hHeld ?_ ?_; rotate_left; rintro w' ⟨s0, s1, s2, s3, s4, s5, s6, s7, s8, s9, s10, s11, s12, s13⟩; go_simp; with_reducible rfl; rotate_left; simp only [Act.put, List.setIfInBounds_toArray, List.set_cons_zero, List.set_cons_succ, i64_w, i32_w]; rfl
 refine one_ (i := 20) (N := some 81) (lb_ 72 2097151) rfl rfl (one_of HT_.out (by kernel_rfl)) (by decide) (fun K hK => ?_)
 refine goes_ Try.func19 (by kernel_rfl) rfl #[.agg #[.slice none 0 0, .slice (some ⟨bT, 0, none⟩) 2 2], .int .i64 1, .int .i64 0] (by rfl) rfl rfl (by (try simp only [List.map_toArray, List.map_cons, List.map_nil]); first | done | rfl) ?_
 refine (hdNum HP16.out 1 0 2 hd_num).mono ?_
 rintro e W17 ⟨rfl, hb⟩
 refine ⟨_, rfl, ?_⟩
 have HV17 := Aside0.mk (HV16.out.below hb)
 have HE17 := Aside0.mk (HE16.out.below hb)
 have HP17 := Aside0.mk (HP16.out.below hb)
 have HQ17 := Aside0.mk (HQ16.out.below hb)
 have HW17 := Aside0.mk (HW16.out.below hb)
 have BF17 := Aside0.mk (blk_below BF16.out hb)
 have BE17 := Aside0.mk (blk_below BE16.out hb)
 have HB17 := Aside0.mk (below_step HB16.out hb)
 have HT17 := Aside0.mk (And.intro (pw_cell_below hb HT16.out.1) (pw_cell_below hb HT16.out.2))
 clear hb HV16 HE16 HP16 HQ16 HW16 BF16 BE16 HB16 HT16
 refine hK.out _ _ ⟨HP17.out.e0, HP17.out.e1, HQ17.out.e0, HQ17.out.e1, HW17.out.e0, HW17.out.e1, (blk_cell BF17.out 2).trans rfl, (blk_cell BE17.out 0).trans rfl, (blk_cell BE17.out 1).trans rfl, (blk_cell BE17.out 2).trans rfl, (blk_cell BE17.out 3).trans rfl, (blk_cell BE17.out 4).trans rfl, HT17.out.1, HT17.out.2⟩ (fun hHeld => ?_)
 clear hK K
 refine norm_ (a' := ?_) ?_ ?_
 rotate_left
 ·show Act.put _ (some 81) _ = _
  simp only [Act.put, List.setIfInBounds_toArray, List.set_cons_zero, List.set_cons_succ, i64_w, i32_w]
  rfl
 refine pure_ (i := 21) (N := some 82) (v := ?_) (a' := ?_) (lb_ 72 4194303) rfl rfl (any_of HT_.out (by kernel_rfl)) (fun _ _ _ h => h) (Or.inl ⟨by rfl, ?_⟩) ?_ ?_; rotate_left; intro w'; go_simp; with_reducible rfl; rotate_left; simp only [Act.put, List.setIfInBounds_toArray, List.set_cons_zero, List.set_cons_succ, i64_w, i32_w]; rfl
 refine pure_ (i := 22) (N := some 83) (v := ?_) (a' := ?_) (lb_ 72 8388607) rfl rfl (any_of HT_.out (by kernel_rfl)) (fun _ _ _ h => h) (Or.inl ⟨by rfl, ?_⟩) ?_ ?_; rotate_left; intro w'; go_simp; with_reducible rfl; rotate_left; simp only [Act.put, List.setIfInBounds_toArray, List.set_cons_zero, List.set_cons_succ, i64_w, i32_w]; rfl
 refine pure_ (i := 23) (N := some 84) (v := ?_) (a' := ?_) (lb_ 72 16777215) rfl rfl (any_of HT_.out (by kernel_rfl)) (fun _ _ _ h => h) (Or.inl ⟨by rfl, ?_⟩) ?_ ?_; rotate_left; intro w'; go_simp; with_reducible rfl; rotate_left; simp only [Act.put, List.setIfInBounds_toArray, List.set_cons_zero, List.set_cons_succ, i64_w, i32_w]; rfl
 refine take_ (i := 24) (N := some 85) (v := ?_) (a' := ?_) (lb_ 72 33554431) rfl rfl (take_ofW HT_.out HW_.out (by kernel_rfl)) (fun _ _ _ h => h) (Or.inl ⟨by rfl, ?_⟩) hHeld ?_ ?_; rotate_left; rintro w' ⟨s0, s1, s2, s3, s4, s5, s6, s7, s8, s9, s10, s11, s12, s13⟩; go_simp; with_reducible rfl; rotate_left; simp only [Act.put, List.setIfInBounds_toArray, List.set_cons_zero, List.set_cons_succ, i64_w, i32_w]; rfl
 refine one_ (i := 25) (N := some 86) (lb_ 72 67108863) rfl rfl (one_of HT_.out (by kernel_rfl)) (by decide) (fun K hK => ?_)
 refine goes_ Try.func19 (by kernel_rfl) rfl #[.agg #[.slice none 0 0, .slice (some ⟨bT, 0, none⟩) 2 2], .int .i64 1, .int .i64 1] (by rfl) rfl rfl (by (try simp only [List.map_toArray, List.map_cons, List.map_nil]); first | done | rfl) ?_
 refine (hdNum HP17.out 1 1 (-1) hd_num2).mono ?_
 rintro e W18 ⟨rfl, hb⟩
 refine ⟨_, rfl, ?_⟩
 have HV18 := Aside0.mk (HV17.out.below hb)
 have HE18 := Aside0.mk (HE17.out.below hb)
 have HP18 := Aside0.mk (HP17.out.below hb)
 have HQ18 := Aside0.mk (HQ17.out.below hb)
 have HW18 := Aside0.mk (HW17.out.below hb)
 have BF18 := Aside0.mk (blk_below BF17.out hb)
 have BE18 := Aside0.mk (blk_below BE17.out hb)
 have HB18 := Aside0.mk (below_step HB17.out hb)
 have HT18 := Aside0.mk (And.intro (pw_cell_below hb HT17.out.1) (pw_cell_below hb HT17.out.2))
 clear hb HV17 HE17 HP17 HQ17 HW17 BF17 BE17 HB17 HT17
 refine hK.out _ _ ⟨HP18.out.e0, HP18.out.e1, HQ18.out.e0, HQ18.out.e1, HW18.out.e0, HW18.out.e1, (blk_cell BF18.out 2).trans rfl, (blk_cell BE18.out 0).trans rfl, (blk_cell BE18.out 1).trans rfl, (blk_cell BE18.out 2).trans rfl, (blk_cell BE18.out 3).trans rfl, (blk_cell BE18.out 4).trans rfl, HT18.out.1, HT18.out.2⟩ (fun hHeld => ?_)
 clear hK K
 refine norm_ (a' := ?_) ?_ ?_
 rotate_left
 ·show Act.put _ (some 86) _ = _
  simp only [Act.put, List.setIfInBounds_toArray, List.set_cons_zero, List.set_cons_succ, i64_w, i32_w]
  rfl
 refine pure_ (i := 26) (N := some 87) (v := ?_) (a' := ?_) (lb_ 72 134217727) rfl rfl (any_of HT_.out (by kernel_rfl)) (fun _ _ _ h => h) (Or.inl ⟨by rfl, ?_⟩) ?_ ?_; rotate_left; intro w'; go_simp; with_reducible rfl; rotate_left; simp only [Act.put, List.setIfInBounds_toArray, List.set_cons_zero, List.set_cons_succ, i64_w, i32_w]; rfl
 refine pure_ (i := 27) (N := some 88) (v := ?_) (a' := ?_) (lb_ 72 268435455) rfl rfl (any_of HT_.out (by kernel_rfl)) (fun _ _ _ h => h) (Or.inl ⟨by rfl, ?_⟩) ?_ ?_; rotate_left; intro w'; go_simp; with_reducible rfl; rotate_left; simp only [Act.put, List.setIfInBounds_toArray, List.set_cons_zero, List.set_cons_succ, i64_w, i32_w]; rfl
 refine pure_ (i := 28) (N := some 89) (v := ?_) (a' := ?_) (lb_ 72 536870911) rfl rfl (any_of HT_.out (by kernel_rfl)) (fun _ _ _ h => h) (Or.inl ⟨by rfl, ?_⟩) ?_ ?_; rotate_left; intro w'; go_simp; with_reducible rfl; rotate_left; simp only [Act.put, List.setIfInBounds_toArray, List.set_cons_zero, List.set_cons_succ, i64_w, i32_w]; rfl
 refine take_ (i := 29) (N := some 90) (v := ?_) (a' := ?_) (lb_ 72 1073741823) rfl rfl (take_ofW HT_.out HW_.out (by kernel_rfl)) (fun _ _ _ h => h) (Or.inl ⟨by rfl, ?_⟩) hHeld ?_ ?_; rotate_left; rintro w' ⟨s0, s1, s2, s3, s4, s5, s6, s7, s8, s9, s10, s11, s12, s13⟩; go_simp; with_reducible rfl; rotate_left; simp only [Act.put, List.setIfInBounds_toArray, List.set_cons_zero, List.set_cons_succ, i64_w, i32_w]; rfl
 refine take_ (i := 30) (N := some 91) (v := ?_) (a' := ?_) (lb_ 72 2147483647) rfl rfl (take_ofW HT_.out HW_.out (by kernel_rfl)) (fun _ _ _ h => h) (Or.inl ⟨by rfl, ?_⟩) hHeld ?_ ?_; rotate_left; rintro w' ⟨s0, s1, s2, s3, s4, s5, s6, s7, s8, s9, s10, s11, s12, s13⟩; go_simp; with_reducible rfl; rotate_left; simp only [Act.put, List.setIfInBounds_toArray, List.set_cons_zero, List.set_cons_succ, i64_w, i32_w]; rfl
 refine one_ (i := 31) (N := some 92) (lb_ 72 4294967295) rfl rfl (one_of HT_.out (by kernel_rfl)) (by decide) (fun K hK => ?_)
 refine goes_ Try.func21 (by kernel_rfl) rfl #[.agg #[.slice Aq 0 cq, .slice Bq 2 dq], .agg #[.slice none 0 0, .slice (some ⟨bW, 0, none⟩) 2 2]] (by rfl) rfl rfl (by (try simp only [List.map_toArray, List.map_cons, List.map_nil]); first | done | rfl) ?_
 refine (hdSame HQ18.out HW18.out).mono ?_
 rintro e W19 ⟨rfl, hb⟩
 refine ⟨_, rfl, ?_⟩
 have HV19 := Aside0.mk (HV18.out.below hb)
 have HE19 := Aside0.mk (HE18.out.below hb)
 have HP19 := Aside0.mk (HP18.out.below hb)
 have HQ19 := Aside0.mk (HQ18.out.below hb)
 have HW19 := Aside0.mk (HW18.out.below hb)
 have BF19 := Aside0.mk (blk_below BF18.out hb)
 have BE19 := Aside0.mk (blk_below BE18.out hb)
 have HB19 := Aside0.mk (below_step HB18.out hb)
 have HT19 := Aside0.mk (And.intro (pw_cell_below hb HT18.out.1) (pw_cell_below hb HT18.out.2))
 clear hb HV18 HE18 HP18 HQ18 HW18 BF18 BE18 HB18 HT18
 refine hK.out _ _ ⟨HP19.out.e0, HP19.out.e1, HQ19.out.e0, HQ19.out.e1, HW19.out.e0, HW19.out.e1, (blk_cell BF19.out 2).trans rfl, (blk_cell BE19.out 0).trans rfl, (blk_cell BE19.out 1).trans rfl, (blk_cell BE19.out 2).trans rfl, (blk_cell BE19.out 3).trans rfl, (blk_cell BE19.out 4).trans rfl, HT19.out.1, HT19.out.2⟩ (fun hHeld => ?_)
 clear hK K
 refine norm_ (a' := ?_) ?_ ?_
 rotate_left
 ·show Act.put _ (some 92) _ = _
  simp only [Act.put, List.setIfInBounds_toArray, List.set_cons_zero, List.set_cons_succ, i64_w, i32_w]
  rfl
 refine pure_ (i := 32) (N := some 93) (v := ?_) (a' := ?_) (lb_ 72 8589934591) rfl rfl (any_of HT_.out (by kernel_rfl)) (fun _ _ _ h => h) (Or.inl ⟨by rfl, ?_⟩) ?_ ?_; rotate_left; intro w'; go_simp; with_reducible rfl; rotate_left; simp only [Act.put, List.setIfInBounds_toArray, List.set_cons_zero, List.set_cons_succ, i64_w, i32_w]; rfl
 refine pure_ (i := 33) (N := some 94) (v := ?_) (a' := ?_) (lb_ 72 17179869183) rfl rfl (any_of HT_.out (by kernel_rfl)) (fun _ _ _ h => h) (Or.inl ⟨by rfl, ?_⟩) ?_ ?_; rotate_left; intro w'; go_simp; with_reducible rfl; rotate_left; simp only [Act.put, List.setIfInBounds_toArray, List.set_cons_zero, List.set_cons_succ, i64_w, i32_w]; rfl
 refine pure_ (i := 34) (N := some 95) (v := ?_) (a' := ?_) (lb_ 72 34359738367) rfl rfl (any_of HT_.out (by kernel_rfl)) (fun _ _ _ h => h) (Or.inl ⟨by rfl, ?_⟩) ?_ ?_; rotate_left; intro w'; go_simp; with_reducible rfl; rotate_left; simp only [Act.put, List.setIfInBounds_toArray, List.set_cons_zero, List.set_cons_succ, i64_w, i32_w]; rfl
 refine take_ (i := 35) (N := some 96) (v := ?_) (a' := ?_) (lb_ 72 68719476735) rfl rfl (take_ofW HT_.out HW_.out (by kernel_rfl)) (fun _ _ _ h => h) (Or.inl ⟨by rfl, ?_⟩) hHeld ?_ ?_; rotate_left; rintro w' ⟨s0, s1, s2, s3, s4, s5, s6, s7, s8, s9, s10, s11, s12, s13⟩; go_simp; with_reducible rfl; rotate_left; simp only [Act.put, List.setIfInBounds_toArray, List.set_cons_zero, List.set_cons_succ, i64_w, i32_w]; rfl
 refine pure_ (i := 36) (N := some 97) (v := ?_) (a' := ?_) (lb_ 72 137438953471) rfl rfl (any_of HT_.out (by kernel_rfl)) (fun _ _ _ h => h) (Or.inl ⟨by rfl, ?_⟩) ?_ ?_; rotate_left; intro w'; go_simp; with_reducible rfl; rotate_left; simp only [Act.put, List.setIfInBounds_toArray, List.set_cons_zero, List.set_cons_succ, i64_w, i32_w]; rfl
 refine pure_ (i := 37) (N := some 98) (v := ?_) (a' := ?_) (lb_ 72 274877906943) rfl rfl (any_of HT_.out (by kernel_rfl)) (fun _ _ _ h => h) (Or.inl ⟨by rfl, ?_⟩) ?_ ?_; rotate_left; intro w'; go_simp; with_reducible rfl; rotate_left; simp only [Act.put, List.setIfInBounds_toArray, List.set_cons_zero, List.set_cons_succ, i64_w, i32_w]; rfl
 refine pure_ (i := 38) (N := some 99) (v := ?_) (a' := ?_) (lb_ 72 549755813887) rfl rfl (any_of HT_.out (by kernel_rfl)) (fun _ _ _ h => h) (Or.inl ⟨by rfl, ?_⟩) ?_ ?_; rotate_left; intro w'; go_simp; with_reducible rfl; rotate_left; simp only [Act.put, List.setIfInBounds_toArray, List.set_cons_zero, List.set_cons_succ, i64_w, i32_w]; rfl
 refine pure_ (i := 39) (N := some 100) (v := ?_) (a' := ?_) (lb_ 72 1099511627775) rfl rfl (any_of HT_.out (by kernel_rfl)) (fun _ _ _ h => h) (Or.inl ⟨by rfl, ?_⟩) ?_ ?_; rotate_left; intro w'; go_simp; with_reducible rfl; rotate_left; simp only [Act.put, List.setIfInBounds_toArray, List.set_cons_zero, List.set_cons_succ, i64_w, i32_w]; rfl
 refine pure_ (i := 40) (N := some 101) (v := ?_) (a' := ?_) (lb_ 72 2199023255551) rfl rfl (any_of HT_.out (by kernel_rfl)) (fun _ _ _ h => h) (Or.inl ⟨by rfl, ?_⟩) ?_ ?_; rotate_left; intro w'; go_simp; with_reducible rfl; rotate_left; simp only [Act.put, List.setIfInBounds_toArray, List.set_cons_zero, List.set_cons_succ, i64_w, i32_w]; rfl
 refine take_ (i := 41) (N := some 102) (v := ?_) (a' := ?_) (lb_ 72 4398046511103) rfl rfl (take_ofW HT_.out HW_.out (by kernel_rfl)) (fun _ _ _ h => h) (Or.inl ⟨by rfl, ?_⟩) hHeld ?_ ?_; rotate_left; rintro w' ⟨s0, s1, s2, s3, s4, s5, s6, s7, s8, s9, s10, s11, s12, s13⟩; go_simp; with_reducible rfl; rotate_left; simp only [Act.put, List.setIfInBounds_toArray, List.set_cons_zero, List.set_cons_succ, i64_w, i32_w]; rfl
 refine pure_ (i := 42) (N := some 103) (v := ?_) (a' := ?_) (lb_ 72 8796093022207) rfl rfl (any_of HT_.out (by kernel_rfl)) (fun _ _ _ h => h) (Or.inl ⟨by rfl, ?_⟩) ?_ ?_; rotate_left; intro w'; go_simp; with_reducible rfl; rotate_left; simp only [Act.put, List.setIfInBounds_toArray, List.set_cons_zero, List.set_cons_succ, i64_w, i32_w]; rfl
 refine pure_ (i := 43) (N := some 104) (v := ?_) (a' := ?_) (lb_ 72 17592186044415) rfl rfl (any_of HT_.out (by kernel_rfl)) (fun _ _ _ h => h) (Or.inl ⟨by rfl, ?_⟩) ?_ ?_; rotate_left; intro w'; go_simp; with_reducible rfl; rotate_left; simp only [Act.put, List.setIfInBounds_toArray, List.set_cons_zero, List.set_cons_succ, i64_w, i32_w]; rfl
 refine take_ (i := 44) (N := some 105) (v := ?_) (a' := ?_) (lb_ 72 35184372088831) rfl rfl (take_ofW HT_.out HW_.out (by kernel_rfl)) (fun _ _ _ h => h) (Or.inl ⟨by rfl, ?_⟩) hHeld ?_ ?_; rotate_left; rintro w' ⟨s0, s1, s2, s3, s4, s5, s6, s7, s8, s9, s10, s11, s12, s13⟩; go_simp; with_reducible rfl; rotate_left; simp only [Act.put, List.setIfInBounds_toArray, List.set_cons_zero, List.set_cons_succ, i64_w, i32_w]; rfl
 refine pure_ (i := 45) (N := some 106) (v := ?_) (a' := ?_) (lb_ 72 70368744177663) rfl rfl (any_of HT_.out (by kernel_rfl)) (fun _ _ _ h => h) (Or.inl ⟨by rfl, ?_⟩) ?_ ?_; rotate_left; intro w'; go_simp; with_reducible rfl; rotate_left; simp only [Act.put, List.setIfInBounds_toArray, List.set_cons_zero, List.set_cons_succ, i64_w, i32_w]; rfl
 refine pure_ (i := 46) (N := some 107) (v := ?_) (a' := ?_) (lb_ 72 140737488355327) rfl rfl (any_of HT_.out (by kernel_rfl)) (fun _ _ _ h => h) (Or.inl ⟨by rfl, ?_⟩) ?_ ?_; rotate_left; intro w'; go_simp; with_reducible rfl; rotate_left; simp only [Act.put, List.setIfInBounds_toArray, List.set_cons_zero, List.set_cons_succ, i64_w, i32_w]; rfl
 refine pure_ (i := 47) (N := some 108) (v := ?_) (a' := ?_) (lb_ 72 281474976710655) rfl rfl (any_of HT_.out (by kernel_rfl)) (fun _ _ _ h => h) (Or.inl ⟨by rfl, ?_⟩) ?_ ?_; rotate_left; intro w'; go_simp; with_reducible rfl; rotate_left; simp only [Act.put, List.setIfInBounds_toArray, List.set_cons_zero, List.set_cons_succ, i64_w, i32_w]; rfl
 refine pure_ (i := 48) (N := some 109) (v := ?_) (a' := ?_) (lb_ 72 562949953421311) rfl rfl (any_of HT_.out (by kernel_rfl)) (fun _ _ _ h => h) (Or.inl ⟨by rfl, ?_⟩) ?_ ?_; rotate_left; intro w'; go_simp; with_reducible rfl; rotate_left; simp only [Act.put, List.setIfInBounds_toArray, List.set_cons_zero, List.set_cons_succ, i64_w, i32_w]; rfl
 refine pure_ (i := 49) (N := some 110) (v := ?_) (a' := ?_) (lb_ 72 1125899906842623) rfl rfl (any_of HT_.out (by kernel_rfl)) (fun _ _ _ h => h) (Or.inl ⟨by rfl, ?_⟩) ?_ ?_; rotate_left; intro w'; go_simp; with_reducible rfl; rotate_left; simp only [Act.put, List.setIfInBounds_toArray, List.set_cons_zero, List.set_cons_succ, i64_w, i32_w]; rfl
 refine take_ (i := 50) (N := some 111) (v := ?_) (a' := ?_) (lb_ 72 2251799813685247) rfl rfl (take_ofW HT_.out HW_.out (by kernel_rfl)) (fun _ _ _ h => h) (Or.inl ⟨by rfl, ?_⟩) hHeld ?_ ?_; rotate_left; rintro w' ⟨s0, s1, s2, s3, s4, s5, s6, s7, s8, s9, s10, s11, s12, s13⟩; go_simp; with_reducible rfl; rotate_left; simp only [Act.put, List.setIfInBounds_toArray, List.set_cons_zero, List.set_cons_succ, i64_w, i32_w]; rfl
 refine pure_ (i := 51) (N := some 112) (v := ?_) (a' := ?_) (lb_ 72 4503599627370495) rfl rfl (any_of HT_.out (by kernel_rfl)) (fun _ _ _ h => h) (Or.inl ⟨by rfl, ?_⟩) ?_ ?_; rotate_left; intro w'; go_simp; with_reducible rfl; rotate_left; simp only [Act.put, List.setIfInBounds_toArray, List.set_cons_zero, List.set_cons_succ, i64_w, i32_w]; rfl
 refine pure_ (i := 52) (N := some 113) (v := ?_) (a' := ?_) (lb_ 72 9007199254740991) rfl rfl (any_of HT_.out (by kernel_rfl)) (fun _ _ _ h => h) (Or.inl ⟨by rfl, ?_⟩) ?_ ?_; rotate_left; intro w'; go_simp; with_reducible rfl; rotate_left; simp only [Act.put, List.setIfInBounds_toArray, List.set_cons_zero, List.set_cons_succ, i64_w, i32_w]; rfl
 refine take_ (i := 53) (N := some 114) (v := ?_) (a' := ?_) (lb_ 72 18014398509481983) rfl rfl (take_ofW HT_.out HW_.out (by kernel_rfl)) (fun _ _ _ h => h) (Or.inl ⟨by rfl, ?_⟩) hHeld ?_ ?_; rotate_left; rintro w' ⟨s0, s1, s2, s3, s4, s5, s6, s7, s8, s9, s10, s11, s12, s13⟩; go_simp; with_reducible rfl; rotate_left; simp only [Act.put, List.setIfInBounds_toArray, List.set_cons_zero, List.set_cons_succ, i64_w, i32_w]; rfl
 refine pure_ (i := 54) (N := some 115) (v := ?_) (a' := ?_) (lb_ 72 36028797018963967) rfl rfl (any_of HT_.out (by kernel_rfl)) (fun _ _ _ h => h) (Or.inl ⟨by rfl, ?_⟩) ?_ ?_; rotate_left; intro w'; go_simp; with_reducible rfl; rotate_left; simp only [Act.put, List.setIfInBounds_toArray, List.set_cons_zero, List.set_cons_succ, i64_w, i32_w]; rfl
 refine pure_ (i := 55) (N := some 116) (v := ?_) (a' := ?_) (lb_ 72 72057594037927935) rfl rfl (any_of HT_.out (by kernel_rfl)) (fun _ _ _ h => h) (Or.inl ⟨by rfl, ?_⟩) ?_ ?_; rotate_left; intro w'; go_simp; with_reducible rfl; rotate_left; simp only [Act.put, List.setIfInBounds_toArray, List.set_cons_zero, List.set_cons_succ, i64_w, i32_w]; rfl
 refine take_ (i := 56) (N := some 117) (v := ?_) (a' := ?_) (lb_ 72 144115188075855871) rfl rfl (take_ofW HT_.out HW_.out (by kernel_rfl)) (fun _ _ _ h => h) (Or.inl ⟨by rfl, ?_⟩) hHeld ?_ ?_; rotate_left; rintro w' ⟨s0, s1, s2, s3, s4, s5, s6, s7, s8, s9, s10, s11, s12, s13⟩; go_simp; with_reducible rfl; rotate_left; simp only [Act.put, List.setIfInBounds_toArray, List.set_cons_zero, List.set_cons_succ, i64_w, i32_w]; rfl
 refine pure_ (i := 57) (N := some 118) (v := ?_) (a' := ?_) (lb_ 72 288230376151711743) rfl rfl (any_of HT_.out (by kernel_rfl)) (fun _ _ _ h => h) (Or.inl ⟨by rfl, ?_⟩) ?_ ?_; rotate_left; intro w'; go_simp; with_reducible rfl; rotate_left; simp only [Act.put, List.setIfInBounds_toArray, List.set_cons_zero, List.set_cons_succ, i64_w, i32_w]; rfl
 refine pure_ (i := 58) (N := some 119) (v := ?_) (a' := ?_) (lb_ 72 576460752303423487) rfl rfl (any_of HT_.out (by kernel_rfl)) (fun _ _ _ h => h) (Or.inl ⟨by rfl, ?_⟩) ?_ ?_; rotate_left; intro w'; go_simp; with_reducible rfl; rotate_left; simp only [Act.put, List.setIfInBounds_toArray, List.set_cons_zero, List.set_cons_succ, i64_w, i32_w]; rfl
 refine pure_ (i := 59) (N := some 120) (v := ?_) (a' := ?_) (lb_ 72 1152921504606846975) rfl rfl (any_of HT_.out (by kernel_rfl)) (fun _ _ _ h => h) (Or.inl ⟨by rfl, ?_⟩) ?_ ?_; rotate_left; intro w'; go_simp; with_reducible rfl; rotate_left; simp only [Act.put, List.setIfInBounds_toArray, List.set_cons_zero, List.set_cons_succ, i64_w, i32_w]; rfl
 refine take_ (i := 60) (N := some 121) (v := ?_) (a' := ?_) (lb_ 72 2305843009213693951) rfl rfl (take_ofW HT_.out HW_.out (by kernel_rfl)) (fun _ _ _ h => h) (Or.inl ⟨by rfl, ?_⟩) hHeld ?_ ?_; rotate_left; rintro w' ⟨s0, s1, s2, s3, s4, s5, s6, s7, s8, s9, s10, s11, s12, s13⟩; go_simp; with_reducible rfl; rotate_left; simp only [Act.put, List.setIfInBounds_toArray, List.set_cons_zero, List.set_cons_succ, i64_w, i32_w]; rfl
 refine one_ (i := 61) (N := some 122) (lb_ 72 4611686018427387903) rfl rfl (one_of HT_.out (by kernel_rfl)) (by decide) (fun K hK => ?_)
 refine goes_ Try.func30 (by kernel_rfl) rfl #[] (by rfl) rfl rfl (by (try simp only [List.map_toArray, List.map_cons, List.map_nil]); first | done | rfl) ?_
 refine (hdBuf W19).mono ?_
 rintro e W20 ⟨A1, c1, A2, c2, A4, c4, rfl, hv, hb⟩
 refine ⟨_, rfl, ?_⟩
 have HX := Aside0.mk hv
 clear hv
 have HV20 := Aside0.mk (HV19.out.below hb)
 have HE20 := Aside0.mk (HE19.out.below hb)
 have HP20 := Aside0.mk (HP19.out.below hb)
 have HQ20 := Aside0.mk (HQ19.out.below hb)
 have HW20 := Aside0.mk (HW19.out.below hb)
 have BF20 := Aside0.mk (blk_below BF19.out hb)
 have BE20 := Aside0.mk (blk_below BE19.out hb)
 have HB20 := Aside0.mk (below_step HB19.out hb)
 have HT20 := Aside0.mk (And.intro (pw_cell_below hb HT19.out.1) (pw_cell_below hb HT19.out.2))
 clear hb HV19 HE19 HP19 HQ19 HW19 BF19 BE19 HB19 HT19
 refine hK.out _ _ ⟨HP20.out.e0, HP20.out.e1, HQ20.out.e0, HQ20.out.e1, HW20.out.e0, HW20.out.e1, (blk_cell BF20.out 2).trans rfl, (blk_cell BE20.out 0).trans rfl, (blk_cell BE20.out 1).trans rfl, (blk_cell BE20.out 2).trans rfl, (blk_cell BE20.out 3).trans rfl, (blk_cell BE20.out 4).trans rfl, HT20.out.1, HT20.out.2⟩ (fun hHeld => ?_)
 clear hK K
 refine norm_ (a' := ?_) ?_ ?_
 rotate_left
 ·show Act.put _ (some 122) _ = _
  simp only [Act.put, List.setIfInBounds_toArray, List.set_cons_zero, List.set_cons_succ, i64_w, i32_w]
  rfl
 refine one_ (i := 62) (N := some 123) (lb_ 72 9223372036854775807) rfl rfl (one_of HT_.out (by kernel_rfl)) (by decide) (fun K hK => ?_)
 refine goes_ Try.func24 (by kernel_rfl) rfl #[.agg #[.string hdN, .slice E1 1 e1, .slice E2 2 e2, .bool false, .slice E4 2 e4], .agg #[.string hdN, .slice A1 1 c1, .slice A2 2 c2, .bool false, .slice A4 2 c4]] (by rfl) rfl rfl (by (try simp only [List.map_toArray, List.map_cons, List.map_nil]); first | done | rfl) ?_
 refine (hdSame4 HE20.out HX.out).mono ?_
 rintro e W21 ⟨rfl, hb⟩
 refine ⟨_, rfl, ?_⟩
 have HV21 := Aside0.mk (HV20.out.below hb)
 have HE21 := Aside0.mk (HE20.out.below hb)
 have HP21 := Aside0.mk (HP20.out.below hb)
 have HQ21 := Aside0.mk (HQ20.out.below hb)
 have HW21 := Aside0.mk (HW20.out.below hb)
 have BF21 := Aside0.mk (blk_below BF20.out hb)
 have BE21 := Aside0.mk (blk_below BE20.out hb)
 have HB21 := Aside0.mk (below_step HB20.out hb)
 have HT21 := Aside0.mk (And.intro (pw_cell_below hb HT20.out.1) (pw_cell_below hb HT20.out.2))
 clear hb HV20 HE20 HP20 HQ20 HW20 BF20 BE20 HB20 HT20
 refine hK.out _ _ ⟨HP21.out.e0, HP21.out.e1, HQ21.out.e0, HQ21.out.e1, HW21.out.e0, HW21.out.e1, (blk_cell BF21.out 2).trans rfl, (blk_cell BE21.out 0).trans rfl, (blk_cell BE21.out 1).trans rfl, (blk_cell BE21.out 2).trans rfl, (blk_cell BE21.out 3).trans rfl, (blk_cell BE21.out 4).trans rfl, HT21.out.1, HT21.out.2⟩ (fun hHeld => ?_)
 clear hK K
 refine norm_ (a' := ?_) ?_ ?_
 rotate_left
 ·show Act.put _ (some 123) _ = _
  simp only [Act.put, List.setIfInBounds_toArray, List.set_cons_zero, List.set_cons_succ, i64_w, i32_w]
  rfl
 refine pure_ (i := 63) (N := some 124) (v := ?_) (a' := ?_) (lb_ 72 18446744073709551615) rfl rfl (any_of HT_.out (by kernel_rfl)) (fun _ _ _ h => h) (Or.inl ⟨by rfl, ?_⟩) ?_ ?_; rotate_left; intro w'; go_simp; with_reducible rfl; rotate_left; simp only [Act.put, List.setIfInBounds_toArray, List.set_cons_zero, List.set_cons_succ, i64_w, i32_w]; rfl
 refine pure_ (i := 64) (N := some 125) (v := ?_) (a' := ?_) (lb_ 72 36893488147419103231) rfl rfl (any_of HT_.out (by kernel_rfl)) (fun _ _ _ h => h) (Or.inl ⟨by rfl, ?_⟩) ?_ ?_; rotate_left; intro w'; go_simp; with_reducible rfl; rotate_left; simp only [Act.put, List.setIfInBounds_toArray, List.set_cons_zero, List.set_cons_succ, i64_w, i32_w]; rfl
 refine pure_ (i := 65) (N := some 126) (v := ?_) (a' := ?_) (lb_ 72 73786976294838206463) rfl rfl (any_of HT_.out (by kernel_rfl)) (fun _ _ _ h => h) (Or.inl ⟨by rfl, ?_⟩) ?_ ?_; rotate_left; intro w'; go_simp; with_reducible rfl; rotate_left; simp only [Act.put, List.setIfInBounds_toArray, List.set_cons_zero, List.set_cons_succ, i64_w, i32_w]; rfl
 refine pure_ (i := 66) (N := some 127) (v := ?_) (a' := ?_) (lb_ 72 147573952589676412927) rfl rfl (any_of HT_.out (by kernel_rfl)) (fun _ _ _ h => h) (Or.inl ⟨by rfl, ?_⟩) ?_ ?_; rotate_left; intro w'; go_simp; with_reducible rfl; rotate_left; simp only [Act.put, List.setIfInBounds_toArray, List.set_cons_zero, List.set_cons_succ, i64_w, i32_w]; rfl
 refine pure_ (i := 67) (N := some 128) (v := ?_) (a' := ?_) (lb_ 72 295147905179352825855) rfl rfl (any_of HT_.out (by kernel_rfl)) (fun _ _ _ h => h) (Or.inl ⟨by rfl, ?_⟩) ?_ ?_; rotate_left; intro w'; go_simp; with_reducible rfl; rotate_left; simp only [Act.put, List.setIfInBounds_toArray, List.set_cons_zero, List.set_cons_succ, i64_w, i32_w]; rfl
 refine pure_ (i := 68) (N := some 129) (v := ?_) (a' := ?_) (lb_ 72 590295810358705651711) rfl rfl (any_of HT_.out (by kernel_rfl)) (fun _ _ _ h => h) (Or.inl ⟨by rfl, ?_⟩) ?_ ?_; rotate_left; intro w'; go_simp; with_reducible rfl; rotate_left; simp only [Act.put, List.setIfInBounds_toArray, List.set_cons_zero, List.set_cons_succ, i64_w, i32_w]; rfl
 refine pure_ (i := 69) (N := some 130) (v := ?_) (a' := ?_) (lb_ 72 1180591620717411303423) rfl rfl (any_of HT_.out (by kernel_rfl)) (fun _ _ _ h => h) (Or.inl ⟨by rfl, ?_⟩) ?_ ?_; rotate_left; intro w'; go_simp; with_reducible rfl; rotate_left; simp only [Act.put, List.setIfInBounds_toArray, List.set_cons_zero, List.set_cons_succ, i64_w, i32_w]; rfl
 refine pure_ (i := 70) (N := some 131) (v := ?_) (a' := ?_) (lb_ 72 2361183241434822606847) rfl rfl (any_of HT_.out (by kernel_rfl)) (fun _ _ _ h => h) (Or.inl ⟨by rfl, ?_⟩) ?_ ?_; rotate_left; intro w'; go_simp; with_reducible rfl; rotate_left; simp only [Act.put, List.setIfInBounds_toArray, List.set_cons_zero, List.set_cons_succ, i64_w, i32_w]; rfl
 refine pure_ (i := 71) (N := some 0) (v := ?_) (a' := ?_) (lb_ 72 4722366482869645213695) rfl rfl (any_of HT_.out (by kernel_rfl)) (fun _ _ _ h => h) (Or.inl ⟨by rfl, ?_⟩) ?_ ?_; rotate_left; intro w'; go_simp; with_reducible rfl; rotate_left; simp only [Act.put, List.setIfInBounds_toArray, List.set_cons_zero, List.set_cons_succ, i64_w, i32_w]; rfl
 refine done_ (done_of HT_.out (by kernel_rfl)) ?_
 try go_wp2
 go_ret
 exact ⟨rfl, HB21.out⟩
end Go.Proofs.Ytijpfonbeepmfaa.Print
