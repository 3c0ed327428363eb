-- Written by ownprint.py (this session's) with the kit's print.py: functions, contracts, rows; Lean checks it.
import Derived.Test.YtijpfonbeepmfaaPrint0
import Derived.Test.YtijpfonbeepmfaaHSq
namespace Go.Proofs.Ytijpfonbeepmfaa.Print
open Go.RowKit Go.Proofs.YtijpfonbeepmfaaW.PrintWords Go.Proofs.YtijpfonbeepmfaaW.PrintLast Go.Proofs.YtijpfonbeepmfaaW.PrintMore
attribute [local go_sem] max2_int min2_int max_two min_two max_three min_three max_four min_four   -- for this text's walks alone
set_option linter.unusedVariables false
set_option linter.unusedSimpArgs false
def fencepostlaw04_Buffering.f  : Option (ByteArray × (List (S62)) × (List (S58)) × Bool × (List (S64))) := some ((⟨#[115, 98]⟩ : ByteArray), (([(⟨(⟨#[120]⟩ : ByteArray), 0⟩ : S62)] : List (S62))), (([(⟨(([(⟨4, (⟨#[]⟩ : ByteArray), (⟨#[120]⟩ : ByteArray), (⟨#[]⟩ : ByteArray), 1⟩ : S60), (⟨2, (⟨#[101, 97, 120]⟩ : ByteArray), (⟨#[121]⟩ : ByteArray), (⟨#[]⟩ : ByteArray), 0⟩ : S60)] : List (S60)))⟩ : S58), (⟨(([(⟨4, (⟨#[]⟩ : ByteArray), (⟨#[121]⟩ : ByteArray), (⟨#[]⟩ : ByteArray), 1⟩ : S60), (⟨2, (⟨#[101, 97, 120]⟩ : ByteArray), (⟨#[120]⟩ : ByteArray), (⟨#[]⟩ : ByteArray), 0⟩ : S60)] : List (S60)))⟩ : S58)] : List (S58))), false, (([(⟨0, (⟨#[101, 97, 120]⟩ : ByteArray), 0⟩ : S64), (⟨1, (⟨#[101, 97, 120]⟩ : ByteArray), 0⟩ : S64)] : List (S64))))
set_option maxHeartbeats 8000000 in
set_option maxRecDepth 100000 in
theorem fencepostlaw04_Buffering.calls  (r1 : ByteArray) (r2 : List (S62)) (r3 : List (S58)) (r4 : Bool) (r5 : List (S64)) (w : World) (h : fencepostlaw04_Buffering.f  = some (r1, r2, r3, r4, r5)) :
 Calls Try.prog 30 #[] w fun e w' => ∃ v1_ v2_ v4_ : Value, e = .returned (.agg #[.string r1, v1_, v2_, .bool r4, v4_]) ∧ Kd.R k62 62 w' w.heap.size (fun k_ => (w.heap.size ≤ k_)) v1_ r2 ∧ Kd.N k58 58 w' w.heap.size (fun k_ => (w.heap.size ≤ k_) ∧ some k_ ≠ (v1_ : Value).ownBlock ∧ some k_ ≠ (v4_ : Value).ownBlock) v2_ r3 ∧ Kd.R k64 64 w' w.heap.size (fun k_ => (w.heap.size ≤ k_)) v4_ r5 ∧ Below w.heap.size w w' := by
 have hu30 := Try.underlying30
 have hu62 := Try.underlying62
 have hu60 := Try.underlying60
 have hu58 := Try.underlying58
 have hu64 := Try.underlying64
 have HB := Aside0.mk (Below.refl w.heap.size w)
 have H : (some ((⟨#[115, 98]⟩ : ByteArray), (([(⟨(⟨#[120]⟩ : ByteArray), 0⟩ : S62)] : List (S62))), (([(⟨(([(⟨4, (⟨#[]⟩ : ByteArray), (⟨#[120]⟩ : ByteArray), (⟨#[]⟩ : ByteArray), 1⟩ : S60), (⟨2, (⟨#[101, 97, 120]⟩ : ByteArray), (⟨#[121]⟩ : ByteArray), (⟨#[]⟩ : ByteArray), 0⟩ : S60)] : List (S60)))⟩ : S58), (⟨(([(⟨4, (⟨#[]⟩ : ByteArray), (⟨#[121]⟩ : ByteArray), (⟨#[]⟩ : ByteArray), 1⟩ : S60), (⟨2, (⟨#[101, 97, 120]⟩ : ByteArray), (⟨#[120]⟩ : ByteArray), (⟨#[]⟩ : ByteArray), 0⟩ : S60)] : List (S60)))⟩ : S58)] : List (S58))), false, (([(⟨0, (⟨#[101, 97, 120]⟩ : ByteArray), 0⟩ : S64), (⟨1, (⟨#[101, 97, 120]⟩ : ByteArray), 0⟩ : S64)] : List (S64))))) = some (r1, r2, r3, r4, r5) := h
 clear h
 obtain ⟨y129, hy129⟩ : ∃ y_ : List (S62), y_ = (([(⟨(⟨#[120]⟩ : ByteArray), 0⟩ : S62)] : List (S62))) := ⟨_, rfl⟩
 replace H : (some ((⟨#[115, 98]⟩ : ByteArray), y129, (([(⟨(([(⟨4, (⟨#[]⟩ : ByteArray), (⟨#[120]⟩ : ByteArray), (⟨#[]⟩ : ByteArray), 1⟩ : S60), (⟨2, (⟨#[101, 97, 120]⟩ : ByteArray), (⟨#[121]⟩ : ByteArray), (⟨#[]⟩ : ByteArray), 0⟩ : S60)] : List (S60)))⟩ : S58), (⟨(([(⟨4, (⟨#[]⟩ : ByteArray), (⟨#[121]⟩ : ByteArray), (⟨#[]⟩ : ByteArray), 1⟩ : S60), (⟨2, (⟨#[101, 97, 120]⟩ : ByteArray), (⟨#[120]⟩ : ByteArray), (⟨#[]⟩ : ByteArray), 0⟩ : S60)] : List (S60)))⟩ : S58)] : List (S58))), false, (([(⟨0, (⟨#[101, 97, 120]⟩ : ByteArray), 0⟩ : S64), (⟨1, (⟨#[101, 97, 120]⟩ : ByteArray), 0⟩ : S64)] : List (S64))))) = some (r1, r2, r3, r4, r5) := by first | (rw [hy129]; with_reducible exact H) | (have H2_ := (Option.bind_some _ _).symm.trans H; rw [hy129]; with_reducible exact H2_) | (have H2_ := (Option.bind_some _ _).symm.trans H; with_reducible exact H2_) | with_reducible exact H | (rw [hy129]; exact H) | exact H
 have Ny129 := Aside0.mk hy129
 clear hy129
 obtain ⟨y132, hy132⟩ : ∃ y_ : List (S60), y_ = (([(⟨4, (⟨#[]⟩ : ByteArray), (⟨#[120]⟩ : ByteArray), (⟨#[]⟩ : ByteArray), 1⟩ : S60), (⟨2, (⟨#[101, 97, 120]⟩ : ByteArray), (⟨#[121]⟩ : ByteArray), (⟨#[]⟩ : ByteArray), 0⟩ : S60)] : List (S60))) := ⟨_, rfl⟩
 replace H : (some ((⟨#[115, 98]⟩ : ByteArray), y129, (([(⟨y132⟩ : S58), (⟨(([(⟨4, (⟨#[]⟩ : ByteArray), (⟨#[121]⟩ : ByteArray), (⟨#[]⟩ : ByteArray), 1⟩ : S60), (⟨2, (⟨#[101, 97, 120]⟩ : ByteArray), (⟨#[120]⟩ : ByteArray), (⟨#[]⟩ : ByteArray), 0⟩ : S60)] : List (S60)))⟩ : S58)] : List (S58))), false, (([(⟨0, (⟨#[101, 97, 120]⟩ : ByteArray), 0⟩ : S64), (⟨1, (⟨#[101, 97, 120]⟩ : ByteArray), 0⟩ : S64)] : List (S64))))) = some (r1, r2, r3, r4, r5) := by first | (rw [hy132]; with_reducible exact H) | (have H2_ := (Option.bind_some _ _).symm.trans H; rw [hy132]; with_reducible exact H2_) | (have H2_ := (Option.bind_some _ _).symm.trans H; with_reducible exact H2_) | with_reducible exact H | (rw [hy132]; exact H) | exact H
 have Ny132 := Aside0.mk hy132
 clear hy132
 obtain ⟨y135, hy135⟩ : ∃ y_ : List (S60), y_ = (([(⟨4, (⟨#[]⟩ : ByteArray), (⟨#[121]⟩ : ByteArray), (⟨#[]⟩ : ByteArray), 1⟩ : S60), (⟨2, (⟨#[101, 97, 120]⟩ : ByteArray), (⟨#[120]⟩ : ByteArray), (⟨#[]⟩ : ByteArray), 0⟩ : S60)] : List (S60))) := ⟨_, rfl⟩
 replace H : (some ((⟨#[115, 98]⟩ : ByteArray), y129, (([(⟨y132⟩ : S58), (⟨y135⟩ : S58)] : List (S58))), false, (([(⟨0, (⟨#[101, 97, 120]⟩ : ByteArray), 0⟩ : S64), (⟨1, (⟨#[101, 97, 120]⟩ : ByteArray), 0⟩ : S64)] : List (S64))))) = some (r1, r2, r3, r4, r5) := by first | (rw [hy135]; with_reducible exact H) | (have H2_ := (Option.bind_some _ _).symm.trans H; rw [hy135]; with_reducible exact H2_) | (have H2_ := (Option.bind_some _ _).symm.trans H; with_reducible exact H2_) | with_reducible exact H | (rw [hy135]; exact H) | exact H
 have Ny135 := Aside0.mk hy135
 clear hy135
 obtain ⟨y138, hy138⟩ : ∃ y_ : List (S58), y_ = (([(⟨y132⟩ : S58), (⟨y135⟩ : S58)] : List (S58))) := ⟨_, rfl⟩
 replace H : (some ((⟨#[115, 98]⟩ : ByteArray), y129, y138, false, (([(⟨0, (⟨#[101, 97, 120]⟩ : ByteArray), 0⟩ : S64), (⟨1, (⟨#[101, 97, 120]⟩ : ByteArray), 0⟩ : S64)] : List (S64))))) = some (r1, r2, r3, r4, r5) := by first | (rw [hy138]; with_reducible exact H) | (have H2_ := (Option.bind_some _ _).symm.trans H; rw [hy138]; with_reducible exact H2_) | (have H2_ := (Option.bind_some _ _).symm.trans H; with_reducible exact H2_) | with_reducible exact H | (rw [hy138]; exact H) | exact H
 have Ny138 := Aside0.mk hy138
 clear hy138
 obtain ⟨y141, hy141⟩ : ∃ y_ : List (S64), y_ = (([(⟨0, (⟨#[101, 97, 120]⟩ : ByteArray), 0⟩ : S64), (⟨1, (⟨#[101, 97, 120]⟩ : ByteArray), 0⟩ : S64)] : List (S64))) := ⟨_, rfl⟩
 replace H : (some ((⟨#[115, 98]⟩ : ByteArray), y129, y138, false, y141)) = some (r1, r2, r3, r4, r5) := by first | (rw [hy141]; with_reducible exact H) | (have H2_ := (Option.bind_some _ _).symm.trans H; rw [hy141]; with_reducible exact H2_) | (have H2_ := (Option.bind_some _ _).symm.trans H; with_reducible exact H2_) | with_reducible exact H | (rw [hy141]; exact H) | exact H
 have Ny141 := Aside0.mk hy141
 clear hy141
 simp only [Option.some.injEq, Prod.mk.injEq] at H
 obtain ⟨rfl, rfl, rfl, rfl, rfl⟩ := H
 go_enter Try.func30, Try.ntmps30
 go_wp2_with (first | ((with_reducible refine gate_dst (N := 0) rfl ?_); refine box_event ?hg (N := 0) ?hd (cs := #[.string (⟨#[]⟩ : ByteArray), .slice none 0 0, .slice none 0 0, .bool false, .slice none 0 0]) (t := 30) ?hr ?_; (case hd => rfl); (case hg => rfl); (case hr => first | (go_simp; done) | (go_simp; rfl)); intro gb128 hg w1 hbox hb; have n0_ := Aside0.mk (below_step (hb_ HB.out) hb); have n1_ := Aside0.mk (hbox); have n2_ := Aside0.mk (gs_ hg (hb_ HB.out)); have n3_ := Aside0.mk (gs_ hg (hb_ HB.out)); clear HB; have HB := n0_; have BK128 := n1_; have GW128 := n2_; have GE128 := n3_; clear n0_ n1_ n2_ n3_; clear hb hbox hg) | ((with_reducible refine gate_dst (N := 2) rfl ?_); refine Kd.R_lit k62 _ 62 ?hg (N := 2) ?hd (xs := ([(⟨(⟨#[120]⟩ : ByteArray), 0⟩ : S62)] : List (S62))) (inner := [.string (⟨#[120]⟩ : ByteArray), .int .i64 0]) (ok := fun _ => True) (okp := fun _ => True) ?hr ?hp (fun _ hk => hk) trivial (Below.refl _ _) (Nat.le_refl _) (by simp) ?_; (case hd => rfl); (case hg => rfl); (case hr => first | (go_simp; done) | (go_simp; rfl)); (case hp => exact (Reps.c2 (show Kd.M k62 _ _ _ (⟨(⟨#[120]⟩ : ByteArray), 0⟩ : S62) [.string (⟨#[120]⟩ : ByteArray), .int .i64 0] from (k62_mkM _ _ _ (⟨(⟨#[120]⟩ : ByteArray), 0⟩ : S62) )) (Reps.none _ _))); intro v130 w2 ho3 hb hg_ hnew_; clear hg_ hnew_; (first | rw [← Ny129.out] at ho3 | (simp only [Int.reduceToNat] at ho3; rw [← Ny129.out] at ho3)); have n0_ := Aside0.mk (Kd.R_lower (Kd.R_newM (M := fun k_ => (w.heap.size ≤ k_)) ho3 (below_size (hb_ HB.out)) (fun k_ h_ => h_)) (below_size (hb_ HB.out))); have n1_ := Aside0.mk (bb_ BK128.out hb); have n2_ := Aside0.mk (below_step (hb_ HB.out) hb); clear BK128; clear HB; have HO131 := n0_; have BK128 := n1_; have HB := n2_; clear n0_ n1_ n2_; clear hb ho3) | ((with_reducible refine gate_dst (N := 5) rfl ?_); refine Kd.R_lit k60 _ 60 ?hg (N := 5) ?hd (xs := ([(⟨4, (⟨#[]⟩ : ByteArray), (⟨#[120]⟩ : ByteArray), (⟨#[]⟩ : ByteArray), 1⟩ : S60), (⟨2, (⟨#[101, 97, 120]⟩ : ByteArray), (⟨#[121]⟩ : ByteArray), (⟨#[]⟩ : ByteArray), 0⟩ : S60)] : List (S60))) (inner := [.int .i64 4, .string (⟨#[]⟩ : ByteArray), .string (⟨#[120]⟩ : ByteArray), .string (⟨#[]⟩ : ByteArray), .int .i64 1, .int .i64 2, .string (⟨#[101, 97, 120]⟩ : ByteArray), .string (⟨#[121]⟩ : ByteArray), .string (⟨#[]⟩ : ByteArray), .int .i64 0]) (ok := fun _ => True) (okp := fun _ => True) ?hr ?hp (fun _ hk => hk) trivial (Below.refl _ _) (Nat.le_refl _) (by simp) ?_; (case hd => rfl); (case hg => rfl); (case hr => first | (go_simp; done) | (go_simp; rfl)); (case hp => exact (Reps.c5 (show Kd.M k60 _ _ _ (⟨4, (⟨#[]⟩ : ByteArray), (⟨#[120]⟩ : ByteArray), (⟨#[]⟩ : ByteArray), 1⟩ : S60) [.int .i64 4, .string (⟨#[]⟩ : ByteArray), .string (⟨#[120]⟩ : ByteArray), .string (⟨#[]⟩ : ByteArray), .int .i64 1] from (k60_mkM _ _ _ (⟨4, (⟨#[]⟩ : ByteArray), (⟨#[120]⟩ : ByteArray), (⟨#[]⟩ : ByteArray), 1⟩ : S60) )) (Reps.c5 (show Kd.M k60 _ _ _ (⟨2, (⟨#[101, 97, 120]⟩ : ByteArray), (⟨#[121]⟩ : ByteArray), (⟨#[]⟩ : ByteArray), 0⟩ : S60) [.int .i64 2, .string (⟨#[101, 97, 120]⟩ : ByteArray), .string (⟨#[121]⟩ : ByteArray), .string (⟨#[]⟩ : ByteArray), .int .i64 0] from (k60_mkM _ _ _ (⟨2, (⟨#[101, 97, 120]⟩ : ByteArray), (⟨#[121]⟩ : ByteArray), (⟨#[]⟩ : ByteArray), 0⟩ : S60) )) (Reps.none _ _)))); intro v133 w4 ho5 hb hg_ hnew_; clear hg_ hnew_; (first | rw [← Ny132.out] at ho5 | (simp only [Int.reduceToNat] at ho5; rw [← Ny132.out] at ho5)); have n0_ := Aside0.mk (Kd.R_below (rd_ HO131.out) hb); have n1_ := Aside0.mk (Kd.R_lower (Kd.R_newM (M := fun k_ => (w.heap.size ≤ k_)) ho5 (below_size (hb_ HB.out)) (fun k_ h_ => h_)) (below_size (hb_ HB.out))); have n2_ := Aside0.mk (bb_ BK128.out hb); have n3_ := Aside0.mk (below_step (hb_ HB.out) hb); clear HO131; clear BK128; clear HB; have HO131 := n0_; have HO134 := n1_; have BK128 := n2_; have HB := n3_; clear n0_ n1_ n2_ n3_; clear hb ho5; obtain ⟨Ao6, co6, eo6⟩ := Kd.R_slice HO134.out; subst eo6) | ((with_reducible refine gate_dst (N := 9) rfl ?_); refine Kd.R_lit k60 _ 60 ?hg (N := 9) ?hd (xs := ([(⟨4, (⟨#[]⟩ : ByteArray), (⟨#[121]⟩ : ByteArray), (⟨#[]⟩ : ByteArray), 1⟩ : S60), (⟨2, (⟨#[101, 97, 120]⟩ : ByteArray), (⟨#[120]⟩ : ByteArray), (⟨#[]⟩ : ByteArray), 0⟩ : S60)] : List (S60))) (inner := [.int .i64 4, .string (⟨#[]⟩ : ByteArray), .string (⟨#[121]⟩ : ByteArray), .string (⟨#[]⟩ : ByteArray), .int .i64 1, .int .i64 2, .string (⟨#[101, 97, 120]⟩ : ByteArray), .string (⟨#[120]⟩ : ByteArray), .string (⟨#[]⟩ : ByteArray), .int .i64 0]) (ok := fun _ => True) (okp := fun _ => True) ?hr ?hp (fun _ hk => hk) trivial (Below.refl _ _) (Nat.le_refl _) (by simp) ?_; (case hd => rfl); (case hg => rfl); (case hr => first | (go_simp; done) | (go_simp; rfl)); (case hp => exact (Reps.c5 (show Kd.M k60 _ _ _ (⟨4, (⟨#[]⟩ : ByteArray), (⟨#[121]⟩ : ByteArray), (⟨#[]⟩ : ByteArray), 1⟩ : S60) [.int .i64 4, .string (⟨#[]⟩ : ByteArray), .string (⟨#[121]⟩ : ByteArray), .string (⟨#[]⟩ : ByteArray), .int .i64 1] from (k60_mkM _ _ _ (⟨4, (⟨#[]⟩ : ByteArray), (⟨#[121]⟩ : ByteArray), (⟨#[]⟩ : ByteArray), 1⟩ : S60) )) (Reps.c5 (show Kd.M k60 _ _ _ (⟨2, (⟨#[101, 97, 120]⟩ : ByteArray), (⟨#[120]⟩ : ByteArray), (⟨#[]⟩ : ByteArray), 0⟩ : S60) [.int .i64 2, .string (⟨#[101, 97, 120]⟩ : ByteArray), .string (⟨#[120]⟩ : ByteArray), .string (⟨#[]⟩ : ByteArray), .int .i64 0] from (k60_mkM _ _ _ (⟨2, (⟨#[101, 97, 120]⟩ : ByteArray), (⟨#[120]⟩ : ByteArray), (⟨#[]⟩ : ByteArray), 0⟩ : S60) )) (Reps.none _ _)))); intro v136 w7 ho8 hb hg_ hnew_; clear hg_ hnew_; (first | rw [← Ny135.out] at ho8 | (simp only [Int.reduceToNat] at ho8; rw [← Ny135.out] at ho8)); have n0_ := Aside0.mk (Kd.R_below (rd_ HO131.out) hb); have n1_ := Aside0.mk (Kd.R_elder' (rd_ HO134.out) (Kd.R_base ho8) hb); have n2_ := Aside0.mk (Kd.R_lower (Kd.R_new' (Kd.R_newM (M := fun k_ => (w.heap.size ≤ k_)) ho8 (below_size (hb_ HB.out)) (fun k_ h_ => h_)) (Kd.R_lt (rd_ HO134.out))) (below_size (hb_ HB.out))); have n3_ := Aside0.mk (bb_ BK128.out hb); have n4_ := Aside0.mk (below_step (hb_ HB.out) hb); clear HO131; clear HO134; clear BK128; clear HB; have HO131 := n0_; have HO134 := n1_; have HO137 := n2_; have BK128 := n3_; have HB := n4_; clear n0_ n1_ n2_ n3_ n4_; clear hb ho8; obtain ⟨Ao9, co9, eo9⟩ := Kd.R_slice HO137.out; subst eo9) | ((with_reducible refine gate_dst (N := 11) rfl ?_); refine Kd.N_lit k58 _ 58 ?hg (N' := 11) ?hd (xs := ([(⟨y132⟩ : S58), (⟨y135⟩ : S58)] : List (S58))) (inner := [.slice Ao6 y132.length co6, .slice Ao9 y135.length co9]) (ok := (fun k_ => (w.heap.size ≤ k_) ∧ some k_ ≠ (v130 : Value).ownBlock ∧ k_ ≠ gb128)) (okp := (fun k_ => (w.heap.size ≤ k_) ∧ some k_ ≠ (v130 : Value).ownBlock ∧ k_ ≠ gb128)) ?hr ?hp (fun _ hk => hk) ((show ∀ k_, w7.heap.size ≤ k_ → (fun k_ => (w.heap.size ≤ k_) ∧ some k_ ≠ (v130 : Value).ownBlock ∧ k_ ≠ gb128) k_ from fun k_ hk => ⟨(Nat.le_trans (below_size (hb_ HB.out)) hk), Kd.fresh' (Kd.R_lt (rd_ HO131.out)) k_ hk, Kd.freshB (g := gb128) (o := .cells #[.string (⟨#[]⟩ : ByteArray), .slice none 0 0, .slice none 0 0, .bool false, .slice none 0 0] 30 (0, 0)) (bd_ BK128.out) k_ hk⟩) _ (Nat.le_refl _)) (Below.refl _ _) (Nat.le_refl _) (by simp) ?_; (case hd => rfl); (case hg => rfl); (case hr => first | (go_simp; done) | (go_simp; rfl)); (case hp => exact (Reps.one (show Kd.FK k58 _ _ (⟨y132⟩ : S58) [.slice Ao6 y132.length co6] from (k58_mkF _ _ (⟨y132⟩ : S58) (Kd.R_reads' (Kd.R_mono (ok' := (fun k_ => (w.heap.size ≤ k_) ∧ some k_ ≠ (v130 : Value).ownBlock ∧ k_ ≠ gb128)) (Kd.R_types (Kd.R_apart' (HO134.out) (Kd.R_typed HO131.out) (by decide)) BK128.out (by decide)) (fun k_ hk => ⟨hk.1.1.1.1, ⟨hk.1.2, hk.2⟩⟩))).2.1 (Kd.R_F (Kd.R_mono (ok' := (fun k_ => (w.heap.size ≤ k_) ∧ some k_ ≠ (v130 : Value).ownBlock ∧ k_ ≠ gb128)) (Kd.R_types (Kd.R_apart' (HO134.out) (Kd.R_typed HO131.out) (by decide)) BK128.out (by decide)) (fun k_ hk => ⟨hk.1.1.1.1, ⟨hk.1.2, hk.2⟩⟩))))) (Reps.one (show Kd.FK k58 _ _ (⟨y135⟩ : S58) [.slice Ao9 y135.length co9] from (k58_mkF _ _ (⟨y135⟩ : S58) (Kd.R_reads' (Kd.R_mono (ok' := (fun k_ => (w.heap.size ≤ k_) ∧ some k_ ≠ (v130 : Value).ownBlock ∧ k_ ≠ gb128)) (Kd.R_types (Kd.R_apart' (HO137.out) (Kd.R_typed HO131.out) (by decide)) BK128.out (by decide)) (fun k_ hk => ⟨hk.1.1.1.1, ⟨hk.1.2, hk.2⟩⟩))).2.1 (Kd.R_F (Kd.R_mono (ok' := (fun k_ => (w.heap.size ≤ k_) ∧ some k_ ≠ (v130 : Value).ownBlock ∧ k_ ≠ gb128)) (Kd.R_types (Kd.R_apart' (HO137.out) (Kd.R_typed HO131.out) (by decide)) BK128.out (by decide)) (fun k_ hk => ⟨hk.1.1.1.1, ⟨hk.1.2, hk.2⟩⟩))))) (Reps.none _ _)))); intro v139 w10 ho11 hb hg_ hnew_; clear hg_ hnew_; (first | rw [← Ny138.out] at ho11 | (simp only [Int.reduceToNat] at ho11; rw [← Ny138.out] at ho11)); have n0_ := Aside0.mk (Kd.R_below (rd_ HO131.out) hb); have n1_ := Aside0.mk (Kd.N_lower ho11 (below_size (hb_ HB.out))); have n2_ := Aside0.mk (bb_ BK128.out hb); have n3_ := Aside0.mk (below_step (hb_ HB.out) hb); clear HO131; clear BK128; clear HB; clear HO134; clear HO137; have HO131 := n0_; have HO140 := n1_; have BK128 := n2_; have HB := n3_; clear n0_ n1_ n2_ n3_; clear hb ho11) | ((with_reducible refine gate_dst (N := 14) rfl ?_); refine Kd.R_lit k64 _ 64 ?hg (N := 14) ?hd (xs := ([(⟨0, (⟨#[101, 97, 120]⟩ : ByteArray), 0⟩ : S64), (⟨1, (⟨#[101, 97, 120]⟩ : ByteArray), 0⟩ : S64)] : List (S64))) (inner := [.int .i64 0, .string (⟨#[101, 97, 120]⟩ : ByteArray), .int .i64 0, .int .i64 1, .string (⟨#[101, 97, 120]⟩ : ByteArray), .int .i64 0]) (ok := fun _ => True) (okp := fun _ => True) ?hr ?hp (fun _ hk => hk) trivial (Below.refl _ _) (Nat.le_refl _) (by simp) ?_; (case hd => rfl); (case hg => rfl); (case hr => first | (go_simp; done) | (go_simp; rfl)); (case hp => exact (Reps.c3 (show Kd.M k64 _ _ _ (⟨0, (⟨#[101, 97, 120]⟩ : ByteArray), 0⟩ : S64) [.int .i64 0, .string (⟨#[101, 97, 120]⟩ : ByteArray), .int .i64 0] from (k64_mkM _ _ _ (⟨0, (⟨#[101, 97, 120]⟩ : ByteArray), 0⟩ : S64) )) (Reps.c3 (show Kd.M k64 _ _ _ (⟨1, (⟨#[101, 97, 120]⟩ : ByteArray), 0⟩ : S64) [.int .i64 1, .string (⟨#[101, 97, 120]⟩ : ByteArray), .int .i64 0] from (k64_mkM _ _ _ (⟨1, (⟨#[101, 97, 120]⟩ : ByteArray), 0⟩ : S64) )) (Reps.none _ _)))); intro v142 w12 ho13 hb hg_ hnew_; clear hg_ hnew_; (first | rw [← Ny141.out] at ho13 | (simp only [Int.reduceToNat] at ho13; rw [← Ny141.out] at ho13)); have n0_ := Aside0.mk (Kd.R_below (rd_ HO131.out) hb); have n1_ := Aside0.mk (Kd.N_elder' (by (with_reducible repeat (first | apply Kd.N_alloc | apply Kd.N_drewN | apply Kd.N_drew)); exact HO140.out) (Kd.R_base ho13) hb); have n2_ := Aside0.mk (Kd.R_lower (Kd.R_newM (M := fun k_ => (w.heap.size ≤ k_)) ho13 (below_size (hb_ HB.out)) (fun k_ h_ => h_)) (below_size (hb_ HB.out))); have n3_ := Aside0.mk (bb_ BK128.out hb); have n4_ := Aside0.mk (below_step (hb_ HB.out) hb); clear HO131; clear HO140; clear BK128; clear HB; have HO131 := n0_; have HO140 := n1_; have HO143 := n2_; have BK128 := n3_; have HB := n4_; clear n0_ n1_ n2_ n3_ n4_; clear hb ho13; obtain ⟨Ao14, co14, eo14⟩ := Kd.R_slice HO143.out; subst eo14; obtain ⟨Ao15, co15, eo15⟩ := Kd.N_slice HO140.out; subst eo15; obtain ⟨Ao16, co16, eo16⟩ := Kd.R_slice HO131.out; subst eo16; have hcz17_0 : w12.cell? ⟨gb128, 0, none⟩ = some (.string (⟨#[]⟩ : ByteArray)) := (blk_cell BK128.out 0).trans rfl; have hcz17_1 : w12.cell? ⟨gb128, 1, none⟩ = some (.slice none 0 0) := (blk_cell BK128.out 1).trans rfl; have hcz17_2 : w12.cell? ⟨gb128, 2, none⟩ = some (.slice none 0 0) := (blk_cell BK128.out 2).trans rfl; have hcz17_3 : w12.cell? ⟨gb128, 3, none⟩ = some (.bool false) := (blk_cell BK128.out 3).trans rfl; have hcz17_4 : w12.cell? ⟨gb128, 4, none⟩ = some (.slice none 0 0) := (blk_cell BK128.out 4).trans rfl; have hfz17_0 := blk_frozen BK128.out 0; have hfz17_1 := blk_frozen BK128.out 1; have hfz17_2 := blk_frozen BK128.out 2; have hfz17_3 := blk_frozen BK128.out 3; have hfz17_4 := blk_frozen BK128.out 4))
 refine bodyPost_ret (results_cell_row rfl _ _ gb128 30 #[.string (⟨#[115, 98]⟩ : ByteArray), .slice Ao16 y129.length co16, .slice Ao15 y138.length co15, .bool false, .slice Ao14 y141.length co14] (0, 0) _ rfl (by exact bp5_ BK128.out) Try.underlying30 rfl (by kernel_rfl)) rfl ?_
 exact ⟨_, _, _, by first | rfl | (simp [errW_none, errW_some] <;> rfl) | (simp [*, errW_none, errW_some] <;> rfl), by (with_reducible repeat (first | apply Kd.R_alloc | apply Kd.R_drewN | apply Kd.R_drew)); exact Kd.R_mono (Kd.R_far (p := ⟨gb128, 4, none⟩) (Kd.R_far (p := ⟨gb128, 3, none⟩) (Kd.R_far (p := ⟨gb128, 2, none⟩) (Kd.R_far (p := ⟨gb128, 1, none⟩) (Kd.R_far (p := ⟨gb128, 0, none⟩) (Kd.R_types HO131.out BK128.out (by decide)) (fun _ hk => hk.2) (.string (⟨#[115, 98]⟩ : ByteArray))) (fun _ hk => hk.2) (.slice Ao16 y129.length co16)) (fun _ hk => hk.2) (.slice Ao15 y138.length co15)) (fun _ hk => hk.2) (.bool false)) (fun _ hk => hk.2) (.slice Ao14 y141.length co14)) (fun _ hk => hk.1.1), by (with_reducible repeat (first | apply Kd.N_alloc | apply Kd.N_drewN | apply Kd.N_drew)); exact Kd.N_mono (Kd.N_far (p := ⟨gb128, 4, none⟩) (Kd.N_far (p := ⟨gb128, 3, none⟩) (Kd.N_far (p := ⟨gb128, 2, none⟩) (Kd.N_far (p := ⟨gb128, 1, none⟩) (Kd.N_far (p := ⟨gb128, 0, none⟩) (Kd.N_mono HO140.out (fun k_ hk => (⟨hk, hk.1.2.2⟩ : _ ∧ k_ ≠ gb128))) (fun _ hk => hk.2) (.string (⟨#[115, 98]⟩ : ByteArray))) (fun _ hk => hk.2) (.slice Ao16 y129.length co16)) (fun _ hk => hk.2) (.slice Ao15 y138.length co15)) (fun _ hk => hk.2) (.bool false)) (fun _ hk => hk.2) (.slice Ao14 y141.length co14)) (fun _ hk => ⟨hk.1.1.1, ⟨hk.1.1.2.1, hk.1.2⟩⟩), by (with_reducible repeat (first | apply Kd.R_alloc | apply Kd.R_drewN | apply Kd.R_drew)); exact Kd.R_mono (Kd.R_far (p := ⟨gb128, 4, none⟩) (Kd.R_far (p := ⟨gb128, 3, none⟩) (Kd.R_far (p := ⟨gb128, 2, none⟩) (Kd.R_far (p := ⟨gb128, 1, none⟩) (Kd.R_far (p := ⟨gb128, 0, none⟩) (Kd.R_types HO143.out BK128.out (by decide)) (fun _ hk => hk.2) (.string (⟨#[115, 98]⟩ : ByteArray))) (fun _ hk => hk.2) (.slice Ao16 y129.length co16)) (fun _ hk => hk.2) (.slice Ao15 y138.length co15)) (fun _ hk => hk.2) (.bool false)) (fun _ hk => hk.2) (.slice Ao14 y141.length co14)) (fun _ hk => hk.1.1), hb_ HB.out⟩
mutual
def fencepostlaw07_Great.j0 : Nat → Bool → List Int → List (List (S53)) → Option (Bool)
 | 0, _, _, _ => none
 | k + 1, x13, x145000, x145001 => if x13 = true then (some true) else (fencepostlaw07_Great.l0 k 0 x145000 x145001)
def fencepostlaw07_Great.l0 : Nat → Int → List Int → List (List (S53)) → Option (Bool)
 | 0, _, _, _ => none
 | k + 1, x3, x145000, x145001 => if x3 < (x145001.length : Int) then (if 0 ≤ x3 then (if ((rd_L3 x145001 x3).length : Int) > 300 then (some true) else (fencepostlaw07_Great.l0 k (wrap64 (x3 + 1)) x145000 x145001)) else (none)) else (some false)
end
def fencepostlaw07_Great.f (k : Nat) (l0_0 : List Int) (l0_1 : List (List (S53))) : Option (Bool) := if (l0_0.length : Int) > 60 then (fencepostlaw07_Great.j0 k true l0_0 l0_1) else (fencepostlaw07_Great.j0 k (decide ((l0_1.length : Int) > 9)) l0_0 l0_1)
set_option maxHeartbeats 8000000 in
set_option maxRecDepth 100000 in
theorem fencepostlaw07_Great.calls (k : Nat) (A0_0 : Option Addr) (c0_0 : Nat) (l0_0 : List Int) (A0_1 : Option Addr) (c0_1 : Nat) (l0_1 : List (List (S53))) (r : Bool) (w : World) (hr0_0 : Kd.C (Kd.int .i64) w A0_0 l0_0.length l0_0) (hc0_0 : l0_0.length ≤ c0_0) (hr0_1 : Kd.C (Kd.slice 53 k53) w A0_1 l0_1.length l0_1) (hc0_1 : l0_1.length ≤ c0_1) (h : fencepostlaw07_Great.f k l0_0 l0_1 = some r) :
 Calls Try.prog 31 #[.agg #[.slice A0_0 l0_0.length c0_0, .slice A0_1 l0_1.length c0_1]] w fun e w' => e = .returned (.bool r) ∧ Below w.heap.size w w' := by
 have hu25 := Try.underlying25
 have HR0_0 := Aside0.mk hr0_0
 have HC0_0 := Aside0.mk hc0_0
 clear hr0_0 hc0_0
 have HR0_1 := Aside0.mk hr0_1
 have HC0_1 := Aside0.mk hc0_1
 clear hr0_1 hc0_1
 have HB := Aside0.mk (Below.refl w.heap.size w)
 have H : (if (l0_0.length : Int) > 60 then (fencepostlaw07_Great.j0 k true l0_0 l0_1) else (fencepostlaw07_Great.j0 k (decide ((l0_1.length : Int) > 9)) l0_0 l0_1)) = some r := h
 clear h
 have HC2 := Aside0.mk H
 clear H
 go_enter Try.func31, Try.ntmps31
 go_upto_region 1 with (first | ((with_reducible refine gate_dst (N := 1) rfl ?_); (try (refine gate_guard (by rfl) ?_; dsimp only)); refine box_event ?hg (N := 1) ?hd (cs := #[.slice A0_0 l0_0.length c0_0, .slice A0_1 l0_1.length c0_1]) (t := 25) ?hr ?_; (case hd => rfl); (case hg => rfl); (case hr => first | (go_simp; done) | (go_simp; rfl)); intro gb144 hg w3 hbox hb; have n0_ := Aside0.mk (below_step (hb_ HB.out) hb); have n1_ := Aside0.mk (hbox); have n2_ := Aside0.mk (gs_ hg (hb_ HB.out)); have n3_ := Aside0.mk (gs_ hg (hb_ HB.out)); clear HB; have HB := n0_; have BK144 := n1_; have GW144 := n2_; have GE144 := n3_; clear n0_ n1_ n2_ n3_; clear hb hbox hg))
 (try simp only [Act.put, List.setIfInBounds_toArray, List.set_cons_zero, List.set_cons_succ])
 go_cut [13] (fun v13 wc => ∃ (kq : Nat) (x13_1 : Bool), v13 = .bool x13_1 ∧ Aside0 (fencepostlaw07_Great.j0 kq x13_1 l0_0 l0_1 = some r) ∧ Aside0 (kq ≤ k) ∧ Aside0 (wc.heap[gb144]? = some (.cells #[(.slice A0_0 l0_0.length c0_0), (.slice A0_1 l0_1.length c0_1)] 25 (0, 0))) ∧ Aside0 (Below w.heap.size w wc))
 case first =>
  have H := HC2.out
  clear HC2
  by_cases c4 : (l0_0.length : Int) > 60
  ·rw [if_pos c4] at H
   have c4b0 : decide (60 < (l0_0.length : Int)) = true := decide_eq_true c4
   have c4b1 : decide (60 < l0_0.length) = true := decide_eq_true (by omega)
   clear c4
   (first | rw [c4b0] | (simp only [i64_w, i32_w]; rw [c4b0]) | skip)
   have H' := Aside0.mk H
   clear H
   have hcz5_0 : w3.cell? ⟨gb144, 0, none⟩ = some (.slice A0_0 l0_0.length c0_0) := (blk_cell BK144.out 0).trans rfl
   have hcz5_1 : w3.cell? ⟨gb144, 1, none⟩ = some (.slice A0_1 l0_1.length c0_1) := (blk_cell BK144.out 1).trans rfl
   have hfz5_0 := blk_frozen BK144.out 0
   have hfz5_1 := blk_frozen BK144.out 1
   go_wp2
   go_meet
   case rel => exact ⟨_, (true), rf_, H', ⟨by first | omega | exact Nat.le_refl _⟩, ⟨bd_ BK144.out⟩, ⟨hb_ HB.out⟩⟩
  rw [if_neg c4] at H
  have c4b0 : decide (60 < (l0_0.length : Int)) = false := decide_eq_false c4
  have c4b1 : decide (60 < l0_0.length) = false := decide_eq_false (by omega)
  clear c4
  (first | rw [c4b0] | (simp only [i64_w, i32_w]; rw [c4b0]) | skip)
  have H' := Aside0.mk H
  clear H
  have hcz6_0 : w3.cell? ⟨gb144, 0, none⟩ = some (.slice A0_0 l0_0.length c0_0) := (blk_cell BK144.out 0).trans rfl
  have hcz6_1 : w3.cell? ⟨gb144, 1, none⟩ = some (.slice A0_1 l0_1.length c0_1) := (blk_cell BK144.out 1).trans rfl
  have hfz6_0 := blk_frozen BK144.out 0
  have hfz6_1 := blk_frozen BK144.out 1
  go_wp2
  go_meet
  case rel => exact ⟨_, (decide ((l0_1.length : Int) > 9)), rf_, H', ⟨by first | omega | exact Nat.le_refl _⟩, ⟨bd_ BK144.out⟩, ⟨hb_ HB.out⟩⟩
 clear HC2
 obtain ⟨kq, x13_1, rfl, HA, HJ1, BK144, HB⟩ := hcut
 cases kq with
 | zero => exact absurd HA.out (by simp [fencepostlaw07_Great.j0])
 | succ kj1 => ?_
 have H := HA.out
 clear HA
 simp only [fencepostlaw07_Great.j0] at H
 by_cases c7 : x13_1 = true
 ·subst c7
  have H1 : (some true) = some r := by rw [if_pos rfl] at H; exact H
  clear H
  have H := H1
  clear H1
  obtain rfl := Option.some.inj H
  go_wp2
  go_ret
  exact ⟨by first | rfl | (simp [errW_none, errW_some] <;> rfl) | (simp [*, errW_none, errW_some] <;> rfl), hb_ HB.out⟩
 replace c7 := Bool.eq_false_iff.mpr c7
 subst c7
 have H1 : (fencepostlaw07_Great.l0 kj1 0 l0_0 l0_1) = some r := by rw [if_neg (show ¬ (false = true) by decide)] at H; exact H
 clear H
 have H := H1
 clear H1
 have H' := Aside0.mk H
 clear H
 go_wp2
 go_loopg [3] kj1 (fun kq v3 w' => ∃ (x3_2 : Int), v3 = .int .i64 x3_2 ∧ Aside0 (fencepostlaw07_Great.l0 kq x3_2 l0_0 l0_1 = some r) ∧ Aside0 (kq ≤ kj1) ∧ Aside0 (w'.heap[gb144]? = some (.cells #[(.slice A0_0 l0_0.length c0_0), (.slice A0_1 l0_1.length c0_1)] 25 (0, 0))) ∧ Aside0 (Below w.heap.size w w'))
 case atStart => exact ⟨(0), rf_, H', ⟨Nat.le_refl _⟩, ⟨bd_ BK144.out⟩, ⟨hb_ HB.out⟩⟩
 clear H'
 try clear c7
 obtain ⟨x3_2, rfl, HA, HK2, BK144, HB⟩ := hrel
 cases gk with
 | zero => exact absurd HA.out (by simp [fencepostlaw07_Great.l0])
 | succ k2 => ?_
 have H := HA.out
 clear HA
 simp only [fencepostlaw07_Great.l0] at H
 by_cases c8 : x3_2 < (l0_1.length : Int)
 rotate_left
 ·rw [if_neg c8] at H
  have c8b0 : decide (x3_2 < (l0_1.length : Int)) = false := decide_eq_false c8
  clear c8
  obtain rfl := Option.some.inj H
  have hcz13_0 : wr.cell? ⟨gb144, 0, none⟩ = some (.slice A0_0 l0_0.length c0_0) := (blk_cell BK144.out 0).trans rfl
  have hcz13_1 : wr.cell? ⟨gb144, 1, none⟩ = some (.slice A0_1 l0_1.length c0_1) := (blk_cell BK144.out 1).trans rfl
  have hfz13_0 := blk_frozen BK144.out 0
  have hfz13_1 := blk_frozen BK144.out 1
  go_wp2
  go_ret
  exact ⟨by first | rfl | (simp [errW_none, errW_some] <;> rfl) | (simp [*, errW_none, errW_some] <;> rfl), hb_ HB.out⟩
 rw [if_pos c8] at H
 have c8b0 : decide (x3_2 < (l0_1.length : Int)) = true := decide_eq_true c8
 clear c8
 by_cases c9 : 0 ≤ x3_2
 rotate_left
 ·rw [if_neg c9] at H
  exact absurd H (by simp)
 rw [if_pos c9] at H
 have c9b0 : decide (0 ≤ x3_2) = true := decide_eq_true c9
 clear c9
 by_cases c10 : ((rd_L3 l0_1 x3_2).length : Int) > 300
 ·rw [if_pos c10] at H
  have c10b0 : decide (300 < ((rd_L3 l0_1 x3_2).length : Int)) = true := decide_eq_true c10
  have c10b1 : decide (300 < (rd_L3 l0_1 x3_2).length) = true := decide_eq_true (by omega)
  clear c10
  obtain rfl := Option.some.inj H
  have hcz11_0 : wr.cell? ⟨gb144, 0, none⟩ = some (.slice A0_0 l0_0.length c0_0) := (blk_cell BK144.out 0).trans rfl
  have hcz11_1 : wr.cell? ⟨gb144, 1, none⟩ = some (.slice A0_1 l0_1.length c0_1) := (blk_cell BK144.out 1).trans rfl
  have hfz11_0 := blk_frozen BK144.out 0
  have hfz11_1 := blk_frozen BK144.out 1
  have p145 : 0 ≤ (x3_2 : Int) := of_decide_eq_true as_
  have q145 : x3_2 < (l0_1.length : Int) := of_decide_eq_true as_
  obtain ⟨ad145, A145_0, c145_0, e145, hx145_0, hl145_0, hi145_0⟩ := at_L3 HR0_1.out x3_2 p145 q145
  cases e145
  replace hx145_0 := cl_ HB.out hx145_0
  have HR145_0 := Aside0.mk hi145_0
  have HC145_0 := Aside0.mk hl145_0
  clear hi145_0 hl145_0
  replace p145 := eq_true p145
  replace q145 := eq_true q145
  go_wp2
  go_ret
  exact ⟨by first | rfl | (simp [errW_none, errW_some] <;> rfl) | (simp [*, errW_none, errW_some] <;> rfl), hb_ HB.out⟩
 rw [if_neg c10] at H
 have c10b0 : decide (300 < ((rd_L3 l0_1 x3_2).length : Int)) = false := decide_eq_false c10
 have c10b1 : decide (300 < (rd_L3 l0_1 x3_2).length) = false := decide_eq_false (by omega)
 clear c10
 have H' := Aside0.mk H
 clear H
 have hcz12_0 : wr.cell? ⟨gb144, 0, none⟩ = some (.slice A0_0 l0_0.length c0_0) := (blk_cell BK144.out 0).trans rfl
 have hcz12_1 : wr.cell? ⟨gb144, 1, none⟩ = some (.slice A0_1 l0_1.length c0_1) := (blk_cell BK144.out 1).trans rfl
 have hfz12_0 := blk_frozen BK144.out 0
 have hfz12_1 := blk_frozen BK144.out 1
 have p145 : 0 ≤ (x3_2 : Int) := of_decide_eq_true as_
 have q145 : x3_2 < (l0_1.length : Int) := of_decide_eq_true as_
 obtain ⟨ad145, A145_0, c145_0, e145, hx145_0, hl145_0, hi145_0⟩ := at_L3 HR0_1.out x3_2 p145 q145
 cases e145
 replace hx145_0 := cl_ HB.out hx145_0
 have HR145_0 := Aside0.mk hi145_0
 have HC145_0 := Aside0.mk hl145_0
 clear hi145_0 hl145_0
 replace p145 := eq_true p145
 replace q145 := eq_true q145
 go_wp2
 go_roundg k2
 case measure => have := HJ1.out; have := HK2.out; omega
 case rel => exact ⟨(wrap64 (x3_2 + 1)), rf_, H', ⟨by have := HJ1.out; have := HK2.out; omega⟩, ⟨bd_ BK144.out⟩, ⟨hb_ HB.out⟩⟩
end Go.Proofs.Ytijpfonbeepmfaa.Print
