/- A map from int to int that the call made, told as a function; its laws at the operations. -/
import Derived.Test.YtijpfonbeepmfaaPrint0
import Derived.Maps.OwnOps
import Derived.Maps.OwnSet
import Derived.Maps.Views
namespace Go.Proofs.Ytijpfonbeepmfaa.Print
open Go.RowKit Go.Maps Go.Proofs.YtijpfonbeepmfaaW.PrintWords Go.Proofs.YtijpfonbeepmfaaW.PrintLast Go.Proofs.YtijpfonbeepmfaaW.PrintMore
set_option linter.unusedVariables false
set_option linter.unusedSimpArgs false
def upd (m : Int → Int) (x v : Int) : Int → Int := fun y => if y = x then v else m y
/-- Block B is a map of at most n entries that reads as m. -/
def MapIs (W : World) (B n : Nat) (m : Int → Int) : Prop :=
 ∃ D : DataW Unit, W.ownsMap Try.prog 3 (plainElem Try.prog 3) B n D ∧ ∀ x, (Lit.int .i64 x).wf = true → D.atKey (.int .i64 x) (.lit (.int .i64 0)) = .lit (.int .i64 (m x))
theorem keyed : Keyed Try.prog 3 := int_keyed Try.underlying3
theorem zero_of_int (w : World) : (zeroValue 3).run Try.prog w = .ok (.int .i64 0) w := by kernel_rfl
set_option maxRecDepth 100000 in
theorem MapIs.look {W : World} {B n : Nat} {m : Int → Int} (h : MapIs W B n m) (x : Int) (hx : (Lit.int .i64 x).wf = true) :
 (Instr.lookup 70 (.map (some B)) (.int .i64 x) false).run Try.prog W = .ok (.int .i64 (m x)) W ∧ (Lit.int .i64 (m x)).wf = true := by
 obtain ⟨D, ho, hD⟩ := h
 obtain ⟨c, hrun, hat, hwc⟩ := ho.lookup_int keyed Try.underlying70 Try.underlying3 (zero_of_int W) (keyOf_int_mk Try.underlying3 hx)
 rw [hD x hx] at hat
 have : m x = c := by
  injection hat with hat
  injection hat with _ hat
 rw [this]
 exact ⟨hrun, hwc⟩
theorem MapIs.kept {W W' : World} {B n : Nat} {m : Int → Int} {row : Option Nat} (h : MapIs W B n m) (hg : W.grownBy W' row) (hne : some B ≠ row) : MapIs W' B n m := by
 obtain ⟨D, ho, hD⟩ := h
 exact ⟨D, ho.kept hg hne, hD⟩
theorem MapIs.alloc {W : World} {B n : Nat} {m : Int → Int} (h : MapIs W B n m) (o : Obj) : MapIs (W.alloc o) B n m := by
 obtain ⟨D, ho, hD⟩ := h
 exact ⟨D, ho.alloc o, hD⟩
theorem MapIs.drewN {W : World} {B n : Nat} {m : Int → Int} (h : MapIs W B n m) (k : Nat) : MapIs (W.drewN k) B n m := by
 obtain ⟨D, ho, hD⟩ := h
 exact ⟨D, ho, hD⟩
theorem MapIs.below {W W' : World} {B n : Nat} {m : Int → Int} (h : MapIs W B n m) (hb : Below W.heap.size W W') : MapIs W' B n m := h.kept (row := none) (grown_of_below hb none) (by simp)
theorem MapIs.setCell {W : World} {B n : Nat} {m : Int → Int} (h : MapIs W B n m) {a : Addr} (ha : B ≠ a.block) (u : Value) : MapIs (W.setCell a u) B n m := by
 obtain ⟨D, ho, hD⟩ := h
 exact ⟨D, ho.setCell ha u, hD⟩
theorem MapIs.lt {W : World} {B n : Nat} {m : Int → Int} (h : MapIs W B n m) : B < W.heap.size := by
 obtain ⟨D, ho, _⟩ := h
 exact ho.lt
theorem MapIs.made (W : World) : MapIs (W.alloc (.map #[] 0)) W.heap.size 0 (fun _ => 0) :=
 ⟨.map [], World.ownsMap_made W _ _ _, fun x _ => rfl⟩
theorem MapIs.put_of {W' : World} {B n : Nat} {m : Int → Int} {D : DataW Unit} (x v : Int) (hx : (Lit.int .i64 x).wf = true) (hM : IsMap D)
 (hD : ∀ x, (Lit.int .i64 x).wf = true → D.atKey (.int .i64 x) (.lit (.int .i64 0)) = .lit (.int .i64 (m x)))
 (ho : W'.ownsMap Try.prog 3 (plainElem Try.prog 3) B n (D.put (.int .i64 x) (.lit (.int .i64 v)))) : MapIs W' B n (upd m x v) := by
 refine ⟨_, ho, fun y hy => ?_⟩
 unfold upd
 by_cases e : y = x
 ·subst e
  rw [if_pos rfl]
  exact atKey_put_same hM (by simp [WideAt.IsKeyLit]) _ _
 ·rw [if_neg e, atKey_put_other (by intro h; injection h with _ h; exact e h)]
  exact hD y hy
/-- 'm[x] = v', at the operation. -/
theorem wpList_put {ops : Array Oper} {rest : List Oper} {o : Oper} {a : Act} {Q : Exit → Act → World → Prop} (w : World)
 (hg : o.guard = none) (mo xo vo : Operand) (hop : o.op = Op.mapUpdate 70 mo xo vo) (B n : Nat) (m : Int → Int)
 (hm : a.eval mo = .map (some B)) (h : MapIs w B n m) (hn : n < 9223372036854775807) (x v : Int) (hx : a.eval xo = .int .i64 x) (hv : a.eval vo = .int .i64 v)
 (wx : (Lit.int .i64 x).wf = true) (wv : (Lit.int .i64 v).wf = true)
 (hK : ∀ w', MapIs w' B (n + 1) (upd m x v) → w.grownBy w' (some B) → wpList Try.prog ops Q rest (a.put o.dst undef) w') :
 wpList Try.prog ops Q (o :: rest) a w := by
 obtain ⟨D, ho, hD⟩ := h
 refine wpList_mapUpdate_own w hg mo xo vo 70 hop 3 3 keyed Try.underlying70 _ B n D hm ho (by unfold maxLen; exact hn) _ _ _ hx hv (keyOf_int_mk Try.underlying3 wx) _ [] (plainElem_int Try.underlying3 wv) ?_
 intro w' ho' hg'
 exact hK w' (MapIs.put_of x v wx ho.isMap hD ho') hg'
theorem wf_i64_of {x : Int} (h0 : -9223372036854775808 ≤ x) (h1 : x ≤ 9223372036854775807) : (Lit.int .i64 x).wf = true := by
 simp [Lit.wf, IntKind.min, IntKind.max, IntKind.signed, IntKind.bits]
 omega
end Go.Proofs.Ytijpfonbeepmfaa.Print
