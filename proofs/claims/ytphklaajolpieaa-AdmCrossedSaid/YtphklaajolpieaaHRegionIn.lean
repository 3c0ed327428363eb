/- A region that draws its order, inside the wide fence, walked by hand: one lemma a kind of step. -/
import Derived.OrdersIn
import Derived.RangeFuncNested
import Derived.Test.YtphklaajolpieaaProg
namespace Go.Proofs.Ytphklaajolpieaa.Print
section
variable {n : Nat} {P : Program} {ops : Array Oper} {Q : Exit → Act → World → Prop} {md : Region.Mode}
/-- An operation that yields v in whatever world is taken first. -/
theorem takeI {i : Nat} {oi : Oper} {v : Value} {fuel : Nat} {listed : Array Bool} {a a' : Act} {w : World} (N : Option Tmp) (l' : Array Bool) (hi : ops[i]? = some oi) (hN : oi.dst = N)
 (hs : Region.noSelect ops = true) (hf : Region.free md ops listed i = true) (hr : (Region.ready md ops listed).contains i = true) (hl : listed.setIfInBounds i true = l')
 (hQ : ∀ c a w, Q (.panic c) (a.put N v) w → Q (.panic c) a w) (hy : YieldsFenced P ops oi v a) (ha : a.put N v = a')
 (h : wpAnyIn Fence.wide n P md ops Q fuel l' a' w) : wpAnyIn Fence.wide n P md ops Q (fuel + 1) listed a w := by
 subst hN ha hl
 exact wpAnyIn_take rfl hi hs hf hr hQ hy h
/-- Each that may come next. -/
theorem nextI {fuel : Nat} {listed : Array Bool} {a : Act} {w : World} (rs : List Nat) (hr : Region.ready md ops listed = rs) (hne : rs ≠ [])
 (h : ∀ i ∈ rs, wpOpIn Fence.wide n P ops Q i (wpAnyIn Fence.wide n P md ops Q fuel (listed.setIfInBounds i true)) a w) : wpAnyIn Fence.wide n P md ops Q (fuel + 1) listed a w := wpAnyIn_all hr hne h
/-- It yields a value in this world. -/
theorem valI {i : Nat} {o : Oper} {v : Value} {fuel : Nat} {listed : Array Bool} {a a' : Act} {w : World} (N : Option Tmp) (l' : Array Bool) (hi : ops[i]? = some o) (hN : o.dst = N) (hw : Region.wanted o (yielded ops a.tmps) = true) (hl : listed.setIfInBounds i true = l')
 (hrun : (execOp a.eval o).run P w = .ok (.value v) w) (ha : a.put N v = a') (h : wpAnyIn Fence.wide n P md ops Q fuel l' a' w) :
 wpOpIn Fence.wide n P ops Q i (wpAnyIn Fence.wide n P md ops Q fuel (listed.setIfInBounds i true)) a w := by
 subst hN ha hl
 unfold wpOpIn
 simp only [hi, hw, if_true]
 refine ⟨fun _ _ => trivial, ?_⟩
 rw [show Fence.wide.round = none from rfl, Oper.semAt_none, hrun]
 exact h
/-- It is passed over. -/
theorem skipI {i : Nat} {o : Oper} {fuel : Nat} {listed : Array Bool} {a a' : Act} {w : World} (N : Option Tmp) (l' : Array Bool) (hi : ops[i]? = some o) (hN : o.dst = N) (hw : Region.wanted o (yielded ops a.tmps) = false) (hl : listed.setIfInBounds i true = l')
 (ha : a.put N undef = a') (h : wpAnyIn Fence.wide n P md ops Q fuel l' a' w) :
 wpOpIn Fence.wide n P ops Q i (wpAnyIn Fence.wide n P md ops Q fuel (listed.setIfInBounds i true)) a w := by
 subst hN ha hl
 unfold wpOpIn
 simp only [hi, hw, if_false, Bool.false_eq_true]
 exact ⟨fun _ _ => trivial, h⟩
/-- It calls a function that returns. -/
theorem callI {i : Nat} {o : Oper} {f : FuncId} {args : Array Value} {fuel : Nat} {listed : Array Bool} {a : Act} {w : World} {R : Value → World → Prop} (N : Option Tmp) (l' : Array Bool) (hi : ops[i]? = some o) (hN : o.dst = N) (hw : Region.wanted o (yielded ops a.tmps) = true) (hl : listed.setIfInBounds i true = l')
 (hrun : (execOp a.eval o).run P w = .ok (.enter f args) w) (hc : Calls P f args w fun e w' => ∃ v, e = .returned v ∧ R v w')
 (h : ∀ v w', R v w' → wpAnyIn Fence.wide n P md ops Q fuel l' (a.put N v) w') :
 wpOpIn Fence.wide n P ops Q i (wpAnyIn Fence.wide n P md ops Q fuel (listed.setIfInBounds i true)) a w := by
 subst hN hl
 unfold wpOpIn
 simp only [hi, hw, if_true]
 refine ⟨fun _ _ => trivial, ?_⟩
 rw [show Fence.wide.round = none from rfl, Oper.semAt_none, hrun]
 refine ⟨(fun hd => by cases hd), (callsIn_wide.2 hc).mono ?_⟩
 rintro e w' ⟨v, rfl, hr⟩
 exact h v w' hr
/-- It calls yield, and the round comes to its end. -/
theorem yieldI {i : Nat} {o : Oper} {l : Nat} {f : FuncId} {tmps : Array Value} {assign body : Code} {fuel m : Nat} {listed : Array Bool} {a : Act} {w : World} {R : Value → World → Prop} (N : Option Tmp) (l' : Array Bool) (hi : ops[i]? = some o) (hN : o.dst = N) (hw : Region.wanted o (yielded ops a.tmps) = true) (hl : listed.setIfInBounds i true = l')
 (hrun : (execOp a.eval o).run P w = .ok (.round l f tmps assign body) w) (hc : RoundIn Fence.wide m P l f tmps assign body w fun e w' => ∃ v, e = .returned v ∧ R v w')
 (h : ∀ v w', R v w' → wpAnyIn Fence.wide n P md ops Q fuel l' (a.put N v) w') :
 wpOpIn Fence.wide n P ops Q i (wpAnyIn Fence.wide n P md ops Q fuel (listed.setIfInBounds i true)) a w := by
 subst hN hl
 unfold wpOpIn
 simp only [hi, hw, if_true]
 refine ⟨fun _ _ => trivial, ?_⟩
 rw [show Fence.wide.round = none from rfl, Oper.semAt_none, hrun]
 refine ⟨(fun hd => by cases hd), RoundIn.mono (R := fun e w' => ∃ v, e = .returned v ∧ R v w') ⟨hc.1, fun c cs _ => hc.2 c cs (room_wide _)⟩ ?_⟩
 rintro e w' ⟨v, rfl, hr⟩
 exact h v w' hr
end
end Go.Proofs.Ytphklaajolpieaa.Print
