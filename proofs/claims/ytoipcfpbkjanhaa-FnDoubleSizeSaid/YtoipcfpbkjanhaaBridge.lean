/-
  A statement in the round of a range over a function, by the laws of a goroutine's plain walk.
-/
import Derived.Test.YtoipcfpbkjanhaaTakes
import Derived.RangeFuncNested
import Derived.RangeFuncBound
import Derived.RangeFuncCalls
import Derived.RangeFuncLeaves
import Derived.OwnWalkIn
import Derived.TacticsInMore
namespace Go.Proofs.Ytoipcfpbkjanhaa
open Go.RowKit

section
variable {P : Program} {ops : Array Oper} {Q' : Exit → Act → World → Prop} {r n : Nat}
def noDeferB (ops : Array Oper) : Bool := ops.toList.all fun o => match o.op with | .defer _ => false | _ => true
theorem noDefer_spec (h : noDeferB ops = true) (i : Nat) (o : Oper) (ho : ops[i]? = some o) : ∀ c, o.op ≠ .defer c := fun c e => by
  have hm : o ∈ ops.toList := by
    obtain ⟨hi, rfl⟩ := Array.getElem?_eq_some_iff.1 ho
    exact Array.mem_toList_iff.2 (Array.getElem_mem hi)
  have := List.all_eq_true.1 h o hm
  rw [e] at this
  cases this
theorem rowsIn_of {row : String} {args : Array Value} {w : World} {R : Value → World → Prop} (h : Rows P row args w R) : RowsIn (Fence.wide.inRound r) n P row args w R :=
  fun c cs _ => let ⟨v, w', hr, hs⟩ := h c cs; ⟨v, w', hr, stepsIn_wide.2 hs⟩
theorem operIn_of {o : Oper} {a : Act} {w : World} {K K' : Act → World → Prop} (hd : ∀ c, o.op ≠ .defer c) (hQ : ¬ LetsOut Q') (hK : ∀ a w, K a w → K' a w) (h : o.wp P a w K Q') : o.wpIn (Fence.wide.inRound r) n P a w K' Q' := by
  unfold Oper.wp at h
  unfold Oper.wpIn
  refine ⟨fun _ _ => trivial, ?_⟩
  rw [show (Fence.wide.inRound r).round = some r from rfl, Oper.semAt_some r _ o hd]
  generalize (execOp a.eval o).run P w = q at h
  cases q with
  | ok x w' =>
    cases x <;> simp only [Oper.upon] at h <;> simp only [Oper.uponIn]
    case value u => exact hK _ _ h
    case skip => exact hK _ _ h
    case defer d => exact hK _ _ h
    case enter f args =>
      refine ⟨fun hh => by simp [Fence.wide] at hh, CallsIn.inRound r (callsIn_wide.2 (Calls.mono h fun e w'' he => ?_))⟩
      cases e with
      | returned u => exact hK _ _ he
      | panicked c => exact he
      | outgrown => exact absurd he hQ
    case row row args => exact ⟨fun hh => by simp [Fence.wide] at hh, rowsIn_of (Rows.mono h fun _ _ he => hK _ _ he)⟩
  | halt x w' => cases x <;> simp only [Oper.upon] at h <;> simp only [Oper.uponIn] <;> exact h
theorem opsIn_of (hd : noDeferB ops = true) (hQ : ¬ LetsOut Q') : ∀ (l : List Nat) (a : Act) (w : World), wpOps P ops Q' l a w → wpOpsIn (Fence.wide.inRound r) n P ops Q' l a w
  | [], _, _, h => h
  | i :: rest, a, w, h => by
    simp only [wpOps] at h
    simp only [wpOpsIn]
    split at h
    · rename_i ho
      simp only [ho]
      exact opsIn_of hd hQ rest a w h
    · rename_i o ho
      split at h
      · rename_i hw
        simp only [ho, hw, if_true]
        rcases h with h | h
        · exact operIn_of (noDefer_spec hd i o ho) hQ (fun a w => opsIn_of hd hQ rest a w) h
        · exact absurd h.2 hQ
      · rename_i hw
        simp only [ho, hw]
        exact ⟨fun _ _ => trivial, opsIn_of hd hQ rest _ w h⟩
theorem wpIn_region_of {id : Nat} {a : Act} {w : World} (hd : noDeferB ops = true) (hQ : ¬ LetsOut Q') (hm : P.follows .mixedOrders = true) (h : wpAny P .any ops Q' ops.size (Array.replicate ops.size false) a w.drew) : (Code.region id ops true).wpIn (Fence.wide.inRound r) n P Q' a w :=
  wpIn_region_draw fun t => opsIn_of hd hQ _ a _ (by
    simp only [Region.schedule, hm, Bool.true_or, if_true]
    exact wpAny_sound ops.size t _ a _ h)
theorem wpIn_region_x {l : List Oper} {id : Nat} {a : Act} {w : World} (S : World → Prop) (X : Nat → Bool) (hd : noDeferB l.toArray = true) (hQ : ¬ LetsOut Q') (hm : P.follows .mixedOrders = true) (hS : S w.drew)
    (h : S w.drew → wpAnyX P .any l.toArray Q' S X l.toArray.size (Array.replicate l.toArray.size false) a w.drew) : (Code.region id l.toArray true).wpIn (Fence.wide.inRound r) n P Q' a w :=
  wpIn_region_of hd hQ hm (wpAny_of_x _ _ _ _ (h hS))
end
end Go.Proofs.Ytoipcfpbkjanhaa
