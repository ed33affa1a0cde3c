/-
  One of three operations of a drawn region may come up; a whole block of sixteen is stored in one.
-/
import Derived.Test.YtkdmhlbmhjolcaaDoorArr12
namespace Go.Proofs.YtkdmhlbmhjolcaaDoor
open Go.RowKit

section
variable {P : Program} {ops : Array Oper} {Q' : Exit → Act → World → Prop} {md : Region.Mode} {S : World → Prop} {X : Nat → Bool}
/-- One of three may come up, and S is shown behind each. -/
theorem wpAnyX_three {l : List Oper} {i j k : Nat} {oi oj ok : Oper} {fuel : Nat} {listed : Array Bool} {a : Act} {w : World} (hr : Region.ready md l.toArray listed = [i, j, k]) (hxi : X i = false) (hxj : X j = false) (hxk : X k = false) (hi : l[i]? = some oi) (hj : l[j]? = some oj) (hk : l[k]? = some ok)
    (h1 : ∀ K : Act → World → Prop, Shut (∀ a' w', S w' → (S w' → wpAnyX P md l.toArray Q' S X fuel (listed.setIfInBounds i true) a' w') → K a' w') →
      if Region.wanted oi (yielded l.toArray a.tmps) = true then Oper.wp P oi a w K Q' else K (a.put oi.dst undef) w)
    (h2 : ∀ K : Act → World → Prop, Shut (∀ a' w', S w' → (S w' → wpAnyX P md l.toArray Q' S X fuel (listed.setIfInBounds j true) a' w') → K a' w') →
      if Region.wanted oj (yielded l.toArray a.tmps) = true then Oper.wp P oj a w K Q' else K (a.put oj.dst undef) w)
    (h3 : ∀ K : Act → World → Prop, Shut (∀ a' w', S w' → (S w' → wpAnyX P md l.toArray Q' S X fuel (listed.setIfInBounds k true) a' w') → K a' w') →
      if Region.wanted ok (yielded l.toArray a.tmps) = true then Oper.wp P ok a w K Q' else K (a.put ok.dst undef) w) : wpAnyX P md l.toArray Q' S X (fuel + 1) listed a w :=
  ⟨fun h0 => (by rw [hr] at h0; cases h0), fun m hm => by
    rw [hr] at hm
    simp only [List.mem_cons, List.not_mem_nil, or_false] at hm
    rcases hm with rfl | rfl | rfl
    · exact wpOp_step (by simpa using hi) (fun K' hK => h1 K' (fun a' w' hS hW => hK a' w' ⟨fun _ => hS, hW hS⟩))
    · exact wpOp_step (by simpa using hj) (fun K' hK => h2 K' (fun a' w' hS hW => hK a' w' ⟨fun _ => hS, hW hS⟩))
    · exact wpOp_step (by simpa using hk) (fun K' hK => h3 K' (fun a' w' hS hW => hK a' w' ⟨fun _ => hS, hW hS⟩))⟩

end
theorem step_store_arr {w : World} {ops : Array Oper} {o : Oper} {a : Act} {K : Act → World → Prop} {Q' : Exit → Act → World → Prop} {E : Prop} (hgd : o.guard = none) (x y : Operand) (ho : o.op = .store 22 x y) (g : Nat) (hx : a.eval x = .pointer (some ⟨g, 0, none⟩)) (xs ys : List Int) (hy : a.eval y = .agg (arr ys)) (hl : ys.length = 16) (h : Bl w g xs)
    (hK : ∀ w', Bl w' g ys → w.grownBy w' (some g) → w'.heap.size = w.heap.size → K (a.put o.dst undef) w') : if Region.wanted o (yielded ops a.tmps) = true then Oper.wp Tryd.prog o a w K Q' else E := by
  obtain ⟨w', hr, hb, hg, hs⟩ := run_store_arr h hl
  rw [if_pos (by simp [Region.wanted, hgd])]
  unfold Oper.wp execOp
  simp only [ho, hx, hy, hr, Sem.run_bind, Sem.run_pure, Result.andThen_ok]
  exact hK w' hb hg hs
end Go.Proofs.YtkdmhlbmhjolcaaDoor
