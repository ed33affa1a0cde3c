/-
  A statement that leaves its order open and ends in operations that undo what its loads read: the loads may be taken first, if those last operations wait for them.
-/
import Derived.Deep.RegionHeld3
import Derived.StillTail
import Derived.Test.YtkdmhlbmhjolcaaDoorLib
namespace Go.Proofs.YtkdmhlbmhjolcaaDoor
open Go.RowKit

section
variable {P : Program} {ops : Array Oper} {Q' : Exit → Act → World → Prop} {md : Region.Mode} {S : World → Prop} {X : Nat → Bool}

/-- Whatever order is picked from here on; S holds behind every operation but those of X. -/
def wpAnyX (P : Program) (md : Region.Mode) (ops : Array Oper) (Q' : Exit → Act → World → Prop) (S : World → Prop) (X : Nat → Bool) : Nat → Array Bool → Act → World → Prop
  | 0, listed, a, w => Region.ready md ops listed = [] ∧ Q' .normal a w
  | fuel + 1, listed, a, w =>
    (Region.ready md ops listed = [] → Q' .normal a w) ∧
    ∀ i ∈ Region.ready md ops listed, wpOp P ops Q' i (fun a' w' => (X i = false → S w') ∧ wpAnyX P md ops Q' S X fuel (listed.setIfInBounds i true) a' w') a w

theorem wpAny_of_x : ∀ (fuel : Nat) (listed : Array Bool) (a : Act) (w : World), wpAnyX P md ops Q' S X fuel listed a w → wpAny P md ops Q' fuel listed a w
  | 0, _, _, _, h => h
  | fuel + 1, _, _, _, h => ⟨h.1, fun i hi => wpOp_mono (fun a' w' h' => wpAny_of_x fuel _ a' w' h'.2) (h.2 i hi)⟩

theorem wpAnyX_first {i : Nat} {oi : Oper} {v : Value} (hi : ops[i]? = some oi) (hsel : ∀ (j : Nat) (o : Oper) cs b, ops[j]? = some o → o.op ≠ .select cs b)
    (hX : ∀ j, j < ops.size → X j = true → Region.waitsFor md ops j i = true)
    (hQ : ∀ c a w, Q' (.panic c) (a.put oi.dst v) w → Q' (.panic c) a w) :
    ∀ (fuel : Nat) (listed : Array Bool) (a : Act) (w : World),
      (∀ j oj, ops[j]? = some oj → j ≠ i → listed.getD j true = false → (∀ e ∈ oj.after, Region.binds md e = true → e.on ≠ i) → oi.apart ops oj = true) →
      i ∈ Region.ready md ops listed → YieldsIf P ops S oi v a → S w →
      wpAnyX P md ops Q' S X fuel (listed.setIfInBounds i true) (a.put oi.dst v) w → wpAnyX P md ops Q' S X (fuel + 1) listed a w := by
  intro fuel
  induction fuel with
  | zero =>
    intro listed a w _ hr hy hS H
    refine ⟨fun h => (by rw [h] at hr; cases hr), fun j hj => ?_⟩
    by_cases hji : j = i
    · subst hji; exact hy.wpOp hi hS ⟨fun _ => hS, H⟩
    · have h1 := ready_mono hj hji
      rw [H.1] at h1
      cases h1
  | succ fuel ih =>
    intro listed a w hfree hr hy hS H
    refine ⟨fun h => (by rw [h] at hr; cases hr), fun j hj => ?_⟩
    by_cases hji : j = i
    · subst hji; exact hy.wpOp hi hS ⟨fun _ => hS, H⟩
    · have h1 := H.2 j (ready_mono hj hji)
      obtain ⟨hju, oj, hoj, hall⟩ := mem_ready.1 hj
      have hno : ∀ e ∈ oj.after, Region.binds md e = true → e.on ≠ i := fun e he hb heq => by
        have h2 := hall e he hb
        have h0 := (mem_ready.1 hr).1
        rw [heq] at h2
        rcases Nat.lt_or_ge i listed.size with h' | h'
        · simp [h'] at h0 h2; rw [h0] at h2; cases h2
        · simp [Array.getElem?_eq_none h'] at h2
      have hxj : X j = false := by
        cases hc : X j with
        | false => rfl
        | true =>
          obtain ⟨o', ho', e, he, hb, hon⟩ := Region.waitsFor_spec (hX j (Array.getElem?_eq_some_iff.1 hoj).1 hc)
          obtain rfl : o' = oj := Option.some.inj (ho'.symm.trans hoj)
          exact absurd hon (hno e he hb)
      have h2 := wpOp_putIf hoj (hfree j oj hoj hji hju hno) (fun cs b => hsel i oi cs b hi) (fun cs b => hsel j oj cs b hoj) hQ hy h1
      refine wpOp_mono (fun a' w' h3 => ⟨fun _ => h3.2.1 hxj, ih (listed.setIfInBounds j true) a' w' (fun k ok hk hki hun hn => hfree k ok hk hki ?_ hn) (ready_mono hr (Ne.symm hji)) h3.1 (h3.2.1 hxj) ?_⟩) h2
      · by_cases hjk : j = k
        · subst hjk; exact hju
        · rw [getD_set_ne true hjk] at hun; exact hun
      · rw [Array.setIfInBounds_comm _ _ hji]; exact h3.2.2

def waitB (md : Region.Mode) (ops : Array Oper) (X : Nat → Bool) (i : Nat) : Bool := (List.range ops.size).all fun j => !X j || Region.waitsFor md ops j i

/-- Number i is taken first. -/
theorem wpAnyX_take {l : List Oper} {i : Nat} {oi : Oper} {v : Value} {fuel : Nat} {listed : Array Bool} {a : Act} {w : World} (hi : l[i]? = some oi)
    (hs : Region.noSelect l.toArray = true) (hf : Region.free md l.toArray listed i = true) (hr : (Region.ready md l.toArray listed).contains i = true) (hx : waitB md l.toArray X i = true)
    (hQ : ∀ c a w, Q' (.panic c) (a.put oi.dst v) w → Q' (.panic c) a w) (hy : YieldsIf P l.toArray S oi v a) (hS : S w)
    (h : wpAnyX P md l.toArray Q' S X fuel (listed.setIfInBounds i true) (a.put oi.dst v) w) : wpAnyX P md l.toArray Q' S X (fuel + 1) listed a w :=
  have hi' : l.toArray[i]? = some oi := by simpa using hi
  wpAnyX_first hi' (Region.noSelect_spec hs) (fun j hj hXj => by
    have h1 := List.all_eq_true.1 hx j (List.mem_range.2 hj)
    simpa [hXj] using h1) hQ fuel listed a w (Region.free_spec hi' hf) (by simpa using hr) hy hS h

/-- Only number k may come up. -/
theorem wpAnyX_one {l : List Oper} {k : Nat} {o : Oper} {fuel : Nat} {listed : Array Bool} {a : Act} {w : World} (hr : Region.ready md l.toArray listed = [k]) (hk : l[k]? = some o)
    (h : ∀ K : Act → World → Prop, Shut (∀ a' w', (X k = false → S w') → ((X k = false → S w') → wpAnyX P md l.toArray Q' S X fuel (listed.setIfInBounds k true) a' w') → K a' w') →
      if Region.wanted o (yielded l.toArray a.tmps) = true then Oper.wp P o a w K Q' else K (a.put o.dst undef) w) : wpAnyX P md l.toArray Q' S X (fuel + 1) listed a w :=
  ⟨fun h0 => (by rw [hr] at h0; cases h0), fun i hi => by
    rw [hr] at hi
    obtain rfl : i = k := by simpa using hi
    exact wpOp_step (by simpa using hk) (fun K' hK => h K' (fun a' w' hS hW => hK a' w' ⟨hS, hW hS⟩))⟩

/-- Only number k may come up, and S is shown behind it. -/
theorem wpAnyX_step {l : List Oper} {k : Nat} {o : Oper} {fuel : Nat} {listed : Array Bool} {a : Act} {w : World} (hr : Region.ready md l.toArray listed = [k]) (hx : X k = false) (hk : l[k]? = some o)
    (h : ∀ K : Act → World → Prop, Shut (∀ a' w', S w' → (S w' → wpAnyX P md l.toArray Q' S X fuel (listed.setIfInBounds k true) a' w') → K a' w') →
      if Region.wanted o (yielded l.toArray a.tmps) = true then Oper.wp P o a w K Q' else K (a.put o.dst undef) w) : wpAnyX P md l.toArray Q' S X (fuel + 1) listed a w :=
  wpAnyX_one hr hk (fun K hK => h K (fun a' w' hS hW => hK.out a' w' (fun _ => hS) (fun _ => hW hS)))

/-- One of two may come up, and S is shown behind either. -/
theorem wpAnyX_two {l : List Oper} {i j : Nat} {oi oj : Oper} {fuel : Nat} {listed : Array Bool} {a : Act} {w : World} (hr : Region.ready md l.toArray listed = [i, j]) (hxi : X i = false) (hxj : X j = false) (hi : l[i]? = some oi) (hj : l[j]? = some oj)
    (h1 : ∀ K : Act → World → Prop, Shut (∀ a' w', S w' → (S w' → wpAnyX P md l.toArray Q' S X fuel (listed.setIfInBounds i true) a' w') → K a' w') →
      if Region.wanted oi (yielded l.toArray a.tmps) = true then Oper.wp P oi a w K Q' else K (a.put oi.dst undef) w)
    (h2 : ∀ K : Act → World → Prop, Shut (∀ a' w', S w' → (S w' → wpAnyX P md l.toArray Q' S X fuel (listed.setIfInBounds j true) a' w') → K a' w') →
      if Region.wanted oj (yielded l.toArray a.tmps) = true then Oper.wp P oj a w K Q' else K (a.put oj.dst undef) w) : wpAnyX P md l.toArray Q' S X (fuel + 1) listed a w :=
  ⟨fun h0 => (by rw [hr] at h0; cases h0), fun k hk => by
    rw [hr] at hk
    simp only [List.mem_cons, List.not_mem_nil, or_false] at hk
    rcases hk with rfl | rfl
    · exact wpOp_step (by simpa using hi) (fun K' hK => h1 K' (fun a' w' hS hW => hK a' w' ⟨fun _ => hS, hW hS⟩))
    · exact wpOp_step (by simpa using hj) (fun K' hK => h2 K' (fun a' w' hS hW => hK a' w' ⟨fun _ => hS, hW hS⟩))⟩

theorem wpAnyX_done {listed : Array Bool} {a : Act} {w : World} (hr : Region.ready md ops listed = []) (h : Q' .normal a w) : ∀ fuel, wpAnyX P md ops Q' S X fuel listed a w
  | 0 => ⟨hr, h⟩
  | _ + 1 => ⟨fun _ => h, by rw [hr]; simp⟩

/-- A forced row of operations of X. -/
def rowX (md : Region.Mode) (ops : Array Oper) (X : Nat → Bool) : List Nat → Array Bool → Bool
  | [], l => (Region.ready md ops l).isEmpty
  | k :: ks, l => decide (Region.ready md ops l = [k]) && X k && rowX md ops X ks (l.setIfInBounds k true)
theorem wpAnyX_row : ∀ (ks : List Nat) (n : Nat) (l : Array Bool) (a : Act) (w : World), rowX md ops X ks l = true → ks.length ≤ n →
    wpList P ops Q' (ks.filterMap (ops[·]?)) a w → wpAnyX P md ops Q' S X n l a w
  | [], 0, l, a, w, hB, _, h => ⟨by simpa [rowX] using hB, h⟩
  | [], n + 1, l, a, w, hB, _, h => wpAnyX_done (by simpa [rowX] using hB) h _
  | k :: ks, n + 1, l, a, w, hB, hl, h => by
    simp only [rowX, Bool.and_eq_true, decide_eq_true_eq] at hB
    obtain ⟨⟨hr, hx⟩, hB⟩ := hB
    have hk : k ∈ Region.ready md ops l := by rw [hr]; simp
    obtain ⟨_, o, ho, _⟩ := mem_ready.1 hk
    rw [List.filterMap_cons, ho] at h
    refine ⟨fun h1 => (by rw [hr] at h1; cases h1), fun i hi => ?_⟩
    rw [hr] at hi
    obtain rfl : i = k := by simpa using hi
    have hw : wpOp P ops Q' i (wpList P ops Q' (ks.filterMap (ops[·]?))) a w := by unfold wpOp; simp only [ho]; exact h
    exact wpOp_mono (fun a' w' h' => ⟨fun h0 => (by rw [hx] at h0; cases h0), wpAnyX_row ks n _ a' w' hB (by simp at hl; omega) h'⟩) hw
theorem wpAnyX_tail {l : List Oper} (ks : List Nat) (m : Nat) {n : Nat} {t : Array Bool} {a : Act} {w : World} (hB : rowX md l.toArray X ks t = true) (hl : ks.length ≤ n) (hr : ks.filterMap (l[·]?) = l.drop m)
    (h : wpList P l.toArray Q' (l.drop m) a w) : wpAnyX P md l.toArray Q' S X n t a w :=
  wpAnyX_row ks n t a w hB hl (by
    rw [← hr] at h
    simpa using h)

theorem wp_region_x {l : List Oper} {id : Nat} {a : Act} {w : World} (S : World → Prop) (X : Nat → Bool) (hm : P.follows .mixedOrders = true) (hS : S w.drew)
    (h : S w.drew → wpAnyX P .any l.toArray Q' S X l.toArray.size (Array.replicate l.toArray.size false) a w.drew) : (Code.region id l.toArray true).wp P Q' a w :=
  wp_region_any hm (wpAny_of_x _ _ _ _ (h hS))
end
end Go.Proofs.YtkdmhlbmhjolcaaDoor
