/-
  The plain laws of scene cuts: none between a picture and itself or its transposed picture; symmetric; one between black and white.
-/
import Derived.Test.YtoipcfpbkjanhaaScene2
import Derived.Test.YtoipcfpbkjanhaaTransp
namespace Go.Proofs.Ytoipcfpbkjanhaa
open Go.RowKit

theorem allB_of {xs : List Int} (h : ∀ k, k < xs.length → 0 ≤ xs[k]?.getD 0 ∧ xs[k]?.getD 0 ≤ 255) : allB xs = true := by
  unfold allB
  rw [List.all_eq_true]
  intro x hx
  obtain ⟨i, hi, rfl⟩ := List.mem_iff_getElem.1 hx
  have := h i hi
  rw [List.getElem?_eq_getElem hi] at this
  exact decide_eq_true this
theorem tr_len {W H : Int} {xs : List Int} (h : picB W H xs = true) : xs.length = W.toNat * H.toNat := by
  obtain ⟨pW, pH, pl, pa⟩ := picB_parts h
  have e1 : ((W.toNat : Nat) : Int) = W := by omega
  have e2 : ((H.toNat : Nat) : Int) = H := by omega
  rw [← e1, ← e2, ← Int.natCast_mul] at pl
  exact_mod_cast pl
theorem hist_tr {W H : Int} {xs : List Int} (h : picB W H xs = true) : histOf (trL W.toNat H.toNat xs) = histOf xs := hist_trL _ _ xs (tr_len h)
theorem adTo_self (xs : List Int) (k : Nat) : adTo xs xs k = 0 := by
  induction k with
  | zero => rfl
  | succ k ih => rw [adTo, ih, Int.sub_self]; rfl
theorem absD_swap (x y : Int) : absD (x - y) = absD (y - x) := by unfold absD; split <;> split <;> omega
theorem adTo_swap (xs ys : List Int) (k : Nat) : adTo xs ys k = adTo ys xs k := by
  induction k with
  | zero => rfl
  | succ k ih => rw [adTo, adTo, ih, absD_swap]
theorem sameB_swap (W H W' H' : Int) (xs ys : List Int) : sameB W H xs W' H' ys = sameB W' H' ys W H xs := by
  rw [Bool.eq_iff_iff]
  unfold sameB
  simp only [Bool.and_eq_true, decide_eq_true_eq]
  constructor
  · rintro ⟨a, b, c, d⟩; exact ⟨b, a, c.symm, d.symm⟩
  · rintro ⟨a, b, c, d⟩; exact ⟨b, a, c.symm, d.symm⟩
theorem cutB_swap (W H W' H' : Int) (xs ys : List Int) : cutB W' H' ys W H xs = cutB W H xs W' H' ys := by
  unfold cutB
  rw [sameB_swap W' H' W H ys xs, adTo_swap (histOf ys)]
  cases hs : sameB W H xs W' H' ys
  · rfl
  · obtain ⟨pa, pb, rfl, rfl⟩ := same_parts hs
    rw [tr_len pa, tr_len pb]
theorem cutB_self (W H : Int) (xs : List Int) : cutB W H xs W H xs = false := by
  unfold cutB
  rw [adTo_self, decide_eq_false (by omega), Bool.and_false]
theorem cutB_tr (W H : Int) (xs : List Int) : cutB W H xs (trP W H xs).1 (trP W H xs).2.1 (trP W H xs).2.2 = false := by
  cases hp : picB W H xs
  · unfold cutB sameB
    rw [hp]; rfl
  · rw [trP, if_pos hp]
    show cutB W H xs H W (trL W.toNat H.toNat xs) = false
    unfold cutB
    rw [hist_tr hp, adTo_self, decide_eq_false (by omega), Bool.and_false]
theorem cutB_ends : cutB 8 8 (List.replicate 64 0) 8 8 (List.replicate 64 255) = true := by decide +kernel
theorem tr_small (W H : Int) (A : Option Addr) (xs : List Int) (h : xs.length ≤ 1024) : (trP W H xs).2.2.length ≤ 1024 := by
  cases hp : picB W H xs
  · rw [trP, if_neg (by rw [hp]; exact Bool.false_ne_true)]; simp
  · rw [trP, if_pos hp]
    show (trL W.toNat H.toNat xs).length ≤ 1024
    rw [length_trL, ← tr_len hp]; exact h
end Go.Proofs.Ytoipcfpbkjanhaa
