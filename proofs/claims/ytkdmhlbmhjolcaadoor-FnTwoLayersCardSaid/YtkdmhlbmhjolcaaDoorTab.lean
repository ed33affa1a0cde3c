/-
  Lists that are tables of a function of the index. Plain Lean.
-/
import Derived.Test.YtkdmhlbmhjolcaaDoorLib
namespace Go.Proofs.YtkdmhlbmhjolcaaDoor

def tab (f : Nat → Int) (n : Nat) : List Int := (List.range n).map f
theorem tab_zero (f : Nat → Int) : tab f 0 = [] := rfl
theorem tab_succ (f : Nat → Int) (n : Nat) : tab f (n + 1) = tab f n ++ [f n] := by simp [tab, List.range_succ]
theorem length_tab (f : Nat → Int) (n : Nat) : (tab f n).length = n := by simp [tab]
theorem tab_get (f : Nat → Int) (n i : Nat) (h : i < n) : (tab f n)[i]?.getD 0 = f i := by simp [tab, h]
theorem tab_congr (f g : Nat → Int) (n : Nat) (h : ∀ i, i < n → f i = g i) : tab f n = tab g n := by
  unfold tab
  apply List.map_congr_left
  intro i hi
  exact h i (by simpa using hi)
theorem tab_self (xs : List Int) : tab (fun i => xs[i]?.getD 0) xs.length = xs := by
  apply List.ext_getElem
  · simp [tab]
  · intro i h1 h2
    simp [tab, h2]
theorem row_div (y W x : Nat) (h : x < W) : (y * W + x) / W = y := by
  rw [Nat.add_comm, Nat.add_mul_div_right _ _ (by omega), Nat.div_eq_of_lt h, Nat.zero_add]
theorem row_mod (y W x : Nat) (h : x < W) : (y * W + x) % W = x := by
  rw [Nat.add_comm, Nat.add_mul_mod_self_right, Nat.mod_eq_of_lt h]
theorem row_lt (y W h x : Nat) (hy : y < h) (hx : x < W) : y * W + x < h * W := by
  have : (y + 1) * W ≤ h * W := Nat.mul_le_mul_right _ hy
  rw [Nat.succ_mul] at this
  omega
theorem row_le (y W h : Nat) (hy : y < h) : y * W + W ≤ h * W := by
  have : (y + 1) * W ≤ h * W := Nat.mul_le_mul_right _ hy
  rw [Nat.succ_mul] at this
  omega
end Go.Proofs.YtkdmhlbmhjolcaaDoor
