/-
  Blocks of sixteen numbers: the transform of the reference.
-/
import Derived.Test.YtkdmhlbmhjolcaaDoorArr4
namespace Go.Proofs.YtkdmhlbmhjolcaaDoor
open Go.RowKit

def sumN (f : Nat → Int) : Nat → Int
  | 0 => 0
  | k + 1 => sumN f k + f k
theorem sumN_bnd (f : Nat → Int) (B : Int) (h : ∀ j, j < 16 → -B ≤ f j ∧ f j ≤ B) (hB : 0 ≤ B) (k : Nat) (hk : k ≤ 16) : -(16 * B) ≤ sumN f k ∧ sumN f k ≤ 16 * B := by
  have : ∀ k : Nat, k ≤ 16 → -((k : Int) * B) ≤ sumN f k ∧ sumN f k ≤ (k : Int) * B := by
    intro k hk
    induction k with
    | zero => simp [sumN]
    | succ k ih =>
      have := h k (by omega)
      have := ih (by omega)
      rw [sumN, Int.natCast_succ, Int.add_mul, Int.one_mul]
      omega
  have h1 := this k hk
  have h2 : (k : Int) * B ≤ 16 * B := Int.mul_le_mul_of_nonneg_right (by omega) hB
  omega
def sg (n : Nat) : Int := ([1, 1, 1, 1, 1, 1, -1, -1, 1, -1, -1, 1, 1, -1, 1, -1] : List Int)[n]?.getD 0
theorem sg_one (n : Nat) (h : n < 16) : sg n = 1 ∨ sg n = -1 := by
  have : ∀ n, n < 16 → sg n = 1 ∨ sg n = -1 := by decide
  exact this n h
def hadJ (xs : List Int) (k j : Nat) : Int := sg (4 * (k / 4) + j / 4) * sg (4 * (k % 4) + j % 4) * xs[j]?.getD 0
def hadF (xs : List Int) (k : Nat) : Int := sumN (hadJ xs k) 16
def hadL (xs : List Int) : List Int := tab (hadF xs) 16
theorem hadL_len (xs : List Int) : (hadL xs).length = 16 := length_tab _ _
theorem sgn_mul {a b x B : Int} (ha : a = 1 ∨ a = -1) (hb : b = 1 ∨ b = -1) (h : -B ≤ x ∧ x ≤ B) : -B ≤ a * b * x ∧ a * b * x ≤ B := by
  rcases ha with rfl | rfl <;> rcases hb with rfl | rfl <;> simp <;> omega
theorem hadJ_bnd {xs : List Int} {B : Int} (h : bnd xs B) (k j : Nat) (hk : k < 16) (hj : j < 16) : -B ≤ hadJ xs k j ∧ hadJ xs k j ≤ B :=
  sgn_mul (sg_one _ (by omega)) (sg_one _ (by omega)) (h j)
theorem hadL_bnd {xs : List Int} {B : Int} (h : bnd xs B) (hB : 0 ≤ B) : bnd (hadL xs) (16 * B) := fun k => by
  rcases Nat.lt_or_ge k 16 with hk | hk
  · unfold hadL
    rw [tab_get _ _ _ hk]
    exact sumN_bnd _ B (fun j hj => hadJ_bnd h k j hk hj) hB 16 (Nat.le_refl _)
  · rw [List.getElem?_eq_none (by rw [hadL_len]; exact hk)]
    simp; omega
theorem list16 (xs : List Int) (h : xs.length = 16) : ∃ x0 x1 x2 x3 x4 x5 x6 x7 x8 x9 x10 x11 x12 x13 x14 x15, xs = [x0, x1, x2, x3, x4, x5, x6, x7, x8, x9, x10, x11, x12, x13, x14, x15] := by
  match xs, h with
  | [x0, x1, x2, x3, x4, x5, x6, x7, x8, x9, x10, x11, x12, x13, x14, x15], _ => exact ⟨x0, x1, x2, x3, x4, x5, x6, x7, x8, x9, x10, x11, x12, x13, x14, x15, rfl⟩
set_option maxHeartbeats 4000000 in
set_option maxRecDepth 100000 in
theorem hadW_eq (xs : List Int) (h : xs.length = 16) : hadW xs = hadL xs := by
  obtain ⟨x0, x1, x2, x3, x4, x5, x6, x7, x8, x9, x10, x11, x12, x13, x14, x15, rfl⟩ := list16 xs h
  have hr : rows [x0, x1, x2, x3, x4, x5, x6, x7, x8, x9, x10, x11, x12, x13, x14, x15] 4 = [x0 + x1 + x2 + x3, x0 + x1 - x2 - x3, x0 - x1 - x2 + x3, x0 - x1 + x2 - x3, x4 + x5 + x6 + x7, x4 + x5 - x6 - x7, x4 - x5 - x6 + x7, x4 - x5 + x6 - x7, x8 + x9 + x10 + x11, x8 + x9 - x10 - x11, x8 - x9 - x10 + x11, x8 - x9 + x10 - x11, x12 + x13 + x14 + x15, x12 + x13 - x14 - x15, x12 - x13 - x14 + x15, x12 - x13 + x14 - x15] := rfl
  have hc : ∀ y0 y1 y2 y3 y4 y5 y6 y7 y8 y9 y10 y11 y12 y13 y14 y15 : Int, cols [y0, y1, y2, y3, y4, y5, y6, y7, y8, y9, y10, y11, y12, y13, y14, y15] 4 = [y0 + y4 + y8 + y12, y1 + y5 + y9 + y13, y2 + y6 + y10 + y14, y3 + y7 + y11 + y15, y0 + y4 - y8 - y12, y1 + y5 - y9 - y13, y2 + y6 - y10 - y14, y3 + y7 - y11 - y15, y0 - y4 - y8 + y12, y1 - y5 - y9 + y13, y2 - y6 - y10 + y14, y3 - y7 - y11 + y15, y0 - y4 + y8 - y12, y1 - y5 + y9 - y13, y2 - y6 + y10 - y14, y3 - y7 + y11 - y15] := fun _ _ _ _ _ _ _ _ _ _ _ _ _ _ _ _ => rfl
  rw [hadW, hr, hc]
  have hl : ∀ f : Nat → Int, tab f 16 = [f 0, f 1, f 2, f 3, f 4, f 5, f 6, f 7, f 8, f 9, f 10, f 11, f 12, f 13, f 14, f 15] := fun _ => rfl
  rw [hadL, hl]
  have hs : ∀ f : Nat → Int, sumN f 16 = 0 + f 0 + f 1 + f 2 + f 3 + f 4 + f 5 + f 6 + f 7 + f 8 + f 9 + f 10 + f 11 + f 12 + f 13 + f 14 + f 15 := fun _ => rfl
  have s0 : sg 0 = 1 := rfl
  have s1 : sg 1 = 1 := rfl
  have s2 : sg 2 = 1 := rfl
  have s3 : sg 3 = 1 := rfl
  have s4 : sg 4 = 1 := rfl
  have s5 : sg 5 = 1 := rfl
  have s6 : sg 6 = -1 := rfl
  have s7 : sg 7 = -1 := rfl
  have s8 : sg 8 = 1 := rfl
  have s9 : sg 9 = -1 := rfl
  have s10 : sg 10 = -1 := rfl
  have s11 : sg 11 = 1 := rfl
  have s12 : sg 12 = 1 := rfl
  have s13 : sg 13 = -1 := rfl
  have s14 : sg 14 = 1 := rfl
  have s15 : sg 15 = -1 := rfl
  simp only [hadF, hs, hadJ, List.cons.injEq, and_true, List.getElem?_cons_zero, List.getElem?_cons_succ, Option.getD_some, Nat.reduceDiv, Nat.reduceMod, Nat.reduceMul, Nat.reduceAdd, s0, s1, s2, s3, s4, s5, s6, s7, s8, s9, s10, s11, s12, s13, s14, s15, Int.reduceMul, Int.reduceNeg, Int.one_mul]
  refine ⟨?_, ?_, ?_, ?_, ?_, ?_, ?_, ?_, ?_, ?_, ?_, ?_, ?_, ?_, ?_, ?_⟩
  all_goals omega

set_option maxRecDepth 100000 in
theorem l3Sign (I J : Int) (n : Nat) (w : World) (h : 4 * I + J = (n : Int)) (hn : n < 16) (hI : 0 ≤ I ∧ I ≤ 3) (hJ : 0 ≤ J ∧ J ≤ 3) :
    Calls Tryd.prog 50 #[.int .i64 I, .int .i64 J] w fun e w' => e = .returned (.int .i64 (sg n)) ∧ w = w' := by
  have he : ∀ w, (Instr.index 22 (.agg #[.int .i64 1, .int .i64 1, .int .i64 1, .int .i64 1, .int .i64 1, .int .i64 1, .int .i64 (-1), .int .i64 (-1), .int .i64 1, .int .i64 (-1), .int .i64 (-1), .int .i64 1, .int .i64 1, .int .i64 (-1), .int .i64 1, .int .i64 (-1)]) (.int .i64 (n : Int))).run Tryd.prog w = .ok (.int .i64 (sg n)) w :=
    fun w => run_index_arr [1, 1, 1, 1, 1, 1, -1, -1, 1, -1, -1, 1, 1, -1, 1, -1] n rfl hn w
  have r : IntKind.i64.wrap (4 * I) = 4 * I := IntWalk.i64_in _ ⟨by omega, by omega⟩
  have r2 : IntKind.i64.wrap (n : Int) = (n : Int) := IntWalk.i64_in _ ⟨by omega, by omega⟩
  generalize sg n = s at he ⊢
  go_enter Tryd.func50, Tryd.ntmps50
  go_wp2_with fail
  go_ret
  exact ⟨rfl, rfl⟩
end Go.Proofs.YtkdmhlbmhjolcaaDoor
