/-
  Plain laws on blocks: the transform applied twice, the sum of squares, the distance of a coefficient and its level.
-/
import Derived.Test.YtkdmhlbmhjolcaaDoorArr16
import Derived.Test.YtkdmhlbmhjolcaaDoorArr14
namespace Go.Proofs.YtkdmhlbmhjolcaaDoor
open Go.RowKit

set_option maxHeartbeats 4000000 in
set_option maxRecDepth 100000 in
theorem hadW_lit (x0 x1 x2 x3 x4 x5 x6 x7 x8 x9 x10 x11 x12 x13 x14 x15 : Int) : hadW [x0, x1, x2, x3, x4, x5, x6, x7, x8, x9, x10, x11, x12, x13, x14, x15] = cols [x0 + x1 + x2 + x3, x0 + x1 - x2 - x3, x0 - x1 - x2 + x3, x0 - x1 + x2 - x3, x4 + x5 + x6 + x7, x4 + x5 - x6 - x7, x4 - x5 - x6 + x7, x4 - x5 + x6 - x7, x8 + x9 + x10 + x11, x8 + x9 - x10 - x11, x8 - x9 - x10 + x11, x8 - x9 + x10 - x11, x12 + x13 + x14 + x15, x12 + x13 - x14 - x15, x12 - x13 - x14 + x15, x12 - x13 + x14 - x15] 4 := rfl
set_option maxHeartbeats 4000000 in
set_option maxRecDepth 100000 in
theorem cols_lit (y0 y1 y2 y3 y4 y5 y6 y7 y8 y9 y10 y11 y12 y13 y14 y15 : Int) : cols [y0, y1, y2, y3, y4, y5, y6, y7, y8, y9, y10, y11, y12, y13, y14, y15] 4 = [y0 + y4 + y8 + y12, y1 + y5 + y9 + y13, y2 + y6 + y10 + y14, y3 + y7 + y11 + y15, y0 + y4 - y8 - y12, y1 + y5 - y9 - y13, y2 + y6 - y10 - y14, y3 + y7 - y11 - y15, y0 - y4 - y8 + y12, y1 - y5 - y9 + y13, y2 - y6 - y10 + y14, y3 - y7 - y11 + y15, y0 - y4 + y8 - y12, y1 - y5 + y9 - y13, y2 - y6 + y10 - y14, y3 - y7 + y11 - y15] := rfl
theorem list_eq16 {a0 a1 a2 a3 a4 a5 a6 a7 a8 a9 a10 a11 a12 a13 a14 a15 b0 b1 b2 b3 b4 b5 b6 b7 b8 b9 b10 b11 b12 b13 b14 b15 : Int} (h0 : a0 = b0) (h1 : a1 = b1) (h2 : a2 = b2) (h3 : a3 = b3) (h4 : a4 = b4) (h5 : a5 = b5) (h6 : a6 = b6) (h7 : a7 = b7) (h8 : a8 = b8) (h9 : a9 = b9) (h10 : a10 = b10) (h11 : a11 = b11) (h12 : a12 = b12) (h13 : a13 = b13) (h14 : a14 = b14) (h15 : a15 = b15) :
    [a0, a1, a2, a3, a4, a5, a6, a7, a8, a9, a10, a11, a12, a13, a14, a15] = [b0, b1, b2, b3, b4, b5, b6, b7, b8, b9, b10, b11, b12, b13, b14, b15] := by subst_vars; rfl
/-- Twice the transform: sixteen times the block. -/
theorem had_twice (xs : List Int) (h : xs.length = 16) : hadL (hadL xs) = xs.map (16 * ·) := by
  rw [← hadW_eq xs h, ← hadW_eq _ (by rw [hadW_len]; exact h)]
  obtain ⟨x0, x1, x2, x3, x4, x5, x6, x7, x8, x9, x10, x11, x12, x13, x14, x15, rfl⟩ := list16 xs h
  rw [hadW_lit, cols_lit, hadW_lit, cols_lit]
  show _ = [16 * x0, 16 * x1, 16 * x2, 16 * x3, 16 * x4, 16 * x5, 16 * x6, 16 * x7, 16 * x8, 16 * x9, 16 * x10, 16 * x11, 16 * x12, 16 * x13, 16 * x14, 16 * x15]
  apply list_eq16 <;> omega
def sqs (xs : List Int) : Int := sumN (fun k => xs[k]?.getD 0 * xs[k]?.getD 0) 16
theorem par4 (a b c d : Int) : (a + b + c + d) * (a + b + c + d) + (a + b - c - d) * (a + b - c - d) + (a - b - c + d) * (a - b - c + d) + (a - b + c - d) * (a - b + c - d) = 4 * (a * a + b * b + c * c + d * d) := by grind
theorem sqs_lit (x0 x1 x2 x3 x4 x5 x6 x7 x8 x9 x10 x11 x12 x13 x14 x15 : Int) : sqs [x0, x1, x2, x3, x4, x5, x6, x7, x8, x9, x10, x11, x12, x13, x14, x15] = 0 + x0 * x0 + x1 * x1 + x2 * x2 + x3 * x3 + x4 * x4 + x5 * x5 + x6 * x6 + x7 * x7 + x8 * x8 + x9 * x9 + x10 * x10 + x11 * x11 + x12 * x12 + x13 * x13 + x14 * x14 + x15 * x15 := rfl
theorem cols_sqs (y0 y1 y2 y3 y4 y5 y6 y7 y8 y9 y10 y11 y12 y13 y14 y15 : Int) : sqs (cols [y0, y1, y2, y3, y4, y5, y6, y7, y8, y9, y10, y11, y12, y13, y14, y15] 4) = 4 * sqs [y0, y1, y2, y3, y4, y5, y6, y7, y8, y9, y10, y11, y12, y13, y14, y15] := by
  rw [cols_lit, sqs_lit, sqs_lit]
  have c0 := par4 y0 y4 y8 y12
  have c1 := par4 y1 y5 y9 y13
  have c2 := par4 y2 y6 y10 y14
  have c3 := par4 y3 y7 y11 y15
  omega
theorem had_sqs (xs : List Int) (h : xs.length = 16) : sqs (hadL xs) = 16 * sqs xs := by
  rw [← hadW_eq xs h]
  obtain ⟨x0, x1, x2, x3, x4, x5, x6, x7, x8, x9, x10, x11, x12, x13, x14, x15, rfl⟩ := list16 xs h
  rw [hadW_lit, cols_sqs, sqs_lit, sqs_lit]
  have r0 := par4 x0 x1 x2 x3
  have r1 := par4 x4 x5 x6 x7
  have r2 := par4 x8 x9 x10 x11
  have r3 := par4 x12 x13 x14 x15
  omega
theorem sumN_le (f g : Nat → Int) (n : Nat) (h : ∀ k, k < n → f k ≤ g k) : sumN f n ≤ sumN g n := by
  induction n with
  | zero => exact Int.le_refl _
  | succ n ih =>
    have := h n (by omega)
    have := ih fun k hk => h k (by omega)
    show sumN f n + f n ≤ sumN g n + g n
    omega
theorem sumN_const (c : Int) (n : Nat) : sumN (fun _ => c) n = n * c := by
  induction n with
  | zero => simp [sumN]
  | succ n ih => show sumN (fun _ => c) n + c = _; rw [ih]; grind
theorem sumN_add (f g : Nat → Int) (n : Nat) : sumN (fun k => f k + g k) n = sumN f n + sumN g n := by
  induction n with
  | zero => simp [sumN]
  | succ n ih => show sumN (fun k => f k + g k) n + (f n + g n) = sumN f n + f n + (sumN g n + g n); rw [ih]; omega
theorem sumN_mul (f : Nat → Int) (c : Int) (n : Nat) : sumN (fun k => c * f k) n = c * sumN f n := by
  induction n with
  | zero => simp [sumN]
  | succ n ih => show sumN (fun k => c * f k) n + c * f n = c * (sumN f n + f n); rw [ih]; grind
theorem sumN_congr (f g : Nat → Int) (n : Nat) (h : ∀ k, k < n → f k = g k) : sumN f n = sumN g n := by
  induction n with
  | zero => rfl
  | succ n ih => show sumN f n + f n = sumN g n + g n; rw [ih fun k hk => h k (by omega), h n (by omega)]
/-- A block that is the transform of another one less a third. -/
theorem sq_step (y r : Int) (h1 : 16 * r ≤ 8 - y) (h2 : -7 - y ≤ 16 * r) : 128 * (r * r) ≤ y * y + 128 := by
  obtain ⟨u, hu⟩ : ∃ u, u = 16 * r + y := ⟨_, rfl⟩
  have a1 : 0 ≤ (8 - u) * (8 + u) := Int.mul_nonneg (by omega) (by omega)
  have a2 : 0 ≤ (u + y) * (u + y) := by
    rcases Int.le_total 0 (u + y) with h | h
    · exact Int.mul_nonneg h h
    · exact Int.mul_nonneg_of_nonpos_of_nonpos h h
  have e1 : (8 - u) * (8 + u) = 64 - u * u := by grind
  have e2 : (u + y) * (u + y) = u * u + 2 * (u * y) + y * y := by grind
  have e3 : 256 * (r * r) = u * u - 2 * (u * y) + y * y := by
    have : 16 * r = u - y := by omega
    grind
  omega
theorem tab_eq {f g : Nat → Int} (h : ∀ k, k < 16 → f k = g k) : tab f 16 = tab g 16 := tab_congr _ _ _ h
theorem hadF_sub (f g : Nat → Int) (k : Nat) : hadF (tab (fun j => f j - g j) 16) k = hadF (tab f 16) k - hadF (tab g 16) k := by
  unfold hadF
  rw [show sumN (hadJ (tab (fun j => f j - g j) 16) k) 16 = sumN (fun j => hadJ (tab f 16) k j + (-1) * hadJ (tab g 16) k j) 16 from ?_, sumN_add, sumN_mul]
  · omega
  · refine sumN_congr _ _ _ fun j hj => ?_
    unfold hadJ
    rw [tab_get _ _ _ hj, tab_get _ _ _ hj, tab_get _ _ _ hj]
    grind
/-- Twice the distance of a number and the nearest multiple is at most the step. -/
theorem quant_near {c s : Int} (hs : 1 ≤ s) : 2 * (c - quantV c s * s) ≤ s ∧ -s ≤ 2 * (c - quantV c s * s) := by
  have key : ∀ n : Int, 2 * (n - (2 * n + s) / (2 * s) * s) ≤ s ∧ -s ≤ 2 * (n - (2 * n + s) / (2 * s) * s) := fun n => by
    have a := Int.emod_nonneg (2 * n + s) (show 2 * s ≠ 0 by omega)
    have b := Int.emod_lt_of_pos (2 * n + s) (show 0 < 2 * s by omega)
    have e := Int.mul_ediv_add_emod (2 * n + s) (2 * s)
    generalize (2 * n + s) / (2 * s) = q at *
    have : 2 * s * q = 2 * (q * s) := by grind
    omega
  unfold quantV
  split
  · have := key (-c)
    rw [Int.neg_mul]
    omega
  · exact key c
theorem cl_near {c x : Int} (h1 : -4080 ≤ c) (h2 : c ≤ 4080) : (0 ≤ c - x → 0 ≤ c - cl x 4080 ∧ c - cl x 4080 ≤ c - x) ∧ (c - x ≤ 0 → c - cl x 4080 ≤ 0 ∧ c - x ≤ c - cl x 4080) := by
  unfold cl
  split <;> (try split) <;> omega
theorem deq_near {c s : Int} (h1 : -4080 ≤ c) (h2 : c ≤ 4080) (hs : 1 ≤ s) : 2 * (c - deqV (quantV c s) s) ≤ s ∧ -s ≤ 2 * (c - deqV (quantV c s) s) := by
  have := quant_near (c := c) hs
  have := cl_near (x := quantV c s * s) h1 h2
  unfold deqV
  omega
theorem sq_of_near {d s : Int} (h1 : 2 * d ≤ s) (h2 : -s ≤ 2 * d) : 4 * (d * d) ≤ s * s := by
  have a : 0 ≤ (s - 2 * d) * (s + 2 * d) := Int.mul_nonneg (by omega) (by omega)
  have : (s - 2 * d) * (s + 2 * d) = s * s - 4 * (d * d) := by grind
  omega
theorem sq_mono {d e : Int} (h1 : d ≤ e) (h2 : -e ≤ d) : d * d ≤ e * e := by
  have a : 0 ≤ (e - d) * (e + d) := Int.mul_nonneg (by omega) (by omega)
  have : (e - d) * (e + d) = e * e - d * d := by grind
  omega
/-- No multiple is nearer than the one that quantV names. -/
theorem quant_best {c s : Int} (hs : 1 ≤ s) (l : Int) : (c - quantV c s * s) * (c - quantV c s * s) ≤ (c - l * s) * (c - l * s) := by
  obtain ⟨a, b⟩ := quant_near (c := c) hs
  rcases Int.lt_trichotomy l (quantV c s) with h | h | h
  · have : 1 * s ≤ (quantV c s - l) * s := Int.mul_le_mul_of_nonneg_right (by omega) (by omega)
    rw [Int.sub_mul] at this
    exact sq_mono (by omega) (by omega)
  · rw [h]; exact Int.le_refl _
  · have : 1 * s ≤ (l - quantV c s) * s := Int.mul_le_mul_of_nonneg_right (by omega) (by omega)
    rw [Int.sub_mul] at this
    have := sq_mono (d := c - quantV c s * s) (e := -(c - l * s)) (by omega) (by omega)
    rw [Int.neg_mul_neg] at this
    exact this
theorem deq_best {c s l : Int} (h1 : -4080 ≤ c) (h2 : c ≤ 4080) (hs : 1 ≤ s) (hl : -4080 ≤ l * s) (hl2 : l * s ≤ 4080) :
    (c - deqV (quantV c s) s) * (c - deqV (quantV c s) s) ≤ (c - deqV l s) * (c - deqV l s) := by
  have e : deqV l s = l * s := cl_same hl hl2
  rw [e]
  refine Int.le_trans ?_ (quant_best hs l)
  have := cl_near (x := quantV c s * s) h1 h2
  unfold deqV
  rcases Int.le_total 0 (c - quantV c s * s) with h | h
  · obtain ⟨a, b⟩ := this.1 h
    exact sq_mono b (by omega)
  · obtain ⟨a, b⟩ := this.2 h
    have := sq_mono (d := c - cl (quantV c s * s) 4080) (e := -(c - quantV c s * s)) (by omega) (by omega)
    rw [Int.neg_mul_neg] at this
    exact this
theorem inv_had (xs : List Int) (h : xs.length = 16) : invL (hadL xs) = xs := by
  unfold invL
  rw [had_twice xs h]
  refine (tab_eq fun k hk => ?_).trans (tab16 xs h)
  rw [List.getElem?_map]
  cases hx : xs[k]? with
  | none => rw [List.getElem?_eq_none_iff] at hx; omega
  | some x => simp; omega
end Go.Proofs.YtkdmhlbmhjolcaaDoor
