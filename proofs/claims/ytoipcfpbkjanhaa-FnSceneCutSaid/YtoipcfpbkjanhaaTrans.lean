/-
  The transposed picture: plain Lean.
-/
import Derived.Test.YtoipcfpbkjanhaaHist
import Derived.Test.YtoipcfpbkjanhaaTab
namespace Go.Proofs.Ytoipcfpbkjanhaa
open Go.RowKit

def trI (w h i : Nat) : Nat := (i % h) * w + i / h
def trL (w h : Nat) (xs : List Int) : List Int := tab (fun i => xs[trI w h i]?.getD 0) (w * h)
def trT (w h : Nat) (xs : List Int) (m : Nat) : List Int := tab (fun i => if trI w h i < m then xs[trI w h i]?.getD 0 else 0) (w * h)
theorem length_trL (w h : Nat) (xs : List Int) : (trL w h xs).length = w * h := length_tab _ _
theorem trI_lt {w h i : Nat} (hi : i < w * h) : trI w h i < w * h := by
  have hh : 0 < h := by rcases Nat.eq_zero_or_pos h with e | e; (subst e; simp at hi); exact e
  have h1 : i % h < h := Nat.mod_lt _ hh
  have h2 : i / h < w := Nat.div_lt_of_lt_mul (by rw [Nat.mul_comm]; exact hi)
  unfold trI
  have := row_lt (i % h) w h (i / h) h1 h2
  rw [Nat.mul_comm w h]; exact this
theorem trT_zero (w h : Nat) (xs : List Int) : trT w h xs 0 = List.replicate (w * h) 0 := by
  apply List.ext_getElem
  · simp [trT, tab]
  · intro i h1 h2; simp [trT, tab]
theorem trT_full (w h : Nat) (xs : List Int) : trT w h xs (w * h) = trL w h xs := by
  unfold trT trL
  exact tab_congr _ _ _ fun i hi => if_pos (trI_lt hi)
theorem trI_at {w h x y i : Nat} (hx : x < w) (hy : y < h) (hi : i < w * h) : trI w h i = y * w + x ↔ i = x * h + y := by
  have hh : 0 < h := by omega
  unfold trI
  constructor
  · intro e
    have hd : i / h < w := Nat.div_lt_of_lt_mul (by rw [Nat.mul_comm]; exact hi)
    have e1 := row_div (i % h) w (i / h) hd
    have e2 := row_mod (i % h) w (i / h) hd
    rw [e, row_div y w x hx] at e1
    rw [e, row_mod y w x hx] at e2
    have := Nat.div_add_mod i h
    rw [← e2, ← e1, Nat.mul_comm] at this
    exact this.symm
  · rintro rfl
    rw [row_div x h y hy, row_mod x h y hy]
theorem trT_set {w h x y : Nat} (hx : x < w) (hy : y < h) (xs : List Int) : (trT w h xs (y * w + x)).set (x * h + y) (xs[y * w + x]?.getD 0) = trT w h xs (y * w + x + 1) := by
  apply List.ext_getElem
  · simp [trT, tab]
  · intro i h1 h2
    have hi : i < w * h := by simpa [trT, tab] using h2
    have ha := trI_at hx hy hi
    rw [List.getElem_set]
    simp only [trT, tab, List.getElem_map, List.getElem_range]
    by_cases e : x * h + y = i
    · rw [if_pos e]
      have e' := ha.2 e.symm
      rw [e', if_pos (by omega)]
    · rw [if_neg e]
      have hne : trI w h i ≠ y * w + x := fun e' => e (ha.1 e').symm
      by_cases hlt : trI w h i < y * w + x
      · rw [if_pos hlt, if_pos (by omega)]
      · rw [if_neg hlt, if_neg (by omega)]

/-- the sum of f 0 .. f (n - 1) -/
def sumTo (f : Nat → Int) : Nat → Int
  | 0 => 0
  | n + 1 => sumTo f n + f n
theorem sumTo_add (f : Nat → Int) (a b : Nat) : sumTo f (a + b) = sumTo f a + sumTo (fun k => f (a + k)) b := by
  induction b with
  | zero => simp [sumTo]
  | succ b ih => rw [← Nat.add_assoc, sumTo, ih, sumTo]; omega
theorem sumTo_mul (f : Nat → Int) (w h : Nat) : sumTo f (h * w) = sumTo (fun y => sumTo (fun x => f (y * w + x)) w) h := by
  induction h with
  | zero => simp [sumTo]
  | succ h ih => rw [Nat.succ_mul, sumTo_add, ih, sumTo]
theorem sumTo_congr {f g : Nat → Int} {n : Nat} (h : ∀ k, k < n → f k = g k) : sumTo f n = sumTo g n := by
  induction n with
  | zero => rfl
  | succ n ih => rw [sumTo, sumTo, ih (fun k hk => h k (by omega)), h n (by omega)]
theorem sumTo_plus (f g : Nat → Int) (n : Nat) : sumTo (fun k => f k + g k) n = sumTo f n + sumTo g n := by
  induction n with
  | zero => rfl
  | succ n ih => rw [sumTo, sumTo, sumTo, ih]; omega
theorem sumTo_zero (n : Nat) : sumTo (fun _ => 0) n = 0 := by
  induction n with
  | zero => rfl
  | succ n ih => rw [sumTo, ih]; rfl
theorem sumTo_swap (f : Nat → Nat → Int) (w h : Nat) : sumTo (fun y => sumTo (fun x => f x y) w) h = sumTo (fun x => sumTo (fun y => f x y) h) w := by
  induction h with
  | zero => simp only [sumTo]; rw [sumTo_zero]
  | succ h ih => rw [sumTo, ih, ← sumTo_plus]; rfl

theorem hist_at (xs : List Int) (j : Nat) (hj : j < 16) (k : Nat) (hk : k ≤ xs.length) : (histOf (xs.take k))[j]?.getD 0 = sumTo (fun i => if j = (xs[i]?.getD 0 / 16).toNat then 1 else 0) k := by
  induction k with
  | zero => simp only [sumTo, List.take_zero]; exact (by decide : ∀ j, j < 16 → (List.replicate 16 (0 : Int))[j]?.getD 0 = 0) j hj
  | succ k ih =>
    rw [histOf_take xs k (by omega), histStep_get, ih (by omega), sumTo, length_histOf]
    by_cases e : j = (xs[k]?.getD 0 / 16).toNat
    · rw [if_pos ⟨e, hj⟩, if_pos e]
    · rw [if_neg (fun h => e h.1), if_neg e]; omega
theorem hist_trL (w h : Nat) (xs : List Int) (hl : xs.length = w * h) : histOf (trL w h xs) = histOf xs := by
  apply List.ext_getElem
  · rw [length_histOf, length_histOf]
  · intro j h1 h2
    have hj : j < 16 := by rw [length_histOf] at h2; exact h2
    have e1 := hist_at (trL w h xs) j hj _ (Nat.le_refl _)
    have e2 := hist_at xs j hj _ (Nat.le_refl _)
    rw [List.take_length] at e1 e2
    rw [List.getElem?_eq_getElem h1] at e1
    rw [List.getElem?_eq_getElem h2] at e2
    simp only [Option.getD_some] at e1 e2
    rw [e1, e2, length_trL, hl, sumTo_mul _ h w]
    have hx : ∀ x, x < w → sumTo (fun y => if j = ((trL w h xs)[x * h + y]?.getD 0 / 16).toNat then (1 : Int) else 0) h = sumTo (fun y => if j = (xs[y * w + x]?.getD 0 / 16).toNat then 1 else 0) h := fun x hx => sumTo_congr fun y hy => by
      have hlt : x * h + y < w * h := row_lt x h w y hx hy
      have e : (trL w h xs)[x * h + y]?.getD 0 = xs[y * w + x]?.getD 0 := by
        unfold trL
        rw [tab_get _ _ _ hlt, (trI_at hx hy hlt).2 rfl]
      rw [e]
    rw [sumTo_congr hx, Nat.mul_comm w h, sumTo_mul _ w h]
    exact (sumTo_swap (fun x y => if j = (xs[y * w + x]?.getD 0 / 16).toNat then (1 : Int) else 0) w h).symm
theorem hist_sum (xs : List Int) (hs : ∀ k, k < xs.length → 0 ≤ xs[k]?.getD 0 ∧ xs[k]?.getD 0 ≤ 255) (k : Nat) (hk : k ≤ xs.length) : sumTo (fun j => (histOf (xs.take k))[j]?.getD 0) 16 = k := by
  induction k with
  | zero =>
    have : sumTo (fun j => (histOf (xs.take 0))[j]?.getD 0) 16 = sumTo (fun _ => 0) 16 := sumTo_congr fun j hj => by rw [hist_at xs j hj 0 (by omega)]; rfl
    rw [this, sumTo_zero]; rfl
  | succ k ih =>
    obtain ⟨s1, s2⟩ := hs k (by omega)
    have : sumTo (fun j => (histOf (xs.take (k + 1)))[j]?.getD 0) 16 = sumTo (fun j => (histOf (xs.take k))[j]?.getD 0 + (if j = (xs[k]?.getD 0 / 16).toNat then 1 else 0)) 16 := sumTo_congr fun j hj => by
      rw [hist_at xs j hj _ hk, hist_at xs j hj _ (by omega), sumTo]
    rw [this, sumTo_plus, ih (by omega)]
    generalize hq : (xs[k]?.getD 0 / 16).toNat = q
    have hq' : q < 16 := by omega
    have : ∀ q, q < 16 → sumTo (fun j => if j = q then (1 : Int) else 0) 16 = 1 := by decide
    rw [this q hq']
    omega

set_option maxHeartbeats 2000000 in
theorem row (W H Y : Int) (b o y wn n c : Nat) (w : World) (hy : Y = (y : Int)) (hW : W = (wn : Int)) (h1 : y * wn + wn ≤ n) (h2 : n ≤ c) (hc : c ≤ 9223372036854775807) (hn : n ≤ 1024) (hw : wn ≤ 32) (hyy : y ≤ 32) (hlt : y * wn < c) :
    Calls Try.prog 60 #[.agg #[.int .i64 W, .int .i64 H, .slice (some ⟨b, o, none⟩) n c], .int .i64 Y] w fun e w' => e = .returned (.slice (some ⟨b, o + y * wn, none⟩) wn (c - y * wn)) ∧ Q w w' := by
  subst hy hW
  obtain ⟨p, hp⟩ : ∃ p, y * wn = p := ⟨_, rfl⟩
  rw [hp] at h1 hlt ⊢
  have e1 : (y : Int) * (wn : Int) = (p : Int) := by rw [← hp]; exact (Int.natCast_mul _ _).symm
  have e2 : ((y : Int) + 1) * (wn : Int) = (p : Int) + (wn : Int) := by rw [Int.add_mul, e1, Int.one_mul]
  have t5 : ((p : Int) + (wn : Int)).toNat = p + wn := by omega
  have t6 : (p : Int) + (wn : Int) ≤ (c : Int) := by omega
  have t7 : (0 : Int) ≤ (p : Int) + (wn : Int) := by omega
  have t8 : (p : Int) ≤ (p : Int) + (wn : Int) := by omega
  have t9 : ¬ c = p := by omega
  have t10 : max ((p : Int) + (wn : Int)) 0 = (p : Int) + (wn : Int) := by omega
  have r1 : -9223372036854775808 ≤ (p : Int) + (wn : Int) ∧ (p : Int) + (wn : Int) ≤ 9223372036854775807 := by omega
  have r2 : -9223372036854775808 ≤ (p : Int) ∧ (p : Int) ≤ 9223372036854775807 := by omega
  have t2 : wrap64 (((y : Int) + 1) * (wn : Int)) = (p : Int) + (wn : Int) := by rw [← IntWalk.i64_left, e2]; exact IntWalk.i64_in _ r1
  have t4 : wrap64 ((y : Int) * (wn : Int)) = (p : Int) := by rw [← IntWalk.i64_left, e1]; exact IntWalk.i64_in _ r2
  clear r1 r2 hp h1 h2 hn hlt
  go_enter Try.func60, Try.ntmps60
  go_wp2
  go_ret
  exact ⟨by simp, (by repeat (first | exact Q.refl _ | assumption | refine Q.drewN ?_ _ | refine Q.drew ?_ | refine Q.alloc ?_ _ | refine Q.trans ?_ (by assumption) | refine Q.set ?_ (by first | exact Nat.le_refl _ | omega | (simp; done) | (simp; omega)) _))⟩
end Go.Proofs.Ytoipcfpbkjanhaa
