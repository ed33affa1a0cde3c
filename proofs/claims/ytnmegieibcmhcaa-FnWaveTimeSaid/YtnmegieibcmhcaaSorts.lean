/-
  The library's stable sort on at most 19 numbers, at the program's comparison of two macroblocks by their steps.
-/
import Derived.Test.YtnmegieibcmhcaaAppend
import Derived.Test.YtnmegieibcmhcaaWave
import Derived.Test.YtnmegieibcmhcaaAft
import Derived.Deep.LoopGhost
import Derived.BigRegion
import Derived.Deep.RegionWith
namespace Go.Proofs.Ytnmegieibcmhcaa
open Go.RowKit

def swapL (xs : List Int) (i j : Nat) : List Int := (xs.set i (xs[j]?.getD 0)).set j (xs[i]?.getD 0)
/-- one number sinks down to its place -/
def insIn (f : Int → Int) : Nat → List Int → List Int
  | 0, xs => xs
  | j + 1, xs => if f (xs[j + 1]?.getD 0) < f (xs[j]?.getD 0) then insIn f j (swapL xs (j + 1) j) else xs
/-- m numbers from the place i on -/
def insOut (f : Int → Int) : Nat → Nat → List Int → List Int
  | 0, _, xs => xs
  | m + 1, i, xs => insOut f m (i + 1) (insIn f i xs)
def insSort (f : Int → Int) (xs : List Int) : List Int := insOut f (xs.length - 1) 1 xs
def inR (N : Nat) (xs : List Int) : Prop := ∀ k, k < xs.length → 0 ≤ xs[k]?.getD 0 ∧ xs[k]?.getD 0 < N
theorem length_swapL (xs : List Int) (i j : Nat) : (swapL xs i j).length = xs.length := by simp [swapL]
theorem inR_swap {N : Nat} {xs : List Int} (h : inR N xs) (i j : Nat) (hi : i < xs.length) (hj : j < xs.length) : inR N (swapL xs i j) := fun k hk => by
  rw [length_swapL] at hk
  unfold swapL
  rw [List.getElem?_set, List.getElem?_set]
  have h1 := h i hi
  have h2 := h j hj
  have h3 := h k hk
  by_cases e1 : j = k
  · rw [if_pos e1, if_pos (by simpa using hj)]; exact h1
  · rw [if_neg e1]
    by_cases e2 : i = k
    · rw [if_pos e2, if_pos hi]; exact h2
    · rw [if_neg e2]; exact h3

def cmpV (x y : Int) : Int := if x < y then -1 else if y < x then 1 else 0
theorem isNaN (x : Int) (w : World) : Calls Try.prog 72 #[.int .i64 x] w fun e w' => e = .returned (.bool false) ∧ w = w' := by
  go_enter Try.func72, Try.ntmps72
  go_wp2
  go_ret
  exact ⟨by simp, rfl⟩
theorem compare_any (x y : Int) (w : World) : Calls Try.prog 70 #[.int .i64 x, .int .i64 y] w fun e w' => e = .returned (.int .i64 (cmpV x y)) ∧ w = w' := by
  unfold cmpV
  by_cases h1 : x < y
  · rw [if_pos h1]
    go_enter Try.func70, Try.ntmps70
    go_wp2_with (go_at_call 72; refine (isNaN _ _).mono ?_; rintro e w' ⟨rfl, rfl⟩)
    go_ret
    exact ⟨rfl, rfl⟩
  · rw [if_neg h1]
    by_cases h2 : y < x
    · rw [if_pos h2]
      go_enter Try.func70, Try.ntmps70
      go_wp2_with (go_at_call 72; refine (isNaN _ _).mono ?_; rintro e w' ⟨rfl, rfl⟩)
      go_ret
      exact ⟨rfl, rfl⟩
    · rw [if_neg h2]
      go_enter Try.func70, Try.ntmps70
      go_wp2_with (go_at_call 72; refine (isNaN _ _).mono ?_; rintro e w' ⟨rfl, rfl⟩)
      go_ret
      exact ⟨rfl, rfl⟩

theorem closure_any (c r a b : Int) (g : Nat) (w : World) (h1 : 1 ≤ c) (h2 : c ≤ 4) (ha : 0 ≤ a) (ha' : a ≤ 16) (hb : 0 ≤ b) (hb' : b ≤ 16) (hB : Blk w g 61 #[.int .i64 c, .int .i64 r]) :
    Calls Try.prog 69 #[.int .i64 a, .int .i64 b, .pointer (some ⟨g, 0, none⟩)] w fun e w' => e = .returned (.int .i64 (cmpV (stepVal c a) (stepVal c b))) ∧ Q w w' := by
  have hc := hB.aft
  have T1 : Hid (∀ w : World, Calls Try.prog 62 #[.agg #[.int .i64 c, .int .i64 r], .int .i64 a] w fun e w' => e = .returned (.int .i64 (stepVal c a)) ∧ Q w w') := fun w => wave_step c r a w h1 h2 ha ha'
  have T2 : Hid (∀ w : World, Calls Try.prog 62 #[.agg #[.int .i64 c, .int .i64 r], .int .i64 b] w fun e w' => e = .returned (.int .i64 (stepVal c b)) ∧ Q w w') := fun w => wave_step c r b w h1 h2 hb hb'
  have T3 : Hid (∀ w : World, Calls Try.prog 70 #[.int .i64 (stepVal c a), .int .i64 (stepVal c b)] w fun e w' => e = .returned (.int .i64 (cmpV (stepVal c a) (stepVal c b))) ∧ Q w w') := fun w => (compare_any _ _ w).mono fun _ _ h => ⟨h.1, by rw [h.2]; exact Q.refl _⟩
  generalize stepVal c a = x at T1 T3 ⊢
  generalize stepVal c b = y at T2 T3 ⊢
  go_enter Try.func69, Try.ntmps69
  go_wp2_with fail
  refine wp_region_aft (by kernel_rfl) (by kernel_rfl) ?_
  repeat (go_big_quiet_step (first | (go_at_call 70; exact Calls.aft (T3.out _)) | (go_at_call_of 62 a; exact Calls.aft (T1.out _)) | (go_at_call_of 62 b; exact Calls.aft (T2.out _))))
  refine wpQuiet_nil ?_
  rintro _ ⟨⟨w7, q7⟩, rfl⟩
  go_wp2_with fail
  go_ret
  exact ⟨rfl, q7⟩

theorem Q.grownBy {w w' : World} (h : Q w w') (row : Option Nat) : w.grownBy w' row := ⟨h.os, h.tape, h.output, h.size, fun k hk _ => h.block k hk⟩
theorem grownBy_Q {a b c : World} {row : Option Nat} (h : a.grownBy b row) (k : Q b c) : a.grownBy c row := h.andThen (k.grownBy row) (fun _ e => .inr e.symm.symm)
end Go.Proofs.Ytnmegieibcmhcaa
