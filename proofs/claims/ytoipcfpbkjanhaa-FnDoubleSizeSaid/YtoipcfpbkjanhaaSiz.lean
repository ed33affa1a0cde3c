/-
  HalfSize: plain Lean, and the program's.
-/
import Derived.Test.YtoipcfpbkjanhaaIter
import Derived.Test.YtoipcfpbkjanhaaSmp
import Derived.Test.YtoipcfpbkjanhaaPict
import Derived.Test.YtoipcfpbkjanhaaCarry
namespace Go.Proofs.Ytoipcfpbkjanhaa
open Go.RowKit Go.Shelf
attribute [local go_sem] Oper.semAt_some

/-- the numbers behind the stores at the positions pre -/
def setAll {w h : Nat} (f : Nat → Nat → Int) (n : Nat) (pre : List (Fin w × Fin h)) : List Int := pre.foldl (fun zs p => zs.set (p.2.1 * w + p.1.1) (f p.1.1 p.2.1)) (List.replicate n 0)
theorem setAll_snoc {w h : Nat} (f : Nat → Nat → Int) (n : Nat) (pre : List (Fin w × Fin h)) (p : Fin w × Fin h) : setAll f n (pre ++ [p]) = (setAll f n pre).set (p.2.1 * w + p.1.1) (f p.1.1 p.2.1) := by
  unfold setAll; rw [List.foldl_append]; rfl
/-- the table of f, row by row -/
def pixL (f : Nat → Nat → Int) (w h : Nat) : List Int := tab (fun k => f (k % w) (k / w)) (h * w)
def pixT (f : Nat → Nat → Int) (w h m : Nat) : List Int := tab (fun k => if k < m then f (k % w) (k / w) else 0) (h * w)
theorem pixT_succ (f : Nat → Nat → Int) (w h m : Nat) (hm : m < h * w) : (pixT f w h m).set m (f (m % w) (m / w)) = pixT f w h (m + 1) := by
  apply List.ext_getElem
  · simp [pixT, tab]
  · intro i h1 h2
    rw [List.getElem_set]
    simp only [pixT, tab, List.getElem_map, List.getElem_range]
    by_cases e : m = i
    · subst e; rw [if_pos rfl, if_pos (by omega)]
    · rw [if_neg e]
      by_cases hlt : i < m
      · rw [if_pos hlt, if_pos (by omega)]
      · rw [if_neg hlt, if_neg (by omega)]
theorem setAll_pos (f : Nat → Nat → Int) (w h k : Nat) (hk : k ≤ h * w) : setAll f (h * w) (posL w h k) = pixT f w h k := by
  induction k with
  | zero =>
    unfold setAll pixT
    apply List.ext_getElem
    · simp [posL, tab]
    · intro i h1 h2; simp [posL, tab]
  | succ k ih =>
    rw [posL, dif_pos (by omega), setAll_snoc, ih (by omega)]
    show (pixT f w h k).set (k / w * w + k % w) (f (k % w) (k / w)) = _
    rw [Nat.mul_comm, Nat.div_add_mod, pixT_succ f w h k (by omega)]
theorem pixT_full (f : Nat → Nat → Int) (w h : Nat) : pixT f w h (h * w) = pixL f w h := tab_congr _ _ _ fun i hi => if_pos hi
theorem length_setAll {w h : Nat} (f : Nat → Nat → Int) (n : Nat) (pre : List (Fin w × Fin h)) : (setAll f n pre).length = n := by
  unfold setAll
  suffices ∀ zs : List Int, (pre.foldl (fun zs p => zs.set (p.2.1 * w + p.1.1) (f p.1.1 p.2.1)) zs).length = zs.length by rw [this]; simp
  induction pre with
  | nil => intro zs; rfl
  | cons p pre ih => intro zs; rw [List.foldl_cons, ih]; simp

def hafS (W H : Int) (xs : List Int) (x y : Nat) : Int := smpAt W H xs (2 * (x : Int)) (2 * (y : Int)) + smpAt W H xs (2 * (x : Int) + 1) (2 * (y : Int)) + smpAt W H xs (2 * (x : Int)) (2 * (y : Int) + 1) + smpAt W H xs (2 * (x : Int) + 1) (2 * (y : Int) + 1)
def hafF (W H : Int) (xs : List Int) (x y : Nat) : Int := (hafS W H xs x y + 2) / 4

theorem rounded4 (s : Int) (w : World) (h1 : 0 ≤ s) (h2 : s ≤ 1020) : Calls Try.prog 55 #[.int .i64 s, .int .i64 4] w fun e w' => e = .returned (.int .i64 ((s + 2) / 4)) ∧ w = w' := by
  have e : (2 * s + 4) / 8 = (s + 2) / 4 := by omega
  have E := Lib.hid e
  clear e
  go_enter Try.func55, Try.ntmps55
  go_wp2
  go_ret
  exact ⟨ret_i E.out, rfl⟩

theorem Blk.putObj {w : World} {g : Nat} {t : TypeId} {cs : Array Value} (h : Blk w g t cs) (D : Nat) (o : Obj) (hD : g ≠ D) : Blk (w.putObj D o) g t cs := (World.putObj_heap_other hD).trans h
theorem KeepsOthers.of_q {W W' : World} (h : Q W W') : KeepsOthers W W' := ⟨h.size, fun k o hk _ => (h.block k (Array.getElem?_eq_some_iff.1 hk).1).trans hk⟩
end Go.Proofs.Ytoipcfpbkjanhaa
