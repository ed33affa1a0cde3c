/-
  WaveTime: how both texts reckon it, as plain functions on lists; that both give the same number, for all sizes and workers.
-/
import Derived.Test.YtnmegieibcmhcaaOrder
import Derived.Test.YtnmegieibcmhcaaWOrder2
namespace Go.Proofs.Ytnmegieibcmhcaa
open Go.RowKit

/-- the program: one step takes of 'left' those that are ready, at most W of them -/
def splitT (c : Int) (W : Nat) (d : List Bool) : List Int → List Int → List Int → List Int × List Int
  | [], now, later => (now, later)
  | n :: t, now, later => if now.length < W ∧ allDone d (needsV c n) = true then splitT c W d t (now ++ [n]) later else splitT c W d t now (later ++ [n])
def markT (d : List Bool) (ns : List Int) : List Bool := ns.foldl (fun d n => d.set n.toNat true) d
def runT (c : Int) (W : Nat) : Nat → List Int → List Bool → Option Nat
  | 0, _, _ => none
  | f + 1, left, d => if left = [] then some 0 else (runT c W f (splitT c W d left [] []).2 (markT d (splitT c W d left [] []).1)).map (· + 1)
def timeT (c r : Int) (W : Nat) : Nat := (runT c W 17 (waveOrder c r) (List.replicate (c * r).toNat false)).getD 0

/-- the reference: is a macroblock ready in step now? -/
def readyS (s : List Int) (now : Int) (ks : List Int) : Bool := ks.all fun k => decide (0 < s[k.toNat]?.getD 0) && decide (s[k.toNat]?.getD 0 < now)
def canS (c : Int) (s : List Int) (now n : Int) : Bool := decide (s[n.toNat]?.getD 0 = 0) && readyS s now (needsV c n)
/-- one step of the reference: the rest of the order, how many are used, the steps so far -/
def stepS (c : Int) (W : Nat) (now : Int) : List Int → Nat → List Int → Nat × List Int
  | [], used, s => (used, s)
  | n :: t, used, s => if used < W then (if canS c s now n = true then stepS c W now t (used + 1) (s.set n.toNat now) else stepS c W now t used s) else (used, s)
def runS (c : Int) (W : Nat) (ord : List Int) : Nat → Int → Nat → List Int → Option Nat
  | 0, _, _, _ => none
  | f + 1, left, now, s => if left ≤ 0 then some now else runS c W ord f (left - (stepS c W (now + 1 : Nat) ord 0 s).1) (now + 1) (stepS c W (now + 1 : Nat) ord 0 s).2

theorem time_fin : ∀ c : Fin 5, ∀ r : Fin 5, ∀ W : Fin 17, 1 ≤ c.1 → 1 ≤ r.1 → 1 ≤ W.1 →
    runT c.1 W.1 17 (waveOrder c.1 r.1) (List.replicate (c.1 * r.1) false) = some (timeT c.1 r.1 W.1) ∧
    runS c.1 W.1 (waveOrder c.1 r.1) 17 (c.1 * r.1) 0 (List.replicate (c.1 * r.1) 0) = some (timeT c.1 r.1 W.1) ∧
    timeT c.1 r.1 W.1 ≤ c.1 * r.1 ∧ timeT c.1 r.1 1 = c.1 * r.1 ∧ (timeT c.1 r.1 16 : Int) = waveStep c.1 r.1 (c.1 * r.1 - 1) + 1 ∧ (W.1 = 16 ∨ timeT c.1 r.1 (W.1 + 1) ≤ timeT c.1 r.1 W.1) := by decide +kernel
end Go.Proofs.Ytnmegieibcmhcaa
