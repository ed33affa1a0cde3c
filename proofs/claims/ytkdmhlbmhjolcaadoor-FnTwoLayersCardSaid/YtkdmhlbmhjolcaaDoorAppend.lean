/-
  'out = append(out, x)' on numbers, where out is nil or the call's own: the law of the library at this program's int.
-/
import Derived.Test.YtkdmhlbmhjolcaaDoorProg
import Derived.Test.YtkdmhlbmhjolcaaDoorLib
import Derived.Maps.AppendAt
import Derived.Deep.AppendLies
namespace Go.Proofs.YtkdmhlbmhjolcaaDoor
open Go.RowKit

theorem info_int : (Tryd.prog.info? 3).map (fun i => (i.zero, i.size, i.bytes)) = some (some (.int .i64 0), 1, 8) := by kernel_rfl

theorem Own.below {w : World} {B n : Nat} {v : Value} {xs : List Int} (h : Own w B v n xs) (k : Nat) (hk : v.ownBlock = some k) : B ≤ k := (h.2.lt k hk).1

theorem wpList_append_int {w : World} {ops : Array Oper} {rest : List Oper} {o : Oper} {a : Act} {Q' : Exit → Act → World → Prop} (hgd : o.guard = none) (s x : Operand)
    (ho : o.op = .call { callee := .builtin .append, args := #[s, x], argTypes := #[56, 56] })
    (W0 : World) (B n : Nat) (v : Value) (xs : List Int) (hs : a.eval s = v) (hown : Own w B v n xs) (ad : Addr) (y : Int) (c : Nat) (hx : a.eval x = .slice (some ad) 1 c)
    (hn : n ≤ 1000000000000) (hB : W0.heap.size ≤ B) (hBw : B ≤ w.heap.size) (hq : Q W0 w) (hc : w.cell? ad = some (.int .i64 y))
    (h : ∀ v' w', Own w' B v' (n + 1) (xs ++ [y]) → Q W0 w' → B ≤ w'.heap.size → w.grownBy w' v.ownBlock → wpList Tryd.prog ops Q' rest (a.put o.dst v') w') : wpList Tryd.prog ops Q' (o :: rest) a w := by
  obtain ⟨i0, hi, hz0, hz1, hz2⟩ := info_parts info_int
  refine wpList_append_own _ hgd s x 56 ho B 3 i0 (.int .i64 0) 1 8 Tryd.underlying56 hi hz0 hz1 hz2 rfl (by decide) v n _ hs hown.2 ad 1 c [.int .i64 y] hx rfl ?_ ?_ ?_ ?_ hBw ?_
  · intro j u hj
    match j, hj with
    | 0, hj => simp at hj; subst hj; simpa [Addr.add] using hc
  · intro u hu; simp at hu; subst hu; rfl
  · unfold maxLen; omega
  · omega
  · intro v' w' h1 h2 _
    refine h v' w' ⟨by simp [hown.1], by simpa using h1⟩ (hq.grown h2 fun k hk => ?_) (Nat.le_trans hBw h2.size) h2
    have := hown.below k hk
    omega

/-- The same inside a statement that leaves its order open. -/
theorem step_append_int {w : World} {ops : Array Oper} {o : Oper} {a : Act} {K : Act → World → Prop} {Q' : Exit → Act → World → Prop} {E : Prop} (hgd : o.guard = none) (s x : Operand)
    (ho : o.op = .call { callee := .builtin .append, args := #[s, x], argTypes := #[56, 56] })
    (W0 : World) (B n : Nat) (v : Value) (xs : List Int) (hs : a.eval s = v) (hown : Own w B v n xs) (ad : Addr) (y : Int) (c : Nat) (hx : a.eval x = .slice (some ad) 1 c)
    (hn : n ≤ 1000000000000) (hB : W0.heap.size ≤ B) (hBw : B ≤ w.heap.size) (hq : Q W0 w) (hc : w.cell? ad = some (.int .i64 y))
    (h : ∀ g cap w', Own w' B (.slice (some ⟨g, 0, none⟩) (n + 1) cap) (n + 1) (xs ++ [y]) → Q W0 w' → B ≤ w'.heap.size → w.grownBy w' v.ownBlock → K (a.put o.dst (.slice (some ⟨g, 0, none⟩) (n + 1) cap)) w') :
    if Region.wanted o (yielded ops a.tmps) = true then Oper.wp Tryd.prog o a w K Q' else E := by
  obtain ⟨i0, hi, hz0, hz1, hz2⟩ := info_parts info_int
  refine step_append_lies _ hgd s x 56 ho B 3 i0 (.int .i64 0) 1 8 Tryd.underlying56 hi hz0 hz1 hz2 rfl (by decide) v n _ hs hown.2 ad 1 c [.int .i64 y] hx rfl ?_ ?_ (by decide) ?_ ?_ hBw _ rfl ?_
  · intro j u hj
    match j, hj with
    | 0, hj => simp at hj; subst hj; simpa [Addr.add] using hc
  · intro u hu; simp at hu; subst hu; rfl
  · unfold maxLen; omega
  · omega
  · intro g cap w' h1 h2 _ _
    refine h g cap w' ⟨by simp [hown.1], by simpa using h1⟩ (hq.grown h2 fun k hk => ?_) (Nat.le_trans hBw h2.size) h2
    have := hown.below k hk
    omega

/-- 'make([]int, 0, n)' -/
theorem wpList_make_int0 {w : World} {ops : Array Oper} {rest : List Oper} {o : Oper} {a : Act} {Q' : Exit → Act → World → Prop} (hgd : o.guard = none) (l c : Operand) (ho : o.op = Op.makeSlice 56 l c)
    (W0 : World) (n : Nat) (C : Int) (hl : a.eval l = .int .i64 0) (hc : a.eval c = .int .i64 C) (hC : C = (n : Int)) (hn : n ≤ 1000000000000) (hq : Q W0 w)
    (h : ∀ w', Own w' w.heap.size (.slice (some ⟨w.heap.size, 0, none⟩) 0 n) 0 [] → Q W0 w' → w.heap.size ≤ w'.heap.size → wpList Tryd.prog ops Q' rest (a.put o.dst (.slice (some ⟨w.heap.size, 0, none⟩) 0 n)) w') : wpList Tryd.prog ops Q' (o :: rest) a w := by
  obtain ⟨i0, hi, hz0, hz1, hz2⟩ := info_parts info_int
  refine wpList_make_own w hgd l c 56 ho w.heap.size 3 i0 (.int .i64 0) 1 Tryd.underlying56 hi hz0 hz1 .i64 .i64 C n hl hc hC (by rw [hz2]; omega) (by unfold maxLen; omega) (Nat.le_refl _) ?_
  intro w' h1 h2
  exact h w' ⟨rfl, h1⟩ (hq.trans (Q.of_none h2)) h2.size
/-- 'make([]int, n)' -/
theorem wpList_make_int {w : World} {ops : Array Oper} {rest : List Oper} {o : Oper} {a : Act} {Q' : Exit → Act → World → Prop} (hgd : o.guard = none) (l c : Operand) (ho : o.op = Op.makeSlice 56 l c)
    (W0 : World) (n : Nat) (L C : Int) (hl : a.eval l = .int .i64 L) (hc : a.eval c = .int .i64 C) (hL : L = (n : Int)) (hC : C = (n : Int)) (hn : n ≤ 1000000000000) (hq : Q W0 w)
    (h : ∀ w', Own w' w.heap.size (.slice (some ⟨w.heap.size, 0, none⟩) n n) n (List.replicate n 0) → Q W0 w' → w.heap.size ≤ w'.heap.size → wpList Tryd.prog ops Q' rest (a.put o.dst (.slice (some ⟨w.heap.size, 0, none⟩) n n)) w') : wpList Tryd.prog ops Q' (o :: rest) a w := by
  obtain ⟨i0, hi, hz0, hz1, hz2⟩ := info_parts info_int
  refine wpList_make_full w hgd l c 56 ho w.heap.size 3 i0 (.int .i64 0) 1 Tryd.underlying56 hi hz0 hz1 .i64 .i64 L C n hl hc hL hC (by rw [hz2]; omega) (by unfold maxLen; omega) (Nat.le_refl _) ?_
  intro w' h1 h2
  exact h w' ⟨by simp, by simpa [Value.cells, toList_madeCells_one] using h1⟩ (hq.trans (Q.of_none h2)) h2.size
end Go.Proofs.YtkdmhlbmhjolcaaDoor
