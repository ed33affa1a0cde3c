/-
  Blocks of sixteen numbers.
-/
import Derived.Test.YtkdmhlbmhjolcaaDoorProg
import Derived.Test.YtkdmhlbmhjolcaaDoorLib
import Derived.Test.YtkdmhlbmhjolcaaDoorTab
import Derived.Test.YtkdmhlbmhjolcaaDoorTakes
import Derived.Deep.MidRow
import Derived.Deep.WholeRow
namespace Go.Proofs.YtkdmhlbmhjolcaaDoor
open Go.RowKit

def arr (xs : List Int) : Array Value := (xs.map (Value.int .i64)).toArray
theorem arr_size (xs : List Int) : (arr xs).size = xs.length := by simp [arr]
theorem arr_at (xs : List Int) (k : Nat) (h : k < xs.length) : (arr xs)[k]? = some (.int .i64 (xs[k]?.getD 0)) := by simp [arr, h]
theorem arr_set (xs : List Int) (k : Nat) (y : Int) : (arr xs).setIfInBounds k (.int .i64 y) = arr (xs.set k y) := by
  simp [arr, List.map_set]
theorem arr_one (xs : List Int) : (arr xs).all (·.oneCell') = true := by
  rw [Array.all_eq_true_iff_forall_mem]
  intro v hv
  simp only [arr, List.mem_toArray, List.mem_map] at hv
  obtain ⟨x, _, rfl⟩ := hv
  rfl
/-- block g holds the sixteen numbers xs -/
structure Bl (w : World) (g : Nat) (xs : List Int) : Prop where
  blk : Blk w g 22 (arr xs)
  len : xs.length = 16
theorem info_arr : (Tryd.prog.info? 22).map (·.size) = some 16 := by kernel_rfl
section
variable {w w' : World} {g : Nat} {xs ys : List Int}
theorem Bl.q (h : Bl w g xs) (hq : Q w w') : Bl w' g xs := ⟨h.blk.q hq, h.len⟩
theorem Bl.at (h : Bl w g xs) (k : Nat) (hk : k < 16) : w.cell? ⟨g, k, none⟩ = some (.int .i64 (xs[k]?.getD 0)) := (h.blk.cell k).trans (arr_at _ _ (by rw [h.len]; exact hk))
theorem Bl.free (h : Bl w g xs) (k : Nat) : w.frozen? ⟨g, k, none⟩ = false := h.blk.free k
theorem Bl.set (h : Bl w g xs) (k : Nat) (y : Int) : Bl (w.setCell ⟨g, k, none⟩ (.int .i64 y)) g (xs.set k y) := ⟨by rw [← arr_set]; exact h.blk.set k _, by rw [List.length_set]; exact h.len⟩
theorem Bl.far (h : Bl w g xs) {p : Addr} (hp : g ≠ p.block) (u : Value) : Bl (w.setCell p u) g xs := ⟨h.blk.far hp u, h.len⟩
theorem Bl.grown {row : Option Nat} (h : Bl w g xs) (hb : w.grownBy w' row) (hg : some g ≠ row) : Bl w' g xs := ⟨h.blk.grown hb hg, h.len⟩
theorem Bl.alloc (h : Bl w g xs) (o : Obj) : Bl (w.alloc o) g xs := h.q ((Q.refl w).alloc o)
theorem Bl.drew (h : Bl w g xs) : Bl w.drew g xs := h.q ((Q.refl w).drew)
theorem Bl.new (w : World) (xs : List Int) (h : xs.length = 16) : Bl (w.alloc (.cells (arr xs) 22)) w.heap.size xs := ⟨Blk.new w _ _, h⟩
theorem Bl.zero (w : World) : Bl (w.alloc (.cells (arr (List.replicate 16 0)) 22)) w.heap.size (List.replicate 16 0) := Bl.new w _ rfl
theorem Bl.lt (h : Bl w g xs) : g < w.heap.size := h.blk.lt
theorem run_load_arr (h : Bl w g xs) : (Instr.loadAt 22 (.pointer (some ⟨g, 0, none⟩))).run Tryd.prog w = .ok (.agg (arr xs)) w := by
  have := run_loadVar_row w g 22 22 (arr xs) (0, 0) _ h.blk Tryd.underlying22 rfl (by rw [arr_size, h.len]; exact info_arr)
  simp only [Instr.loadAt, Instr.sureAddr, Sem.run_bind, Sem.run_pure, Result.andThen_ok, this]
variable {ops : Array Oper} {rest : List Oper} {o : Oper} {a : Act} {Q' : Exit → Act → World → Prop}
theorem wpList_load_arr (hgd : o.guard = none) (x : Operand) (ho : o.op = .load 22 x) (g : Nat) (hx : a.eval x = .pointer (some ⟨g, 0, none⟩)) (xs : List Int) (h : Bl w g xs)
    (hK : wpList Tryd.prog ops Q' rest (a.put o.dst (.agg (arr xs))) w) : wpList Tryd.prog ops Q' (o :: rest) a w :=
  wpList_load_row hgd _ x ho g hx 22 (arr xs) (0, 0) _ h.blk Tryd.underlying22 rfl (by rw [arr_size, h.len]; exact info_arr) hK
theorem wpList_load_arr_g (hw : Region.wanted o (yielded ops a.tmps) = true) (x : Operand) (ho : o.op = .load 22 x) (g : Nat) (hx : a.eval x = .pointer (some ⟨g, 0, none⟩)) (xs : List Int) (h : Bl w g xs)
    (hK : wpList Tryd.prog ops Q' rest (a.put o.dst (.agg (arr xs))) w) : wpList Tryd.prog ops Q' (o :: rest) a w :=
  wpList_step fun _ hKK => by
    rw [if_pos hw]
    exact wp_load_row _ x ho g hx 22 (arr xs) (0, 0) _ h.blk Tryd.underlying22 rfl (by rw [arr_size, h.len]; exact info_arr) (hKK _ _ hK)
theorem yieldsIf_load_arr {S : World → Prop} (hw : Region.wanted o (yielded ops a.tmps) = true) (x : Operand) (ho : o.op = .load 22 x) (g : Nat) (hx : a.eval x = .pointer (some ⟨g, 0, none⟩)) (xs : List Int) (hS : ∀ w, S w → Bl w g xs) :
    YieldsIf Tryd.prog ops S o (.agg (arr xs)) a :=
  .inl ⟨hw, fun w hw' => by
    unfold execOp
    simp only [ho, hx, run_load_arr (hS w hw'), Sem.run_bind, Sem.run_pure, Result.andThen_ok]⟩
theorem run_store_arr (h : Bl w g xs) (hy : ys.length = 16) : ∃ w', (Instr.storeAt 22 (.pointer (some ⟨g, 0, none⟩)) (.agg (arr ys))).run Tryd.prog w = .ok () w' ∧ Bl w' g ys ∧ w.grownBy w' (some g) ∧ w'.heap.size = w.heap.size := by
  have hi : (Tryd.prog.info? 22).map (·.size) = some (arr ys).size := by rw [arr_size, hy]; exact info_arr
  have := run_storeVar_row (P := Tryd.prog) w g 22 22 (arr xs) (arr ys) h.blk hi (by rw [arr_size, arr_size, h.len, hy]) (arr_one ys)
  refine ⟨_, by simp only [Instr.storeAt, Instr.sureAddr, Sem.run_bind, Sem.run_pure, Result.andThen_ok]; exact this, ⟨?_, hy⟩, ?_, ?_⟩
  · have hb := h.blk
    unfold Blk at hb ⊢
    simp [World.setRow, Array.getElem?_modify, hb]
  · refine ⟨rfl, rfl, rfl, by simp [World.setRow], fun k hk hne => ?_⟩
    simp only [World.setRow, Array.getElem?_modify]
    rw [if_neg (fun e => hne (by rw [e]))]
  · simp [World.setRow]
theorem wpList_store_arr (hgd : o.guard = none) (x y : Operand) (ho : o.op = .store 22 x y) (g : Nat) (hx : a.eval x = .pointer (some ⟨g, 0, none⟩)) (xs ys : List Int) (hy : a.eval y = .agg (arr ys)) (hl : ys.length = 16) (h : Bl w g xs)
    (hK : ∀ w', Bl w' g ys → w.grownBy w' (some g) → w'.heap.size = w.heap.size → wpList Tryd.prog ops Q' rest (a.put o.dst undef) w') : wpList Tryd.prog ops Q' (o :: rest) a w := by
  obtain ⟨w', hr, hb, hg, hs⟩ := run_store_arr h hl
  refine wpList_plain hgd fun K hKK => ?_
  unfold Oper.wp execOp
  simp only [ho, hx, hy, hr, Sem.run_bind, Sem.run_pure, Result.andThen_ok]
  exact hKK _ _ (hK w' hb hg hs)
end
theorem getD_arr (xs : List Int) (k : Nat) (h : k < xs.length) : (arr xs)[k]?.getD undef = .int .i64 (xs[k]?.getD 0) := by rw [arr_at _ _ h]; rfl

theorem run_index_arr (xs : List Int) (k : Nat) (hx : xs.length = 16) (hk : k < 16) (w : World) : (Instr.index 22 (.agg (arr xs)) (.int .i64 (k : Int))).run Tryd.prog w = .ok (.int .i64 (xs[k]?.getD 0)) w := by
  have h1 : (0 ≤ (k : Int) ∧ (k : Int) < ((16 : Nat) : Int)) := by omega
  have h2 := arr_at xs k (by omega)
  generalize xs[k]?.getD 0 = y at h2
  have h3 : ¬ 16 ≤ k := by omega
  simp [Instr.index, run_underlying Tryd.underlying22, asIntOf, h1, go_sem, part, h2, h3]

/-- do all lie within M -/
def inB (xs : List Int) (M : Int) : Bool := xs.all fun y => decide (-M ≤ y ∧ y ≤ M)
theorem inB_drop (xs : List Int) (M : Int) (k : Nat) (h : k < xs.length) : inB (xs.drop k) M = (decide (-M ≤ xs[k]?.getD 0 ∧ xs[k]?.getD 0 ≤ M) && inB (xs.drop (k + 1)) M) := by
  unfold inB
  rw [List.drop_eq_getElem_cons h, List.all_cons, List.getElem?_eq_getElem h]; rfl
theorem inB_get {xs : List Int} {M : Int} (h : inB xs M = true) (k : Nat) (hk : k < xs.length) : -M ≤ xs[k]?.getD 0 ∧ xs[k]?.getD 0 ≤ M := by
  have := List.all_eq_true.1 h (xs[k]?.getD 0) (by rw [List.getElem?_eq_getElem hk]; exact List.getElem_mem hk)
  exact of_decide_eq_true this
set_option maxRecDepth 100000 in
theorem blockWithin (xs : List Int) (M : Int) (t : Bool) (w : World) (hx : xs.length = 16) (hM : 0 ≤ M) (hM2 : M ≤ 100000) (ht : Hid (inB xs M = t)) :
    Calls Tryd.prog 35 #[.agg (arr xs), .int .i64 M] w fun e w' => e = .returned (.bool t) ∧ Q w w' := by
  have s1 := arr_size xs
  rw [hx] at s1
  have hb := Bl.new w xs hx
  have q0 : Q w (w.alloc (.cells (arr xs) 22)) := (by repeat (first | exact Q.refl _ | assumption | refine Q.drewN ?_ _ | refine Q.drew ?_ | refine Q.alloc ?_ _ | refine Q.trans ?_ (by assumption) | refine Q.set ?_ (by first | exact Nat.le_refl _ | omega | (simp; done) | (simp; omega)) _))
  go_enter Tryd.func35, Tryd.ntmps35
  go_wp2_with (first | refine wpList_load_arr rfl _ rfl _ rfl _ (by assumption) ?_ | refine wpList_load_arr_g (by rfl) _ rfl _ rfl _ (by assumption) ?_)
  go_loop [8] (fun i => ∃ k : Nat, k ≤ 16 ∧ i = .int .i64 k ∧ Hid (inB xs M = inB (xs.drop k) M)) (fun i => 16 - (intOf i).toNat)
  case atStart => exact ⟨0, by omega, rfl, rfl⟩
  case round =>
    obtain ⟨k, hk, rfl, hr⟩ := hrel
    by_cases hlt : k < 16
    · have hk16 : (k : Int) < 16 := by omega
      have he := fun w => run_index_arr xs k hx hlt w
      have hst := inB_drop xs M k (by omega)
      generalize xs[k]?.getD 0 = y at he hst
      by_cases hy1 : y < -M
      · rw [decide_eq_false (fun h => by omega), Bool.false_and] at hst
        have HST := Lib.hid hst
        clear hst
        go_wp2_with fail
        go_ret
        exact ⟨by rw [← ht.out, hr.out, HST.out]; rfl, q0⟩
      · by_cases hy2 : M < y
        · rw [decide_eq_false (fun h => by omega), Bool.false_and] at hst
          have HST := Lib.hid hst
          clear hst
          go_wp2_with fail
          go_ret
          exact ⟨by rw [← ht.out, hr.out, HST.out]; rfl, q0⟩
        · rw [decide_eq_true (by omega), Bool.true_and] at hst
          have HST := Lib.hid hst
          clear hst
          go_wp2_with fail
          go_round
          case rel => exact ⟨k + 1, by omega, by go_num, by rw [Hid, hr.out, HST.out]⟩
          case measure => simp [intOf]; omega
    · have hk16 : k = 16 := by omega
      subst hk16
      go_wp2_with fail
      go_ret
      exact ⟨by rw [← ht.out, hr.out, List.drop_of_length_le (Nat.le_of_eq hx)]; rfl, q0⟩
end Go.Proofs.YtkdmhlbmhjolcaaDoor
