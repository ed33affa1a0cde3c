/-
  The positions of a picture, row by row: the iterator's contract.
-/
import Derived.Test.YtoipcfpbkjanhaaBridge
import Derived.Test.YtoipcfpbkjanhaaTab
import Derived.Test.YtoipcfpbkjanhaaProg
import Derived.Shelf.Abstract
import Derived.Shelf.RegionOpen
import Derived.LoopNIn
import Derived.LoopIn
namespace Go.Proofs.Ytoipcfpbkjanhaa
open Go.RowKit Go.Shelf
attribute [local go_sem] Oper.semAt_some

section
variable {w h : Nat}
/-- the first k positions, row by row -/
def posL (w h : Nat) : Nat → List (Fin w × Fin h)
  | 0 => []
  | k + 1 => posL w h k ++ (if e : k < h * w then [(⟨k % w, Nat.mod_lt _ (Nat.pos_of_ne_zero (fun z => by subst z; simp at e))⟩, ⟨k / w, Nat.div_lt_of_lt_mul (by rw [Nat.mul_comm]; exact e)⟩)] else [])
theorem posL_length {k : Nat} (hk : k ≤ h * w) : (posL w h k).length = k := by
  induction k with
  | zero => rfl
  | succ k ih => rw [posL, List.length_append, ih (by omega), dif_pos (by omega)]; rfl
theorem posL_at (x : Fin w) (y : Fin h) : posL w h (y.1 * w + x.1 + 1) = posL w h (y.1 * w + x.1) ++ [(x, y)] := by
  have e : y.1 * w + x.1 < h * w := row_lt y.1 w h x.1 y.2 x.2
  rw [posL, dif_pos e]
  congr 2
  refine Prod.ext (Fin.ext ?_) (Fin.ext ?_)
  · exact row_mod y.1 w x.1 x.2
  · exact row_div y.1 w x.1 x.2
end

/-- what a round keeps: the box of the picture -/
def KpBox (g : Nat) (W W' : World) : Prop := W'.heap[g]? = W.heap[g]?
theorem kpBox_t {g : Nat} {A B C : World} (h : KpBox g A B) (k : KpBox g B C) : KpBox g A C := Eq.trans k h
theorem kpBox_b {g : Nat} {w : World} (hg : g < w.heap.size) (W : World) (l : Nat) (o o' : Obj) (hl : w.heap.size ≤ l) (_ : W.heap[l]? = some o) (_ : o.isCells = false) (_ : o.isWalk = false) : KpBox g W (W.putObj l o') := World.putObj_heap_other (by omega)

def posE (w h : Nat) (p : Fin w × Fin h) : Array Value := #[.int .i64 (p.1.1 : Int), .int .i64 (p.2.1 : Int)]

set_option maxRecDepth 100000 in
set_option maxHeartbeats 2000000 in
theorem positions1_in (n : Nat) (l g wn hn : Nat) (v : Value) (h32 : hn ≤ 32) (w32 : wn ≤ 32) (J Jx : List (Fin wn × Fin hn) → World → Prop)
    (hY : ∀ pre x W, J pre W → pre.length < hn * wn → YieldAt Fence.wide (n - 1) Try.prog l (posE wn hn x) W fun e W' =>
      (e = .returned (.bool true) ∧ J (pre ++ [x]) W' ∧ KpBox g W W') ∨ (e = .returned (.bool false) ∧ Jx (pre ++ [x]) W'))
    (W : World) (hB : Blk W g 27 #[.int .i64 (wn : Int), .int .i64 (hn : Int), v]) (h0 : J [] W) :
    CallsIn Fence.wide n Try.prog 68 #[.func (.yield l) #[] #[], .pointer (some ⟨g, 0, none⟩)] W fun e W' => (∃ v, e = .returned v) ∧
      ((∃ ys, ys = posL wn hn (hn * wn) ∧ J ys W') ∨ (∃ pre, True ∧ Jx pre W')) := by
  have hc := hB.cell
  refine callsIn_of_wp Try.func68 rfl trivial ?_ rfl
  simp only [Try.ntmps68, List.size_toArray, List.length_cons, List.length_nil, Nat.reduceAdd, Nat.reduceSub, Array.replicate_succ, Array.replicate_zero, List.push_toArray, List.append_toArray, List.nil_append, List.cons_append]
  gi_wp2
  clear hc
  have HB := Lib.hid hB
  clear hB
  gi_loopw [7] (fun i wr => ∃ y : Nat, y ≤ hn ∧ i = .int .i64 y ∧ J (posL wn hn (y * wn)) wr ∧ Hid (wr.heap[g]? = W.heap[g]?)) (fun i _ => hn - (intOf i).toNat)
  case atStart => exact ⟨0, Nat.zero_le _, rfl, by rw [Nat.zero_mul]; exact h0, rfl⟩
  case round =>
    obtain ⟨y, hy, rfl, hJ, hk⟩ := hrel
    have hbr : Blk wr g 27 #[.int .i64 (wn : Int), .int .i64 (hn : Int), v] := hk.out.trans HB.out
    have hc := hbr.cell
    by_cases hlt : y < hn
    · have hyl : (y : Int) < (hn : Int) := by omega
      clear hbr
      gi_wp2
      clear hc
      gi_loopw [12] (fun i wr => ∃ x : Nat, x ≤ wn ∧ i = .int .i64 x ∧ J (posL wn hn (y * wn + x)) wr ∧ Hid (wr.heap[g]? = W.heap[g]?)) (fun i _ => wn - (intOf i).toNat)
      case atStart => exact ⟨0, Nat.zero_le _, rfl, hJ, hk⟩
      case round =>
        obtain ⟨x, hx, rfl, hJ, hk⟩ := hrel
        by_cases hlx : x < wn
        · have hxl : (x : Int) < (wn : Int) := by omega
          have hm := row_lt y wn hn x hlt hlx
          obtain ⟨fn, tmps, assign, body, hy', hR⟩ := hY _ (⟨x, hlx⟩, ⟨y, hlt⟩) wr hJ (by rw [posL_length (by omega)]; exact hm)
          have HP := Lib.hid (posL_at (w := wn) (h := hn) ⟨x, hlx⟩ ⟨y, hlt⟩)
          unfold posE at hy'
          dsimp only at hy'
          clear hm
          gi_wp2
          refine ⟨fun hh => by simp [Fence.wide] at hh, hR.mono ?_⟩
          rintro e W3 (⟨rfl, hJ3, hk3⟩ | ⟨rfl, hJx3⟩)
          · gi_wp2
            go_roundw
            case rel => exact ⟨x + 1, by omega, by go_num, by rw [← Nat.add_assoc, HP.out]; exact hJ3, hk3.trans hk.out⟩
            case measure => simp [intOf]; omega
          · gi_wp2
            refine bodyPost_ret (results_none rfl _ _ _) rfl ?_
            exact ⟨⟨_, rfl⟩, .inr ⟨_, trivial, hJx3⟩⟩
        · obtain rfl : x = wn := by omega
          gi_wp2
          go_roundw
          case rel => exact ⟨y + 1, by omega, by go_num, by rw [Nat.succ_mul]; exact hJ, hk⟩
          case measure => simp [intOf]; omega
    · obtain rfl : y = hn := by omega
      gi_wp2
      go_end0
      exact ⟨⟨_, rfl⟩, .inl ⟨_, rfl, hJ⟩⟩

theorem positions_stops (n g wn hn : Nat) (v : Value) (h32 : hn ≤ 32) (w32 : wn ≤ 32) (w : World) (hB : Blk w g 27 #[.int .i64 (wn : Int), .int .i64 (hn : Int), v]) :
    SeqStopsK Fence.wide n Try.prog 68 #[.pointer (some ⟨g, 0, none⟩)] (posE wn hn) (KpBox g) (fun ys => ys = posL wn hn (hn * wn)) (fun _ => True) (hn * wn) w :=
  fun l J Jx W hW _ _ hY h0 => positions1_in n l g wn hn v h32 w32 J Jx hY W (hB.q ⟨hW.os, hW.tape, hW.output, hW.size, hW.block⟩) h0

set_option maxHeartbeats 1000000 in
theorem positions_in (n : Nat) (a b : Int) (v : Value) (w : World) :
    CallsIn Fence.wide n Try.prog 53 #[.agg #[.int .i64 a, .int .i64 b, v]] w fun e w' => e = .returned (.func (.func 68) #[] #[.pointer (some ⟨w.heap.size, 0, none⟩)]) ∧ w' = w.alloc (.cells #[.int .i64 a, .int .i64 b, v] 27) := by
  refine callsIn_of_wp Try.func53 rfl trivial ?_ rfl
  simp only [Try.ntmps53, List.size_toArray, List.length_cons, List.length_nil, Nat.reduceAdd, Nat.reduceSub, Array.replicate_succ, Array.replicate_zero, List.push_toArray, List.append_toArray, List.nil_append, List.cons_append]
  gi_wp2
  go_ret
  exact ⟨rfl, rfl⟩
end Go.Proofs.Ytoipcfpbkjanhaa
