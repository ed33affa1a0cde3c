/-
  Blocks of sixteen numbers: copying, comparing, range.
-/
import Derived.Test.YtkdmhlbmhjolcaaDoorArr
import Derived.Test.YtkdmhlbmhjolcaaDoorSmall
import Derived.Test.YtkdmhlbmhjolcaaDoorCarry
import Derived.Deep.RegionHeld3
namespace Go.Proofs.YtkdmhlbmhjolcaaDoor
open Go.RowKit

theorem set_tab_take (xs : List Int) (k : Nat) (h : k < 16) (hx : xs.length = 16) : (tab (fun j => if j < k then xs[j]?.getD 0 else 0) 16).set k (xs[k]?.getD 0) = tab (fun j => if j < k + 1 then xs[j]?.getD 0 else 0) 16 := by
  apply List.ext_getElem
  · simp [tab]
  · intro i h1 h2
    rw [List.getElem_set]
    simp only [tab, List.getElem_map, List.getElem_range]
    by_cases e : k = i
    · subst e; rw [if_pos rfl, if_pos (by omega)]
    · rw [if_neg e]
      by_cases hlt : i < k
      · rw [if_pos hlt, if_pos (by omega)]
      · rw [if_neg hlt, if_neg (by omega)]
theorem set_tab (f : Nat → Int) (k : Nat) (h : k < 16) : (tab (fun j => if j < k then f j else 0) 16).set k (f k) = tab (fun j => if j < k + 1 then f j else 0) 16 := by
  apply List.ext_getElem
  · simp [tab]
  · intro i h1 h2
    rw [List.getElem_set]
    simp only [tab, List.getElem_map, List.getElem_range]
    by_cases e : k = i
    · subst e; rw [if_pos rfl, if_pos (by omega)]
    · rw [if_neg e]
      by_cases hlt : i < k
      · rw [if_pos hlt, if_pos (by omega)]
      · rw [if_neg hlt, if_neg (by omega)]
theorem tab_full (f : Nat → Int) : tab (fun j => if j < 16 then f j else 0) 16 = tab f 16 := tab_congr _ _ _ fun _ hi => if_pos hi
theorem tab_none (f : Nat → Int) : tab (fun j => if j < 0 then f j else 0) 16 = List.replicate 16 0 := by
  rw [tab_congr _ (fun _ => 0) 16 (fun i _ => if_neg (by omega))]; rfl
theorem tab_at (f : Nat → Int) (k m : Nat) (h : k < 16) (hm : m ≤ k) : (tab (fun j => if j < m then f j else 0) 16)[k]?.getD 0 = 0 := by
  rw [tab_get _ _ _ h, if_neg (by omega)]
theorem tab16 (xs : List Int) (h : xs.length = 16) : tab (fun j => xs[j]?.getD 0) 16 = xs := by rw [← h]; exact tab_self xs

set_option maxRecDepth 100000 in
theorem toIntA16 (xs : List Int) (w : World) (hx : xs.length = 16) :
    Calls Tryd.prog 11 #[.agg (arr xs)] w fun e w' => e = .returned (.agg (arr xs)) ∧ Q w w' := by
  have s1 := arr_size xs
  rw [hx] at s1
  have QQ : Q w (((w.alloc (.cells (arr xs) 22)).alloc (.cells (arr (List.replicate 16 0)) 22)).alloc (.cells (arr (List.replicate 16 0)) 22)) := (by repeat (first | exact Q.refl _ | assumption | refine Q.drewN ?_ _ | refine Q.drew ?_ | refine Q.alloc ?_ _ | refine Q.trans ?_ (by assumption) | refine Q.set ?_ (by first | exact Nat.le_refl _ | omega | (simp; done) | (simp; omega)) _))
  have ba := ((Bl.new w xs hx).alloc (.cells (arr (List.replicate 16 0)) 22)).alloc (.cells (arr (List.replicate 16 0)) 22)
  have bb := (Bl.zero (w.alloc (.cells (arr xs) 22))).alloc (.cells (arr (List.replicate 16 0)) 22)
  have bc := Bl.zero ((w.alloc (.cells (arr xs) 22)).alloc (.cells (arr (List.replicate 16 0)) 22))
  simp only [World.size_alloc] at bb bc
  have hs : (((w.alloc (.cells (arr xs) 22)).alloc (.cells (arr (List.replicate 16 0)) 22)).alloc (.cells (arr (List.replicate 16 0)) 22)).heap.size = w.heap.size + 3 := by simp
  go_enter Tryd.func11, Tryd.ntmps11
  go_wp2_with fail
  change Code.wp _ _ _ _ (((w.alloc (.cells (arr xs) 22)).alloc (.cells (arr (List.replicate 16 0)) 22)).alloc (.cells (arr (List.replicate 16 0)) 22))
  generalize (((w.alloc (.cells (arr xs) 22)).alloc (.cells (arr (List.replicate 16 0)) 22)).alloc (.cells (arr (List.replicate 16 0)) 22)) = wv at QQ ba bb bc hs ⊢
  go_loopw [4] (fun i wr => ∃ k : Nat, k ≤ 16 ∧ i = .int .i64 k ∧ Hid (Bl wr (w.heap.size + 1 + 1) (tab (fun j => if j < k then xs[j]?.getD 0 else 0) 16) ∧ Bl wr (w.heap.size + 1) (List.replicate 16 0)) ∧ Hid (Q w wr) ∧ Bl wr w.heap.size xs ∧ w.heap.size + 3 ≤ wr.heap.size) (fun i _ => 16 - (intOf i).toNat)
  case atStart => exact ⟨0, by omega, rfl, ⟨by rw [tab_none]; exact bc, bb⟩, QQ, ba, by omega⟩
  case round =>
    obtain ⟨k, hk, rfl, hK, hq, hba, hsz⟩ := hrel
    by_cases hlt : k < 16
    · have hk16 : (k : Int) < 16 := by omega
      have hc := hba.at k hlt
      have hst := set_tab_take xs k hlt hx
      have hc2 := hK.out.1.at k hlt
      have hf2 := hK.out.1.free k
      rw [tab_at _ _ _ hlt (Nat.le_refl _)] at hc2
      have n1 := Lib.hid (hK.out.1.set k (xs[k]?.getD 0))
      have n2 := Lib.hid (hK.out.2.far (p := ⟨w.heap.size + 1 + 1, k, none⟩) (by show w.heap.size + 1 ≠ w.heap.size + 1 + 1; omega) (.int .i64 (xs[k]?.getD 0)))
      have n3 := Lib.hid (hba.far (p := ⟨w.heap.size + 1 + 1, k, none⟩) (by show w.heap.size ≠ w.heap.size + 1 + 1; omega) (.int .i64 (xs[k]?.getD 0)))
      have n4 := Lib.hid (hq.out.set (p := ⟨w.heap.size + 1 + 1, k, none⟩) (by show w.heap.size ≤ w.heap.size + 1 + 1; omega) (.int .i64 (xs[k]?.getD 0)))
      rw [hst] at n1
      generalize xs[k]?.getD 0 = y at hc n1 n2 n3 n4
      clear hst hba
      go_wp2_with fail
      go_roundw
      case rel => exact ⟨k + 1, by omega, by go_num, ⟨n1.out, n2.out⟩, n4.out, n3.out, by simp; omega⟩
      case measure => simp [intOf]; omega
    · have hk16 : k = 16 := by omega
      subst hk16
      have n1 := hK.out.1
      rw [tab_full, tab16 xs hx] at n1
      have n2 := hK.out.2
      have H4 := Lib.hid hq.out
      clear hK hq hba
      go_wp2_with (first | (first | refine wpList_load_arr rfl _ rfl _ rfl _ (by assumption) ?_ | refine wpList_load_arr_g (by rfl) _ rfl _ rfl _ (by assumption) ?_) | (refine wpList_store_arr rfl _ _ rfl _ rfl _ _ rfl (by first | assumption | rfl) (by assumption) ?_; intro w9 b9 g9 s9))
      refine bodyPost_ret (v := .agg (arr xs)) (results_cell_row (by rfl) _ _ _ _ _ _ _ (by rfl) b9.blk Tryd.underlying22 rfl (by rw [arr_size, hx]; exact info_arr)) rfl ⟨rfl, ?_⟩
      exact H4.out.grown g9 (fun k e => by cases e; omega)
end Go.Proofs.YtkdmhlbmhjolcaaDoor
