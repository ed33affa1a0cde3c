/-
  WaveNeeds, of the program and of the reference: the macroblocks that are needed.
-/
import Derived.Test.YtnmegieibcmhcaaAppend
import Derived.Test.YtnmegieibcmhcaaWave
namespace Go.Proofs.Ytnmegieibcmhcaa
open Go.RowKit

def needs1 (c n : Int) : List Int := if c ≤ n then (if n % c < c - 1 then [n - c, n - c + 1] else [n - c]) else []
def needs2 (c n : Int) : List Int := if 0 < n % c then [n - 1] else []
def needsV (c n : Int) : List Int := needs1 c n ++ needs2 c n
def needs (c r n : Int) : List Int := if sizeOk c r ∧ 0 ≤ n ∧ n < c * r then needsV c n else []

set_option maxHeartbeats 2000000 in
theorem wave_needs (c r n : Int) (w : World) (h1 : 1 ≤ c) (h2 : c ≤ 4) (h3 : 0 ≤ n) (h4 : n ≤ 16) :
    Calls Try.prog 63 #[.agg #[.int .i64 c, .int .i64 r], .int .i64 n] w fun e w' => ∃ v, e = .returned v ∧ Own w' w.heap.size v (needsV c n).length (needsV c n) ∧ Q w w' := by
  have hm : n % c < c := Int.emod_lt_of_pos _ (by omega)
  have hm0 : 0 ≤ n % c := Int.emod_nonneg _ (by omega)
  obtain ⟨W, hW⟩ : ∃ W, w.alloc (.cells #[.int .i64 c, .int .i64 r] 61) = W := ⟨_, rfl⟩
  have b0 : Blk W w.heap.size 61 #[.int .i64 c, .int .i64 r] := by rw [← hW]; exact Blk.new _ _ _
  have qW : Q w W := by rw [← hW]; exact (by repeat (first | exact Q.refl _ | assumption | refine Q.drewN ?_ _ | refine Q.drew ?_ | refine Q.alloc ?_ _ | refine Q.trans ?_ (by assumption) | refine Q.set ?_ (by first | exact Nat.le_refl _ | omega | (simp; done) | (simp; omega)) _))
  have ho0 := Own.nil W W.heap.size
  have hq0 := Q.refl W
  have c0 := b0.cell
  have hs0 : W.heap.size ≤ W.heap.size := Nat.le_refl _
  by_cases hc : c ≤ n
  · by_cases hy : n % c < c - 1
    · by_cases hx : 0 < n % c
      · rw [show needsV c n = [n - c, n - c + 1, n - 1] by unfold needsV needs1 needs2; rw [if_pos hc, if_pos hy, if_pos hx]; rfl]
        (go_enter Try.func63, Try.ntmps63; go_wp2_with (first | (at_builtin; refine wpList_append_int rfl _ _ rfl W W.heap.size _ _ _ rfl (ho2.alloc _) ⟨_, 0, none⟩ _ _ rfl (by first | exact Nat.le_refl _ | omega | (simp; done) | (simp; omega)) (by first | exact Nat.le_refl _ | omega | (simp; done) | (simp; omega)) (by first | exact Nat.le_refl _ | omega | (simp; done) | (simp; omega)) (hq2.alloc _) (World.cell?_alloc_new _ _ _ _) ?_; intro v' w' ho3 hq3 hs3 _; have c3 := b0.qcell hq3) | (at_builtin; refine wpList_append_int rfl _ _ rfl W W.heap.size _ _ _ rfl (ho1.alloc _) ⟨_, 0, none⟩ _ _ rfl (by first | exact Nat.le_refl _ | omega | (simp; done) | (simp; omega)) (by first | exact Nat.le_refl _ | omega | (simp; done) | (simp; omega)) (by first | exact Nat.le_refl _ | omega | (simp; done) | (simp; omega)) (hq1.alloc _) (World.cell?_alloc_new _ _ _ _) ?_; intro v' w' ho2 hq2 hs2 _; have c2 := b0.qcell hq2) | (at_builtin; refine wpList_append_int rfl _ _ rfl W W.heap.size _ _ _ rfl (ho0.alloc _) ⟨_, 0, none⟩ _ _ rfl (by first | exact Nat.le_refl _ | omega | (simp; done) | (simp; omega)) (by first | exact Nat.le_refl _ | omega | (simp; done) | (simp; omega)) (by first | exact Nat.le_refl _ | omega | (simp; done) | (simp; omega)) (hq0.alloc _) (World.cell?_alloc_new _ _ _ _) ?_; intro v' w' ho1 hq1 hs1 _; have c1 := b0.qcell hq1)); go_ret)
        exact ⟨_, rfl, ho3.mono qW.size, qW.trans hq3⟩
      · rw [show needsV c n = [n - c, n - c + 1] by unfold needsV needs1 needs2; rw [if_pos hc, if_pos hy, if_neg hx]; rfl]
        (go_enter Try.func63, Try.ntmps63; go_wp2_with (first | (at_builtin; refine wpList_append_int rfl _ _ rfl W W.heap.size _ _ _ rfl (ho2.alloc _) ⟨_, 0, none⟩ _ _ rfl (by first | exact Nat.le_refl _ | omega | (simp; done) | (simp; omega)) (by first | exact Nat.le_refl _ | omega | (simp; done) | (simp; omega)) (by first | exact Nat.le_refl _ | omega | (simp; done) | (simp; omega)) (hq2.alloc _) (World.cell?_alloc_new _ _ _ _) ?_; intro v' w' ho3 hq3 hs3 _; have c3 := b0.qcell hq3) | (at_builtin; refine wpList_append_int rfl _ _ rfl W W.heap.size _ _ _ rfl (ho1.alloc _) ⟨_, 0, none⟩ _ _ rfl (by first | exact Nat.le_refl _ | omega | (simp; done) | (simp; omega)) (by first | exact Nat.le_refl _ | omega | (simp; done) | (simp; omega)) (by first | exact Nat.le_refl _ | omega | (simp; done) | (simp; omega)) (hq1.alloc _) (World.cell?_alloc_new _ _ _ _) ?_; intro v' w' ho2 hq2 hs2 _; have c2 := b0.qcell hq2) | (at_builtin; refine wpList_append_int rfl _ _ rfl W W.heap.size _ _ _ rfl (ho0.alloc _) ⟨_, 0, none⟩ _ _ rfl (by first | exact Nat.le_refl _ | omega | (simp; done) | (simp; omega)) (by first | exact Nat.le_refl _ | omega | (simp; done) | (simp; omega)) (by first | exact Nat.le_refl _ | omega | (simp; done) | (simp; omega)) (hq0.alloc _) (World.cell?_alloc_new _ _ _ _) ?_; intro v' w' ho1 hq1 hs1 _; have c1 := b0.qcell hq1)); go_ret)
        exact ⟨_, rfl, ho2.mono qW.size, qW.trans hq2⟩
    · by_cases hx : 0 < n % c
      · rw [show needsV c n = [n - c, n - 1] by unfold needsV needs1 needs2; rw [if_pos hc, if_neg hy, if_pos hx]; rfl]
        (go_enter Try.func63, Try.ntmps63; go_wp2_with (first | (at_builtin; refine wpList_append_int rfl _ _ rfl W W.heap.size _ _ _ rfl (ho2.alloc _) ⟨_, 0, none⟩ _ _ rfl (by first | exact Nat.le_refl _ | omega | (simp; done) | (simp; omega)) (by first | exact Nat.le_refl _ | omega | (simp; done) | (simp; omega)) (by first | exact Nat.le_refl _ | omega | (simp; done) | (simp; omega)) (hq2.alloc _) (World.cell?_alloc_new _ _ _ _) ?_; intro v' w' ho3 hq3 hs3 _; have c3 := b0.qcell hq3) | (at_builtin; refine wpList_append_int rfl _ _ rfl W W.heap.size _ _ _ rfl (ho1.alloc _) ⟨_, 0, none⟩ _ _ rfl (by first | exact Nat.le_refl _ | omega | (simp; done) | (simp; omega)) (by first | exact Nat.le_refl _ | omega | (simp; done) | (simp; omega)) (by first | exact Nat.le_refl _ | omega | (simp; done) | (simp; omega)) (hq1.alloc _) (World.cell?_alloc_new _ _ _ _) ?_; intro v' w' ho2 hq2 hs2 _; have c2 := b0.qcell hq2) | (at_builtin; refine wpList_append_int rfl _ _ rfl W W.heap.size _ _ _ rfl (ho0.alloc _) ⟨_, 0, none⟩ _ _ rfl (by first | exact Nat.le_refl _ | omega | (simp; done) | (simp; omega)) (by first | exact Nat.le_refl _ | omega | (simp; done) | (simp; omega)) (by first | exact Nat.le_refl _ | omega | (simp; done) | (simp; omega)) (hq0.alloc _) (World.cell?_alloc_new _ _ _ _) ?_; intro v' w' ho1 hq1 hs1 _; have c1 := b0.qcell hq1)); go_ret)
        exact ⟨_, rfl, ho2.mono qW.size, qW.trans hq2⟩
      · rw [show needsV c n = [n - c] by unfold needsV needs1 needs2; rw [if_pos hc, if_neg hy, if_neg hx]; rfl]
        (go_enter Try.func63, Try.ntmps63; go_wp2_with (first | (at_builtin; refine wpList_append_int rfl _ _ rfl W W.heap.size _ _ _ rfl (ho2.alloc _) ⟨_, 0, none⟩ _ _ rfl (by first | exact Nat.le_refl _ | omega | (simp; done) | (simp; omega)) (by first | exact Nat.le_refl _ | omega | (simp; done) | (simp; omega)) (by first | exact Nat.le_refl _ | omega | (simp; done) | (simp; omega)) (hq2.alloc _) (World.cell?_alloc_new _ _ _ _) ?_; intro v' w' ho3 hq3 hs3 _; have c3 := b0.qcell hq3) | (at_builtin; refine wpList_append_int rfl _ _ rfl W W.heap.size _ _ _ rfl (ho1.alloc _) ⟨_, 0, none⟩ _ _ rfl (by first | exact Nat.le_refl _ | omega | (simp; done) | (simp; omega)) (by first | exact Nat.le_refl _ | omega | (simp; done) | (simp; omega)) (by first | exact Nat.le_refl _ | omega | (simp; done) | (simp; omega)) (hq1.alloc _) (World.cell?_alloc_new _ _ _ _) ?_; intro v' w' ho2 hq2 hs2 _; have c2 := b0.qcell hq2) | (at_builtin; refine wpList_append_int rfl _ _ rfl W W.heap.size _ _ _ rfl (ho0.alloc _) ⟨_, 0, none⟩ _ _ rfl (by first | exact Nat.le_refl _ | omega | (simp; done) | (simp; omega)) (by first | exact Nat.le_refl _ | omega | (simp; done) | (simp; omega)) (by first | exact Nat.le_refl _ | omega | (simp; done) | (simp; omega)) (hq0.alloc _) (World.cell?_alloc_new _ _ _ _) ?_; intro v' w' ho1 hq1 hs1 _; have c1 := b0.qcell hq1)); go_ret)
        exact ⟨_, rfl, ho1.mono qW.size, qW.trans hq1⟩
  · by_cases hx : 0 < n % c
    · rw [show needsV c n = [n - 1] by unfold needsV needs1 needs2; rw [if_neg hc, if_pos hx]; rfl]
      (go_enter Try.func63, Try.ntmps63; go_wp2_with (first | (at_builtin; refine wpList_append_int rfl _ _ rfl W W.heap.size _ _ _ rfl (ho2.alloc _) ⟨_, 0, none⟩ _ _ rfl (by first | exact Nat.le_refl _ | omega | (simp; done) | (simp; omega)) (by first | exact Nat.le_refl _ | omega | (simp; done) | (simp; omega)) (by first | exact Nat.le_refl _ | omega | (simp; done) | (simp; omega)) (hq2.alloc _) (World.cell?_alloc_new _ _ _ _) ?_; intro v' w' ho3 hq3 hs3 _; have c3 := b0.qcell hq3) | (at_builtin; refine wpList_append_int rfl _ _ rfl W W.heap.size _ _ _ rfl (ho1.alloc _) ⟨_, 0, none⟩ _ _ rfl (by first | exact Nat.le_refl _ | omega | (simp; done) | (simp; omega)) (by first | exact Nat.le_refl _ | omega | (simp; done) | (simp; omega)) (by first | exact Nat.le_refl _ | omega | (simp; done) | (simp; omega)) (hq1.alloc _) (World.cell?_alloc_new _ _ _ _) ?_; intro v' w' ho2 hq2 hs2 _; have c2 := b0.qcell hq2) | (at_builtin; refine wpList_append_int rfl _ _ rfl W W.heap.size _ _ _ rfl (ho0.alloc _) ⟨_, 0, none⟩ _ _ rfl (by first | exact Nat.le_refl _ | omega | (simp; done) | (simp; omega)) (by first | exact Nat.le_refl _ | omega | (simp; done) | (simp; omega)) (by first | exact Nat.le_refl _ | omega | (simp; done) | (simp; omega)) (hq0.alloc _) (World.cell?_alloc_new _ _ _ _) ?_; intro v' w' ho1 hq1 hs1 _; have c1 := b0.qcell hq1)); go_ret)
      exact ⟨_, rfl, ho1.mono qW.size, qW.trans hq1⟩
    · rw [show needsV c n = [] by unfold needsV needs1 needs2; rw [if_neg hc, if_neg hx]; rfl]
      (go_enter Try.func63, Try.ntmps63; go_wp2_with (first | (at_builtin; refine wpList_append_int rfl _ _ rfl W W.heap.size _ _ _ rfl (ho2.alloc _) ⟨_, 0, none⟩ _ _ rfl (by first | exact Nat.le_refl _ | omega | (simp; done) | (simp; omega)) (by first | exact Nat.le_refl _ | omega | (simp; done) | (simp; omega)) (by first | exact Nat.le_refl _ | omega | (simp; done) | (simp; omega)) (hq2.alloc _) (World.cell?_alloc_new _ _ _ _) ?_; intro v' w' ho3 hq3 hs3 _; have c3 := b0.qcell hq3) | (at_builtin; refine wpList_append_int rfl _ _ rfl W W.heap.size _ _ _ rfl (ho1.alloc _) ⟨_, 0, none⟩ _ _ rfl (by first | exact Nat.le_refl _ | omega | (simp; done) | (simp; omega)) (by first | exact Nat.le_refl _ | omega | (simp; done) | (simp; omega)) (by first | exact Nat.le_refl _ | omega | (simp; done) | (simp; omega)) (hq1.alloc _) (World.cell?_alloc_new _ _ _ _) ?_; intro v' w' ho2 hq2 hs2 _; have c2 := b0.qcell hq2) | (at_builtin; refine wpList_append_int rfl _ _ rfl W W.heap.size _ _ _ rfl (ho0.alloc _) ⟨_, 0, none⟩ _ _ rfl (by first | exact Nat.le_refl _ | omega | (simp; done) | (simp; omega)) (by first | exact Nat.le_refl _ | omega | (simp; done) | (simp; omega)) (by first | exact Nat.le_refl _ | omega | (simp; done) | (simp; omega)) (hq0.alloc _) (World.cell?_alloc_new _ _ _ _) ?_; intro v' w' ho1 hq1 hs1 _; have c1 := b0.qcell hq1)); go_ret)
      exact ⟨_, rfl, ho0.mono qW.size, qW⟩

theorem needs_le (c n : Int) : (needsV c n).length ≤ 3 := by
  unfold needsV needs1 needs2
  split <;> split <;> try split
  all_goals simp

set_option maxHeartbeats 1000000 in
theorem impl_WaveNeeds (c r n : Int) (w : World) :
    Calls Try.prog 34 #[.int .i64 c, .int .i64 r, .int .i64 n] w fun e w' => ∃ v, e = .returned v ∧ Own w' w.heap.size v (needs c r n).length (needs c r n) ∧ Q w w' := by
  by_cases hs : sizeOk c r
  · have hcr := size_le hs
    have hs' := hs
    obtain ⟨h1, h2, h3, h4⟩ := hs'
    have hd := decide_eq_true hs
    have HS := Lib.hid hs
    have HD := Lib.hid hd
    clear hs hd
    by_cases hn0 : 0 ≤ n
    · by_cases hn : n < c * r
      · rw [show needs c r n = needsV c n from if_pos ⟨HS.out, hn0, hn⟩]
        have hn' : decide (c * r ≤ n) = false := by simp; omega
        go_enter Try.func34, Try.ntmps34
        go_wp2_with (first | (go_at_call 59; refine (wave_valid _ _ _ _ HD.out).mono ?_; rintro e w' ⟨rfl, hq⟩; have hqc := hq.cell) | (go_at_call 63; refine (wave_needs _ _ _ _ h1 h2 hn0 (by omega)).mono ?_; rintro e w' ⟨v, rfl, ho, hq2⟩))
        go_ret
        exact ⟨_, rfl, ho.mono (by have := hq.size; simp at this; omega), (by repeat (first | exact Q.refl _ | assumption | refine Q.drewN ?_ _ | refine Q.drew ?_ | refine Q.alloc ?_ _ | refine Q.trans ?_ (by assumption) | refine Q.set ?_ (by first | exact Nat.le_refl _ | omega | (simp; done) | (simp; omega)) _))⟩
      · rw [show needs c r n = [] from if_neg (fun h => hn h.2.2)]
        have hn' : decide (c * r ≤ n) = true := by simp; omega
        go_enter Try.func34, Try.ntmps34
        go_wp2_with (first | (go_at_call 59; refine (wave_valid _ _ _ _ HD.out).mono ?_; rintro e w' ⟨rfl, hq⟩; have hqc := hq.cell))
        go_ret
        exact ⟨_, rfl, Own.nil _ _, (by repeat (first | exact Q.refl _ | assumption | refine Q.drewN ?_ _ | refine Q.drew ?_ | refine Q.alloc ?_ _ | refine Q.trans ?_ (by assumption) | refine Q.set ?_ (by first | exact Nat.le_refl _ | omega | (simp; done) | (simp; omega)) _))⟩
    · rw [show needs c r n = [] from if_neg (fun h => hn0 h.2.1)]
      have hn' : n < 0 := by omega
      clear hn0
      go_enter Try.func34, Try.ntmps34
      go_wp2_with (first | (go_at_call 59; refine (wave_valid _ _ _ _ HD.out).mono ?_; rintro e w' ⟨rfl, hq⟩; have hqc := hq.cell))
      go_ret
      exact ⟨_, rfl, Own.nil _ _, (by repeat (first | exact Q.refl _ | assumption | refine Q.drewN ?_ _ | refine Q.drew ?_ | refine Q.alloc ?_ _ | refine Q.trans ?_ (by assumption) | refine Q.set ?_ (by first | exact Nat.le_refl _ | omega | (simp; done) | (simp; omega)) _))⟩
  · rw [show needs c r n = [] from if_neg (fun h => hs h.1)]
    have hd := decide_eq_false hs
    have HD := Lib.hid hd
    clear hs hd
    go_enter Try.func34, Try.ntmps34
    go_wp2_with (first | (go_at_call 59; refine (wave_valid _ _ _ _ HD.out).mono ?_; rintro e w' ⟨rfl, hq⟩; have hqc := hq.cell))
    go_ret
    exact ⟨_, rfl, Own.nil _ _, (by repeat (first | exact Q.refl _ | assumption | refine Q.drewN ?_ _ | refine Q.drew ?_ | refine Q.alloc ?_ _ | refine Q.trans ?_ (by assumption) | refine Q.set ?_ (by first | exact Nat.le_refl _ | omega | (simp; done) | (simp; omega)) _))⟩
end Go.Proofs.Ytnmegieibcmhcaa
