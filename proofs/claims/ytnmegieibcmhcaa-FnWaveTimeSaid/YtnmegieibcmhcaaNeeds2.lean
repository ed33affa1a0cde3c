/-
  The reference's WaveNeeds; and the law.
-/
import Derived.Test.YtnmegieibcmhcaaNeeds
namespace Go.Proofs.Ytnmegieibcmhcaa
open Go.RowKit

set_option maxHeartbeats 2000000 in
theorem spec_WaveNeeds (c r n : Int) (w : World) :
    Calls Try.prog 36 #[.int .i64 c, .int .i64 r, .int .i64 n] w fun e w' => ∃ v, e = .returned v ∧ Own w' w.heap.size v (needs c r n).length (needs c r n) ∧ Q w w' := by
  have hlit := Own.lit0 w w.heap.size (Nat.le_refl _)
  by_cases hs : sizeOk c r
  · have hcr := size_le hs
    have hs' := hs
    obtain ⟨h1, h2, h3, h4⟩ := hs'
    by_cases hn : 0 ≤ n ∧ n < c * r
    · rw [show needs c r n = needsV c n from if_pos ⟨hs, hn⟩]
      have HS := Lib.hid hs
      obtain ⟨h5, h6⟩ := hn
      have hm : n % c < c := Int.emod_lt_of_pos _ (by omega)
      have hm0 : 0 ≤ n % c := Int.emod_nonneg _ (by omega)
      clear hs hlit
      obtain ⟨W, hW⟩ : ∃ W, w.alloc (.cells #[] 3) = W := ⟨_, rfl⟩
      have hq0 : Q w W := by rw [← hW]; exact (by repeat (first | exact Q.refl _ | assumption | refine Q.drewN ?_ _ | refine Q.drew ?_ | refine Q.alloc ?_ _ | refine Q.trans ?_ (by assumption) | refine Q.set ?_ (by first | exact Nat.le_refl _ | omega | (simp; done) | (simp; omega)) _))
      have hs0 : w.heap.size ≤ W.heap.size := hq0.size
      have ho0 : Own W w.heap.size (.slice (some ⟨w.heap.size, 0, none⟩) 0 0) 0 [] := by rw [← hW]; exact Own.lit0 w _ (Nat.le_refl _)
      by_cases hc : c ≤ n
      · by_cases hy : n % c < c - 1
        · by_cases hx : 0 < n % c
          · rw [show needsV c n = [n - c, n - c + 1, n - 1] by unfold needsV needs1 needs2; rw [if_pos hc, if_pos hy, if_pos hx]; rfl]
            (go_enter Try.func36, Try.ntmps36; go_wp2_with (first | (go_at_call 58; refine (l23Ok_tt _ _ _ HS.out).mono ?_; rintro e w' ⟨rfl, rfl⟩) | (go_at_call 54; refine (l1In_tt _ _ _ _ h5 (by omega)).mono ?_; rintro e w' ⟨rfl, rfl⟩) | (at_builtin; refine wpList_append_int rfl _ _ rfl w w.heap.size _ _ _ rfl (ho2.alloc _) ⟨_, 0, none⟩ _ _ rfl (by first | exact Nat.le_refl _ | omega | (simp; done) | (simp; omega)) (by first | exact Nat.le_refl _ | omega | (simp; done) | (simp; omega)) (by first | exact Nat.le_refl _ | omega | (simp; done) | (simp; omega)) (hq2.alloc _) (World.cell?_alloc_new _ _ _ _) ?_; intro v' w' ho3 hq3 hs3 _; skip) | (at_builtin; refine wpList_append_int rfl _ _ rfl w w.heap.size _ _ _ rfl (ho1.alloc _) ⟨_, 0, none⟩ _ _ rfl (by first | exact Nat.le_refl _ | omega | (simp; done) | (simp; omega)) (by first | exact Nat.le_refl _ | omega | (simp; done) | (simp; omega)) (by first | exact Nat.le_refl _ | omega | (simp; done) | (simp; omega)) (hq1.alloc _) (World.cell?_alloc_new _ _ _ _) ?_; intro v' w' ho2 hq2 hs2 _; skip) | (at_builtin; refine wpList_append_int rfl _ _ rfl w w.heap.size _ _ _ rfl (ho0.alloc _) ⟨_, 0, none⟩ _ _ rfl (by first | exact Nat.le_refl _ | omega | (simp; done) | (simp; omega)) (by first | exact Nat.le_refl _ | omega | (simp; done) | (simp; omega)) (by first | exact Nat.le_refl _ | omega | (simp; done) | (simp; omega)) (hq0.alloc _) (World.cell?_alloc_new _ _ _ _) ?_; intro v' w' ho1 hq1 hs1 _; skip)); go_ret)
            exact ⟨_, rfl, ho3, hq3⟩
          · rw [show needsV c n = [n - c, n - c + 1] by unfold needsV needs1 needs2; rw [if_pos hc, if_pos hy, if_neg hx]; rfl]
            (go_enter Try.func36, Try.ntmps36; go_wp2_with (first | (go_at_call 58; refine (l23Ok_tt _ _ _ HS.out).mono ?_; rintro e w' ⟨rfl, rfl⟩) | (go_at_call 54; refine (l1In_tt _ _ _ _ h5 (by omega)).mono ?_; rintro e w' ⟨rfl, rfl⟩) | (at_builtin; refine wpList_append_int rfl _ _ rfl w w.heap.size _ _ _ rfl (ho2.alloc _) ⟨_, 0, none⟩ _ _ rfl (by first | exact Nat.le_refl _ | omega | (simp; done) | (simp; omega)) (by first | exact Nat.le_refl _ | omega | (simp; done) | (simp; omega)) (by first | exact Nat.le_refl _ | omega | (simp; done) | (simp; omega)) (hq2.alloc _) (World.cell?_alloc_new _ _ _ _) ?_; intro v' w' ho3 hq3 hs3 _; skip) | (at_builtin; refine wpList_append_int rfl _ _ rfl w w.heap.size _ _ _ rfl (ho1.alloc _) ⟨_, 0, none⟩ _ _ rfl (by first | exact Nat.le_refl _ | omega | (simp; done) | (simp; omega)) (by first | exact Nat.le_refl _ | omega | (simp; done) | (simp; omega)) (by first | exact Nat.le_refl _ | omega | (simp; done) | (simp; omega)) (hq1.alloc _) (World.cell?_alloc_new _ _ _ _) ?_; intro v' w' ho2 hq2 hs2 _; skip) | (at_builtin; refine wpList_append_int rfl _ _ rfl w w.heap.size _ _ _ rfl (ho0.alloc _) ⟨_, 0, none⟩ _ _ rfl (by first | exact Nat.le_refl _ | omega | (simp; done) | (simp; omega)) (by first | exact Nat.le_refl _ | omega | (simp; done) | (simp; omega)) (by first | exact Nat.le_refl _ | omega | (simp; done) | (simp; omega)) (hq0.alloc _) (World.cell?_alloc_new _ _ _ _) ?_; intro v' w' ho1 hq1 hs1 _; skip)); go_ret)
            exact ⟨_, rfl, ho2, hq2⟩
        · by_cases hx : 0 < n % c
          · rw [show needsV c n = [n - c, n - 1] by unfold needsV needs1 needs2; rw [if_pos hc, if_neg hy, if_pos hx]; rfl]
            (go_enter Try.func36, Try.ntmps36; go_wp2_with (first | (go_at_call 58; refine (l23Ok_tt _ _ _ HS.out).mono ?_; rintro e w' ⟨rfl, rfl⟩) | (go_at_call 54; refine (l1In_tt _ _ _ _ h5 (by omega)).mono ?_; rintro e w' ⟨rfl, rfl⟩) | (at_builtin; refine wpList_append_int rfl _ _ rfl w w.heap.size _ _ _ rfl (ho2.alloc _) ⟨_, 0, none⟩ _ _ rfl (by first | exact Nat.le_refl _ | omega | (simp; done) | (simp; omega)) (by first | exact Nat.le_refl _ | omega | (simp; done) | (simp; omega)) (by first | exact Nat.le_refl _ | omega | (simp; done) | (simp; omega)) (hq2.alloc _) (World.cell?_alloc_new _ _ _ _) ?_; intro v' w' ho3 hq3 hs3 _; skip) | (at_builtin; refine wpList_append_int rfl _ _ rfl w w.heap.size _ _ _ rfl (ho1.alloc _) ⟨_, 0, none⟩ _ _ rfl (by first | exact Nat.le_refl _ | omega | (simp; done) | (simp; omega)) (by first | exact Nat.le_refl _ | omega | (simp; done) | (simp; omega)) (by first | exact Nat.le_refl _ | omega | (simp; done) | (simp; omega)) (hq1.alloc _) (World.cell?_alloc_new _ _ _ _) ?_; intro v' w' ho2 hq2 hs2 _; skip) | (at_builtin; refine wpList_append_int rfl _ _ rfl w w.heap.size _ _ _ rfl (ho0.alloc _) ⟨_, 0, none⟩ _ _ rfl (by first | exact Nat.le_refl _ | omega | (simp; done) | (simp; omega)) (by first | exact Nat.le_refl _ | omega | (simp; done) | (simp; omega)) (by first | exact Nat.le_refl _ | omega | (simp; done) | (simp; omega)) (hq0.alloc _) (World.cell?_alloc_new _ _ _ _) ?_; intro v' w' ho1 hq1 hs1 _; skip)); go_ret)
            exact ⟨_, rfl, ho2, hq2⟩
          · rw [show needsV c n = [n - c] by unfold needsV needs1 needs2; rw [if_pos hc, if_neg hy, if_neg hx]; rfl]
            (go_enter Try.func36, Try.ntmps36; go_wp2_with (first | (go_at_call 58; refine (l23Ok_tt _ _ _ HS.out).mono ?_; rintro e w' ⟨rfl, rfl⟩) | (go_at_call 54; refine (l1In_tt _ _ _ _ h5 (by omega)).mono ?_; rintro e w' ⟨rfl, rfl⟩) | (at_builtin; refine wpList_append_int rfl _ _ rfl w w.heap.size _ _ _ rfl (ho2.alloc _) ⟨_, 0, none⟩ _ _ rfl (by first | exact Nat.le_refl _ | omega | (simp; done) | (simp; omega)) (by first | exact Nat.le_refl _ | omega | (simp; done) | (simp; omega)) (by first | exact Nat.le_refl _ | omega | (simp; done) | (simp; omega)) (hq2.alloc _) (World.cell?_alloc_new _ _ _ _) ?_; intro v' w' ho3 hq3 hs3 _; skip) | (at_builtin; refine wpList_append_int rfl _ _ rfl w w.heap.size _ _ _ rfl (ho1.alloc _) ⟨_, 0, none⟩ _ _ rfl (by first | exact Nat.le_refl _ | omega | (simp; done) | (simp; omega)) (by first | exact Nat.le_refl _ | omega | (simp; done) | (simp; omega)) (by first | exact Nat.le_refl _ | omega | (simp; done) | (simp; omega)) (hq1.alloc _) (World.cell?_alloc_new _ _ _ _) ?_; intro v' w' ho2 hq2 hs2 _; skip) | (at_builtin; refine wpList_append_int rfl _ _ rfl w w.heap.size _ _ _ rfl (ho0.alloc _) ⟨_, 0, none⟩ _ _ rfl (by first | exact Nat.le_refl _ | omega | (simp; done) | (simp; omega)) (by first | exact Nat.le_refl _ | omega | (simp; done) | (simp; omega)) (by first | exact Nat.le_refl _ | omega | (simp; done) | (simp; omega)) (hq0.alloc _) (World.cell?_alloc_new _ _ _ _) ?_; intro v' w' ho1 hq1 hs1 _; skip)); go_ret)
            exact ⟨_, rfl, ho1, hq1⟩
      · by_cases hx : 0 < n % c
        · rw [show needsV c n = [n - 1] by unfold needsV needs1 needs2; rw [if_neg hc, if_pos hx]; rfl]
          (go_enter Try.func36, Try.ntmps36; go_wp2_with (first | (go_at_call 58; refine (l23Ok_tt _ _ _ HS.out).mono ?_; rintro e w' ⟨rfl, rfl⟩) | (go_at_call 54; refine (l1In_tt _ _ _ _ h5 (by omega)).mono ?_; rintro e w' ⟨rfl, rfl⟩) | (at_builtin; refine wpList_append_int rfl _ _ rfl w w.heap.size _ _ _ rfl (ho2.alloc _) ⟨_, 0, none⟩ _ _ rfl (by first | exact Nat.le_refl _ | omega | (simp; done) | (simp; omega)) (by first | exact Nat.le_refl _ | omega | (simp; done) | (simp; omega)) (by first | exact Nat.le_refl _ | omega | (simp; done) | (simp; omega)) (hq2.alloc _) (World.cell?_alloc_new _ _ _ _) ?_; intro v' w' ho3 hq3 hs3 _; skip) | (at_builtin; refine wpList_append_int rfl _ _ rfl w w.heap.size _ _ _ rfl (ho1.alloc _) ⟨_, 0, none⟩ _ _ rfl (by first | exact Nat.le_refl _ | omega | (simp; done) | (simp; omega)) (by first | exact Nat.le_refl _ | omega | (simp; done) | (simp; omega)) (by first | exact Nat.le_refl _ | omega | (simp; done) | (simp; omega)) (hq1.alloc _) (World.cell?_alloc_new _ _ _ _) ?_; intro v' w' ho2 hq2 hs2 _; skip) | (at_builtin; refine wpList_append_int rfl _ _ rfl w w.heap.size _ _ _ rfl (ho0.alloc _) ⟨_, 0, none⟩ _ _ rfl (by first | exact Nat.le_refl _ | omega | (simp; done) | (simp; omega)) (by first | exact Nat.le_refl _ | omega | (simp; done) | (simp; omega)) (by first | exact Nat.le_refl _ | omega | (simp; done) | (simp; omega)) (hq0.alloc _) (World.cell?_alloc_new _ _ _ _) ?_; intro v' w' ho1 hq1 hs1 _; skip)); go_ret)
          exact ⟨_, rfl, ho1, hq1⟩
        · rw [show needsV c n = [] by unfold needsV needs1 needs2; rw [if_neg hc, if_neg hx]; rfl]
          (go_enter Try.func36, Try.ntmps36; go_wp2_with (first | (go_at_call 58; refine (l23Ok_tt _ _ _ HS.out).mono ?_; rintro e w' ⟨rfl, rfl⟩) | (go_at_call 54; refine (l1In_tt _ _ _ _ h5 (by omega)).mono ?_; rintro e w' ⟨rfl, rfl⟩) | (at_builtin; refine wpList_append_int rfl _ _ rfl w w.heap.size _ _ _ rfl (ho2.alloc _) ⟨_, 0, none⟩ _ _ rfl (by first | exact Nat.le_refl _ | omega | (simp; done) | (simp; omega)) (by first | exact Nat.le_refl _ | omega | (simp; done) | (simp; omega)) (by first | exact Nat.le_refl _ | omega | (simp; done) | (simp; omega)) (hq2.alloc _) (World.cell?_alloc_new _ _ _ _) ?_; intro v' w' ho3 hq3 hs3 _; skip) | (at_builtin; refine wpList_append_int rfl _ _ rfl w w.heap.size _ _ _ rfl (ho1.alloc _) ⟨_, 0, none⟩ _ _ rfl (by first | exact Nat.le_refl _ | omega | (simp; done) | (simp; omega)) (by first | exact Nat.le_refl _ | omega | (simp; done) | (simp; omega)) (by first | exact Nat.le_refl _ | omega | (simp; done) | (simp; omega)) (hq1.alloc _) (World.cell?_alloc_new _ _ _ _) ?_; intro v' w' ho2 hq2 hs2 _; skip) | (at_builtin; refine wpList_append_int rfl _ _ rfl w w.heap.size _ _ _ rfl (ho0.alloc _) ⟨_, 0, none⟩ _ _ rfl (by first | exact Nat.le_refl _ | omega | (simp; done) | (simp; omega)) (by first | exact Nat.le_refl _ | omega | (simp; done) | (simp; omega)) (by first | exact Nat.le_refl _ | omega | (simp; done) | (simp; omega)) (hq0.alloc _) (World.cell?_alloc_new _ _ _ _) ?_; intro v' w' ho1 hq1 hs1 _; skip)); go_ret)
          exact ⟨_, rfl, ho0, hq0⟩
    · rw [show needs c r n = [] from if_neg (fun h => hn h.2)]
      have hn' : n < 0 ∨ c * r - 1 < n := by omega
      have HS := Lib.hid hs
      have hlit' := Lib.hid hlit
      clear hs hlit hn
      go_enter Try.func36, Try.ntmps36
      go_wp2_with (first | (go_at_call 58; refine (l23Ok_tt _ _ _ HS.out).mono ?_; rintro e w' ⟨rfl, rfl⟩) | (go_at_call 54; refine (l1In_ff _ _ _ _ hn').mono ?_; rintro e w' ⟨rfl, rfl⟩))
      go_ret
      exact ⟨_, rfl, hlit'.out, (by repeat (first | exact Q.refl _ | assumption | refine Q.drewN ?_ _ | refine Q.drew ?_ | refine Q.alloc ?_ _ | refine Q.trans ?_ (by assumption) | refine Q.set ?_ (by first | exact Nat.le_refl _ | omega | (simp; done) | (simp; omega)) _))⟩
  · rw [show needs c r n = [] from if_neg (fun h => hs h.1)]
    have HS := Lib.hid hs
    have hlit' := Lib.hid hlit
    clear hs hlit
    go_enter Try.func36, Try.ntmps36
    go_wp2_with (first | (go_at_call 58; refine (l23Ok_ff _ _ _ HS.out).mono ?_; rintro e w' ⟨rfl, rfl⟩))
    go_ret
    exact ⟨_, rfl, hlit'.out, (by repeat (first | exact Q.refl _ | assumption | refine Q.drewN ?_ _ | refine Q.drew ?_ | refine Q.alloc ?_ _ | refine Q.trans ?_ (by assumption) | refine Q.set ?_ (by first | exact Nat.le_refl _ | omega | (simp; done) | (simp; omega)) _))⟩
end Go.Proofs.Ytnmegieibcmhcaa
