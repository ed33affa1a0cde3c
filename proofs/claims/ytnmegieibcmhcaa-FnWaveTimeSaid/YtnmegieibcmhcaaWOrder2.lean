/-
  The reference's WaveOrder: the same list.
-/
import Derived.Test.YtnmegieibcmhcaaWOrder
import Derived.Test.YtnmegieibcmhcaaNeeds2
namespace Go.Proofs.Ytnmegieibcmhcaa
open Go.RowKit

/-- of the first k macroblocks those with the step s -/
def rowS (c s : Int) : Nat → List Int
  | 0 => []
  | k + 1 => rowS c s k ++ (if stepVal c k = s then [(k : Int)] else [])
def allS (c : Int) (N : Nat) : Nat → List Int
  | 0 => []
  | s + 1 => allS c N s ++ rowS c s N
theorem rowS_le (c s : Int) (k : Nat) : (rowS c s k).length ≤ k := by
  induction k with
  | zero => simp [rowS]
  | succ k ih => rw [rowS, List.length_append]; split <;> simp <;> omega
theorem allS_le (c : Int) (N s : Nat) (h : N ≤ 16) : (allS c N s).length ≤ 16 * s := by
  induction s with
  | zero => simp [allS]
  | succ s ih => rw [allS, List.length_append]; have := rowS_le c s N; omega
theorem order_fin : ∀ c : Fin 5, ∀ r : Fin 5, 1 ≤ c.1 → 1 ≤ r.1 → insSort (stepVal c.1) (upFrom 0 (c.1 * r.1)) = allS c.1 (c.1 * r.1) (2 * r.1 + c.1) := by decide +kernel
theorem order_all {c r : Nat} (h : sizeOk c r) : waveOrder c r = allS c (c * r) (2 * r + c) := by
  unfold waveOrder
  rw [if_pos h]
  obtain ⟨h1, h2, h3, h4⟩ := h
  have e : ((c : Int) * (r : Int)).toNat = c * r := by rw [← Int.natCast_mul]; exact Int.toNat_natCast _
  rw [e]
  exact order_fin ⟨c, by omega⟩ ⟨r, by omega⟩ (by show 1 ≤ c; omega) (by show 1 ≤ r; omega)

set_option maxRecDepth 100000 in
set_option maxHeartbeats 2000000 in
theorem spec_WaveOrder_ok (c r N : Nat) (w : World) (hs : sizeOk c r) (hN : (c : Int) * (r : Int) = N) (hN16 : N ≤ 16) :
    Calls Try.prog 41 #[.int .i64 c, .int .i64 r] w fun e w' => ∃ v, e = .returned v ∧ Own w' w.heap.size v (allS c N (2 * r + c)).length (allS c N (2 * r + c)) ∧ Q w w' := by
  have hs' := hs
  obtain ⟨h1, h2, h3, h4⟩ := hs'
  have HS := Lib.hid hs
  have HN := Lib.hid hN
  have hcr : (c : Int) * (r : Int) ≤ 16 := by omega
  have hcr0 : 0 ≤ (c : Int) * (r : Int) := by omega
  have ho := Own.lit0 w w.heap.size (Nat.le_refl _)
  have hq := (Q.refl w).alloc (.cells #[] 3)
  have HO := Lib.hid ho
  have HQ := Lib.hid hq
  clear hs hN ho hq
  go_enter Try.func41, Try.ntmps41
  go_wp2_with fail
  refine (l23Ok_tt _ _ _ HS.out).mono ?_; rintro e w' ⟨rfl, rfl⟩
  go_wp2_with fail
  go_loopw [5, 6] (fun v i wr => ∃ s : Nat, s ≤ 2 * r + c ∧ i = .int .i64 s ∧ Own wr w.heap.size v (allS c N s).length (allS c N s) ∧ Q w wr) (fun _ i _ => 2 * r + c - (intOf i).toNat)
  case atStart => exact ⟨0, Nat.zero_le _, rfl, HO.out, HQ.out⟩
  case round =>
    obtain ⟨s, hss, rfl, ho1, hq1⟩ := hrel
    clear HO HQ
    obtain ⟨wo, rfl⟩ : ∃ wo : World, wo = wr := ⟨_, rfl⟩
    by_cases hlt : s < 2 * r + c
    · have hlt' : decide ((s : Int) < 2 * (r : Int) + (c : Int)) = true := by simp; omega
      have hal := allS_le c N s hN16
      have O1 := Lib.hid ho1
      have Q1 := Lib.hid hq1
      clear ho1 hq1
      go_wp2_with fail
      go_loopw [5, 7] (fun v i wr => ∃ (k j : Nat) (xs : List Int), k ≤ N ∧ i = .int .i64 k ∧ j ≤ 1000 ∧ Own wr w.heap.size v j xs ∧ Hid (xs = allS c N s ++ rowS c s k) ∧ Q w wr) (fun _ i _ => N - (intOf i).toNat)
      case atStart => exact ⟨0, _, _, Nat.zero_le _, rfl, by omega, O1.out, by simp [Hid, rowS], Q1.out⟩
      case round =>
        obtain ⟨k, j, xs, hk, rfl, hj, ho2, hx2, hq2⟩ := hrel
        clear O1 Q1
        have hs2 := hq2.size
        by_cases hlk : k < N
        · have hlk' : (k : Int) < (c : Int) * (r : Int) := by rw [HN.out]; omega
          have hrl := rowS_le c s (k + 1)
          have hj' : xs.length = j := ho2.len
          have hjl : j ≤ 16 * s + k := by
            rw [← hj', hx2.out, List.length_append]
            have := rowS_le c s k
            omega
          have hws : waveStep c r k = stepVal c k := if_pos ⟨HS.out, by omega, hlk'⟩
          have hrow : rowS c s (k + 1) = rowS c s k ++ (if stepVal c k = s then [(k : Int)] else []) := rfl
          have HWS := Lib.hid hws
          have HROW := Lib.hid hrow
          have HJ := Lib.hid hj'
          clear hws hrow hj'
          generalize stepVal c k = x at HWS HROW
          by_cases hx : x = s
          · subst hx
            rw [if_pos rfl] at HROW
            go_wp2_with fail
            refine (spec_WaveStep _ _ _ _).mono ?_; rw [HWS.out]; rintro e w3 ⟨rfl, k3, rfl⟩
            have o3 := ho2.drewN k3
            have q3 := hq2.drewN k3
            have hs3 := q3.size
            generalize wr.drewN k3 = w3 at o3 q3 hs3 ⊢
            clear ho2 hq2 hs2
            go_wp2_with (at_builtin; refine wpList_append_int rfl _ _ rfl w w.heap.size _ _ _ rfl (o3.alloc _) ⟨_, 0, none⟩ _ _ rfl (by omega) (Nat.le_refl _) (by rw [World.size_alloc]; omega) (q3.alloc _) (World.cell?_alloc_new _ _ _ _) ?_; intro v' w4 o4 q4 s4 _)
            go_roundw
            case rel => exact ⟨k + 1, j + 1, _, by omega, by go_num, by omega, o4, by rw [Hid, HROW.out, hx2.out, List.append_assoc], q4⟩
            case measure => simp [intOf]; omega
          · rw [if_neg hx, List.append_nil] at HROW
            have hx' : (x == (s : Int)) = false := by rw [beq_eq_false_iff_ne]; exact hx
            clear hx
            go_wp2_with fail
            refine (spec_WaveStep _ _ _ _).mono ?_; rw [HWS.out]; rintro e w3 ⟨rfl, k3, rfl⟩
            have o3 := ho2.drewN k3
            have q3 := hq2.drewN k3
            generalize wr.drewN k3 = w3 at o3 q3 ⊢
            clear ho2 hq2 hs2
            go_wp2_with fail
            go_roundw
            case rel => exact ⟨k + 1, j, _, by omega, by go_num, by omega, o3, by rw [Hid, HROW.out, hx2.out], q3⟩
            case measure => simp [intOf]; omega
        · have hkN : k = N := by omega
          subst hkN
          have hge : decide ((k : Int) < (c : Int) * (r : Int)) = false := by rw [HN.out]; simp
          go_wp2_with fail
          go_roundw
          case rel =>
            have e : allS c k (s + 1) = xs := hx2.out.symm
            exact ⟨s + 1, by omega, by go_num, by rw [e, ho2.len]; exact ho2, hq2⟩
          case measure => simp [intOf]; omega
    · have hse : s = 2 * r + c := by omega
      subst hse
      have hlt' : decide (((2 * r + c : Nat) : Int) < 2 * (r : Int) + (c : Int)) = false := by simp
      go_wp2_with fail
      go_ret
      exact ⟨_, rfl, ho1, hq1⟩

theorem spec_WaveOrder (c r : Int) (w : World) :
    Calls Try.prog 41 #[.int .i64 c, .int .i64 r] w fun e w' => ∃ v, e = .returned v ∧ Own w' w.heap.size v (waveOrder c r).length (waveOrder c r) ∧ Q w w' := by
  by_cases hs : sizeOk c r
  · have hcr := size_le hs
    have hs' := hs
    obtain ⟨h1, h2, h3, h4⟩ := hs'
    obtain ⟨c, rfl⟩ := Int.eq_ofNat_of_zero_le (show 0 ≤ c by omega)
    obtain ⟨r, rfl⟩ := Int.eq_ofNat_of_zero_le (show 0 ≤ r by omega)
    rw [order_all hs]
    exact spec_WaveOrder_ok c r (c * r) w hs (by simp) (by have := hcr.2; rw [← Int.natCast_mul] at this; omega)
  · rw [show waveOrder c r = [] from if_neg hs]
    have HS := Lib.hid hs
    have ho := Own.lit0 w w.heap.size (Nat.le_refl _)
    have HO := Lib.hid ho
    clear hs ho
    go_enter Try.func41, Try.ntmps41
    go_wp2_with fail
    refine (l23Ok_ff _ _ _ HS.out).mono ?_; rintro e w' ⟨rfl, rfl⟩
    go_wp2_with fail
    go_ret
    exact ⟨_, rfl, HO.out, (Q.refl _).alloc _⟩
end Go.Proofs.Ytnmegieibcmhcaa
