/-
  Plain laws of levels: the least error, the error of samples, the two layers.
-/
import Derived.Test.YtkdmhlbmhjolcaaDoorQMath
namespace Go.Proofs.YtkdmhlbmhjolcaaDoor
open Go.RowKit

theorem step_pos {n : Nat} (h : n < 16) : 1 ≤ step n := (step_in n h).1
theorem inB_codeL {b : List Int} (hb : inB b 255 = true) {n : Nat} (hn : n < 16) : inB (codeL b n) 4080 = true := by
  have hq : qB n = true := decide_eq_true (by omega)
  unfold codeL
  rw [hb, hq]
  exact inB_tab _ _ fun k hk => codeC_in hb n k hn hk
theorem codeL_at {b : List Int} (hb : inB b 255 = true) {n : Nat} (hn : n < 16) (k : Nat) (hk : k < 16) : (codeL b n)[k]?.getD 0 = codeC b (step n) k := by
  have hq : qB n = true := decide_eq_true (by omega)
  unfold codeL
  rw [hb, hq]
  exact tab_get _ _ _ hk
theorem coefE_sum {b ls : List Int} (hb : inB b 255 = true) (hl : inB ls 4080 = true) {n : Nat} (hn : n < 16) : coefE b ls n = sumN (errS b ls (step n)) 16 := by
  have hq : qB n = true := decide_eq_true (by omega)
  unfold coefE
  rw [hb, hl, hq]
  rfl
theorem errD_code {b : List Int} (hb : inB b 255 = true) {n : Nat} (hn : n < 16) (k : Nat) (hk : k < 16) : errD b (codeL b n) (step n) k = hadF b k - deqV (quantV (hadF b k) (step n)) (step n) := by
  unfold errD
  rw [codeL_at hb hn k hk]
  rfl
theorem coef_pos {b ls : List Int} (hb : inB b 255 = true) (hl : inB ls 4080 = true) {n : Nat} (hn : n < 16) : 0 ≤ coefE b ls n ∧ coefE b ls n ≤ 1065369600 := by
  rw [coefE_sum hb hl hn]
  exact sumN_pos _ 66585600 (fun j hj => errS_in hb ls _ j hj) 16 (Nat.le_refl _)
theorem coef_neg {b ls : List Int} {q : Int} (h : (inB b 255 && inB ls 4080 && qB q) = false) : coefE b ls q = -1 := by
  unfold coefE
  rw [h]
  rfl
/-- The error of the coder's levels is at most that of others that are not moved. -/
theorem best_le {b ls : List Int} (hb : inB b 255 = true) (hl : inB ls 4080 = true) {n : Nat} (hn : n < 16) (hm : ∀ k, k < 16 → -4080 ≤ ls[k]?.getD 0 * step n ∧ ls[k]?.getD 0 * step n ≤ 4080) :
    coefE b (codeL b n) n ≤ coefE b ls n := by
  rw [coefE_sum hb (inB_codeL hb hn) hn, coefE_sum hb hl hn]
  refine sumN_le _ _ _ fun k hk => ?_
  unfold errS
  rw [errD_code hb hn k hk]
  obtain ⟨h1, h2⟩ := hadF_in hb k hk
  exact deq_best h1 h2 (step_pos hn) (hm k hk).1 (hm k hk).2
theorem best_small {b : List Int} (hb : inB b 255 = true) {n : Nat} (hn : n < 16) : coefE b (codeL b n) n ≤ 4 * step n * step n := by
  rw [coefE_sum hb (inB_codeL hb hn) hn]
  have h : ∀ k, k < 16 → 4 * errS b (codeL b n) (step n) k ≤ step n * step n := fun k hk => by
    unfold errS
    rw [errD_code hb hn k hk]
    obtain ⟨h1, h2⟩ := hadF_in hb k hk
    obtain ⟨a, c⟩ := deq_near h1 h2 (step_pos hn)
    exact sq_of_near a c
  have := sumN_le _ _ _ h
  rw [sumN_mul, sumN_const] at this
  have e : 4 * step n * step n = 4 * (step n * step n) := by rw [Int.mul_assoc]
  omega
theorem quant_one (c : Int) : quantV c 1 = c := by
  unfold quantV
  split <;> omega
theorem step_zero : step 0 = 1 := rfl
theorem best_zero {b : List Int} (hb : inB b 255 = true) : coefE b (codeL b 0) 0 = 0 := by
  have e : coefE b (codeL b 0) 0 = sumN (errS b (codeL b 0) (step 0)) 16 := coefE_sum hb (inB_codeL hb (n := 0) (by omega)) (n := 0) (by omega)
  rw [e, sumN_congr _ (fun _ => 0) 16 (fun k hk => ?_), sumN_const]
  · rfl
  · unfold errS
    rw [show errD b (codeL b 0) (step 0) k = 0 from ?_]
    · rfl
    · have := errD_code hb (n := 0) (by omega) k hk
      rw [show ((0 : Nat) : Int) = 0 from rfl] at this
      rw [this, step_zero, quant_one]
      obtain ⟨h1, h2⟩ := hadF_in hb k hk
      unfold deqV
      rw [Int.mul_one, cl_same h1 h2, Int.sub_self]
/-- The error of samples is at most that of coefficients divided by eight, plus sixteen. -/
theorem ladder {b : List Int} (hbl : b.length = 16) (hb : inB b 255 = true) {n : Nat} (hn : n < 16) :
    sumN (fun k => ((decL (codeL b n) n)[k]?.getD 0 - b[k]?.getD 0) * ((decL (codeL b n) n)[k]?.getD 0 - b[k]?.getD 0)) 16 ≤ coefE b (codeL b n) n / 8 + 16 := by
  have hq : qB n = true := decide_eq_true (by omega)
  have hil := inB_codeL hb hn
  obtain ⟨d, hd⟩ : ∃ d, d = errD b (codeL b n) (step n) := ⟨_, rfl⟩
  have hD : tab (decC (codeL b n) (step n)) 16 = tab (fun j => (hadL b)[j]?.getD 0 - (tab d 16)[j]?.getD 0) 16 := by
    refine tab_eq fun k hk => ?_
    unfold hadL
    rw [tab_get _ _ _ hk, tab_get _ _ _ hk, hd]
    unfold errD decC
    omega
  have hx : decL (codeL b n) n = invL (tab (decC (codeL b n) (step n)) 16) := by
    unfold decL
    rw [hil, hq]
    rfl
  have h2 := had_twice b hbl
  have hy : ∀ k, k < 16 → (decL (codeL b n) n)[k]?.getD 0 = (16 * b[k]?.getD 0 - hadF (tab d 16) k + 8) / 16 := fun k hk => by
    rw [hx, hD]
    unfold invL
    rw [tab_get _ _ _ hk]
    unfold hadL
    rw [tab_get _ _ _ hk, hadF_sub]
    have e1 : hadF (tab (fun j => (tab (hadF b) 16)[j]?.getD 0) 16) k = 16 * b[k]?.getD 0 := by
      rw [show tab (fun j => (tab (hadF b) 16)[j]?.getD 0) 16 = hadL b from tab16 _ (length_tab _ _)]
      have : (hadL (hadL b))[k]?.getD 0 = (b.map (16 * ·))[k]?.getD 0 := by rw [h2]
      unfold hadL at this ⊢
      rw [tab_get _ _ _ hk, List.getElem?_map] at this
      rw [this]
      cases hz : b[k]? with
      | none => rw [List.getElem?_eq_none_iff] at hz; omega
      | some z => simp
    have e2 : tab (fun j => (tab d 16)[j]?.getD 0) 16 = tab d 16 := tab16 _ (length_tab _ _)
    rw [e1, e2]
  have hs := had_sqs (tab d 16) (length_tab _ _)
  have ht : sqs (tab d 16) = coefE b (codeL b n) n := by
    rw [coefE_sum hb hil hn]
    unfold sqs
    refine sumN_congr _ _ _ fun k hk => ?_
    rw [tab_get _ _ _ hk, hd]
    rfl
  have hu : sqs (hadL (tab d 16)) = sumN (fun k => hadF (tab d 16) k * hadF (tab d 16) k) 16 := by
    unfold sqs hadL
    exact sumN_congr _ _ _ fun k hk => by rw [tab_get _ _ _ hk]
  have hle : ∀ k, k < 16 → 128 * (((decL (codeL b n) n)[k]?.getD 0 - b[k]?.getD 0) * ((decL (codeL b n) n)[k]?.getD 0 - b[k]?.getD 0)) ≤ hadF (tab d 16) k * hadF (tab d 16) k + 128 := fun k hk => by
    rw [hy k hk]
    refine sq_step _ _ ?_ ?_ <;> omega
  have := sumN_le _ _ _ hle
  rw [sumN_mul, sumN_add, sumN_const, ← hu, hs, ht] at this
  omega
theorem errDD_le {b : List Int} (hb : inB b 255 = true) {n m : Nat} (hn : n < 16) (hm : m < 16) (k : Nat) (hk : k < 16) :
    (2 * (hadF b k - deqV (codeC b (step n) k) (step n)) ≤ step n ∧ -step n ≤ 2 * (hadF b k - deqV (codeC b (step n) k) (step n))) ∧
    (2 * (hadF b k - deqV (codeC b (step n) k) (step n) - deqV (fineC b (step n) (step m) k) (step m)) ≤ step m ∧ -step m ≤ 2 * (hadF b k - deqV (codeC b (step n) k) (step n) - deqV (fineC b (step n) (step m) k) (step m))) := by
  obtain ⟨h1, h2⟩ := hadF_in hb k hk
  have a := deq_near h1 h2 (step_pos hn)
  have hs := (step_in n hn).2
  refine ⟨a, ?_⟩
  unfold fineC
  have a' : 2 * (hadF b k - deqV (codeC b (step n) k) (step n)) ≤ step n ∧ -step n ≤ 2 * (hadF b k - deqV (codeC b (step n) k) (step n)) := a
  generalize hadF b k - deqV (codeC b (step n) k) (step n) = r at a' ⊢
  rw [cl_same (by omega) (by omega)]
  exact deq_near (by omega) (by omega) (step_pos hm)
theorem fineC_in {b : List Int} (hb : inB b 255 = true) {n m : Nat} (hn : n < 16) (hm : m < 16) (k : Nat) (hk : k < 16) : -4080 ≤ fineC b (step n) (step m) k ∧ fineC b (step n) (step m) k ≤ 4080 := by
  unfold fineC
  have := cl_in (hadF b k - deqV (codeC b (step n) k) (step n)) (M := 4080) (by omega)
  exact quant_in this.1 this.2 (step_pos hm)
theorem fine_zero {b : List Int} (hb : inB b 255 = true) {n : Nat} (hn : n < 16) (k : Nat) (hk : k < 16) : cl (deqV (codeC b (step n) k) (step n) + deqV (fineC b (step n) (step 0) k) (step 0)) 4080 = hadF b k := by
  obtain ⟨h1, h2⟩ := hadF_in hb k hk
  obtain ⟨⟨a, c⟩, _⟩ := errDD_le hb hn (m := 0) (by omega) k hk
  have hs := (step_in n hn).2
  unfold fineC
  rw [step_zero, quant_one]
  generalize deqV (codeC b (step n) k) (step n) = r at a c ⊢
  rw [cl_same (n := hadF b k - r) (by omega) (by omega)]
  unfold deqV
  rw [Int.mul_one, cl_same (n := hadF b k - r) (by omega) (by omega), cl_same (by omega) (by omega)]
  omega
/-- With the fine index 0 both layers give the residuals. -/
theorem join_two {b : List Int} (hbl : b.length = 16) (hb : inB b 255 = true) {n : Nat} (hn : n < 16) : joinL (lowL b n 0) (highL b n 0) n 0 = b := by
  have hr : rB n 0 = true := by
    have hq : qB n = true := decide_eq_true (by omega)
    unfold rB
    rw [hq, decide_eq_true (by omega)]
    rfl
  have ht : twoOk b n 0 = true := by unfold twoOk; rw [hb, hr]; rfl
  have hl : lowL b n 0 = tab (codeC b (step n)) 16 := by unfold lowL; rw [ht]; rfl
  have hh : highL b n 0 = tab (fineC b (step n) (step 0)) 16 := by unfold highL; rw [ht]; rfl
  have i1 : inB (lowL b n 0) 4080 = true := by rw [hl]; exact inB_tab _ _ fun k hk => codeC_in hb n k hn hk
  have i2 : inB (highL b n 0) 4080 = true := by
    rw [hh]
    refine inB_tab _ _ fun k hk => ?_
    unfold fineC
    rw [step_zero, quant_one]
    exact cl_in _ (by omega)
  unfold joinL
  rw [i1, i2, hr]
  show invL (tab (joinC (lowL b n 0) (highL b n 0) (step n) (step 0)) 16) = b
  rw [show tab (joinC (lowL b n 0) (highL b n 0) (step n) (step 0)) 16 = hadL b from ?_]
  · exact inv_had b hbl
  · unfold hadL
    refine tab_eq fun k hk => ?_
    unfold joinC
    rw [hl, hh, tab_get _ _ _ hk, tab_get _ _ _ hk]
    exact fine_zero hb hn k hk
theorem low_code {b : List Int} {base fine : Int} (h : twoOk b base fine = true) : lowL b base fine = codeL b base := by
  unfold lowL codeL
  have h2 := h
  unfold twoOk rB at h2
  simp only [Bool.and_eq_true] at h2
  rw [h, h2.1, h2.2.1]
  rfl
end Go.Proofs.YtkdmhlbmhjolcaaDoor
