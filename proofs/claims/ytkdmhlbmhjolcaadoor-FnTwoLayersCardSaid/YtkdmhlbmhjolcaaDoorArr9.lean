/-
  The error of coefficients, of the program and of the reference.
-/
import Derived.Test.YtkdmhlbmhjolcaaDoorArr8
namespace Go.Proofs.YtkdmhlbmhjolcaaDoor
open Go.RowKit

theorem sq_le {d M : Int} (h1 : -M ≤ d) (h2 : d ≤ M) : 0 ≤ d * d ∧ d * d ≤ M * M := by
  have a : 0 ≤ (M - d) * (M + d) := Int.mul_nonneg (by omega) (by omega)
  have e : (M - d) * (M + d) = M * M - d * d := by rw [Int.sub_mul, Int.mul_add, Int.mul_add, Int.mul_comm d M]; omega
  have b : 0 ≤ d * d := by
    rcases Int.le_total 0 d with h | h
    · exact Int.mul_nonneg h h
    · exact Int.mul_nonneg_of_nonpos_of_nonpos h h
  omega
theorem deqV_in (l s : Int) : -4080 ≤ deqV l s ∧ deqV l s ≤ 4080 := cl_in _ (by omega)
def errD (xs ls : List Int) (s : Int) (k : Nat) : Int := hadF xs k - deqV (ls[k]?.getD 0) s
def errS (xs ls : List Int) (s : Int) (k : Nat) : Int := errD xs ls s k * errD xs ls s k
def errV (xs ls : List Int) (s : Int) : Int := sumN (errS xs ls s) 16
def qB (q : Int) : Bool := decide (0 ≤ q ∧ q ≤ 15)
def coefE (xs ls : List Int) (q : Int) : Int := if (inB xs 255 && inB ls 4080 && qB q) = true then errV xs ls (step q.toNat) else -1
theorem hadF_in {xs : List Int} (h : inB xs 255 = true) (k : Nat) (hk : k < 16) : -4080 ≤ hadF xs k ∧ hadF xs k ≤ 4080 := by
  have := hadL_bnd (inB_bnd h (by omega)) (by omega) k
  unfold hadL at this
  rw [tab_get _ _ _ hk] at this
  omega
theorem errD_in {xs : List Int} (h : inB xs 255 = true) (ls : List Int) (s : Int) (k : Nat) (hk : k < 16) : -8160 ≤ errD xs ls s k ∧ errD xs ls s k ≤ 8160 := by
  have a := hadF_in h k hk
  have b := deqV_in (ls[k]?.getD 0) s
  unfold errD
  omega
theorem errS_in {xs : List Int} (h : inB xs 255 = true) (ls : List Int) (s : Int) (k : Nat) (hk : k < 16) : 0 ≤ errS xs ls s k ∧ errS xs ls s k ≤ 66585600 := by
  obtain ⟨a, b⟩ := errD_in h ls s k hk
  exact sq_le a b
theorem sumN_pos (f : Nat → Int) (M : Int) (h : ∀ j, j < 16 → 0 ≤ f j ∧ f j ≤ M) (k : Nat) (hk : k ≤ 16) : 0 ≤ sumN f k ∧ sumN f k ≤ k * M := by
  induction k with
  | zero => simp [sumN]
  | succ k ih =>
    have := h k (by omega)
    have := ih (by omega)
    rw [sumN, Int.natCast_succ, Int.add_mul, Int.one_mul]
    omega

set_option maxRecDepth 100000 in
set_option maxHeartbeats 1000000 in
theorem impl_CoefficientError (xs ls : List Int) (q : Int) (w : World) (hT : Tb w) (hx : xs.length = 16) (hl : ls.length = 16) :
    Calls Tryd.prog 12 #[.agg (arr xs), .agg (arr ls), .int .i64 q] w fun e w' => e = .returned (.int .i64 (coefE xs ls q)) ∧ Q w w' := by
  have s1 := arr_size xs; have s2 := arr_size ls; rw [hx] at s1; rw [hl] at s2; have QQ : Q w ((w.alloc (.cells (arr xs) 22)).alloc (.cells (arr ls) 22)) := (by repeat (first | exact Q.refl _ | assumption | refine Q.drewN ?_ _ | refine Q.drew ?_ | refine Q.alloc ?_ _ | refine Q.trans ?_ (by assumption) | refine Q.set ?_ (by first | exact Nat.le_refl _ | omega | (simp; done) | (simp; omega)) _)); have ba := (Bl.new w xs hx).alloc (.cells (arr ls) 22); have bb := Bl.new (w.alloc (.cells (arr xs) 22)) ls hl; rw [World.size_alloc] at bb; have s0 : ((w.alloc (.cells (arr xs) 22)).alloc (.cells (arr ls) 22)).heap.size = w.heap.size + 1 + 1 := (by simp)
  have HT := Lib.hid (hT.q QQ)
  clear hT
  cases hq : qB q
  · have HV : Hid (coefE xs ls q = -1) := by unfold Hid coefE; rw [hq, Bool.and_false]; rfl
    have HQ : Hid (decide (0 ≤ q ∧ q ≤ 15) = false) := hq
    rw [HV.out]
    clear hq
    go_enter Tryd.func12, Tryd.ntmps12
    go_wp2_with (first | refine wpList_load_arr rfl _ rfl _ rfl _ (by assumption) ?_ | refine wpList_load_arr_g (by rfl) _ rfl _ rfl _ (by assumption) ?_)
    refine (qualityValid _ _ _ HQ).mono ?_; rintro e w' ⟨rfl, rfl⟩
    go_wp2_with (first | refine wpList_load_arr rfl _ rfl _ rfl _ (by assumption) ?_ | refine wpList_load_arr_g (by rfl) _ rfl _ rfl _ (by assumption) ?_)
    go_ret
    exact ⟨rfl, QQ⟩
  · have hqb : 0 ≤ q ∧ q ≤ 15 := of_decide_eq_true hq
    have HQ : Hid (decide (0 ≤ q ∧ q ≤ 15) = true) := hq
    cases hb : inB xs 255
    · have HV : Hid (coefE xs ls q = -1) := by unfold Hid coefE; rw [hb]; rfl
      have HB := Lib.hid hb
      rw [HV.out]
      clear hq hb
      go_enter Tryd.func12, Tryd.ntmps12
      go_wp2_with (first | refine wpList_load_arr rfl _ rfl _ rfl _ (by assumption) ?_ | refine wpList_load_arr_g (by rfl) _ rfl _ rfl _ (by assumption) ?_)
      refine (qualityValid _ _ _ HQ).mono ?_; rintro e w' ⟨rfl, rfl⟩
      go_wp2_with (first | refine wpList_load_arr rfl _ rfl _ rfl _ (by assumption) ?_ | refine wpList_load_arr_g (by rfl) _ rfl _ rfl _ (by assumption) ?_)
      refine (blockWithin xs 255 false _ hx (by omega) (by omega) HB).mono ?_; rintro e wv ⟨rfl, q1⟩
      (try replace ba := ba.q q1); (try replace bb := bb.q q1); (try replace bc := bc.q q1); (try replace HT := Lib.hid (HT.out.q q1)); replace QQ := QQ.trans q1; have sq := q1.size; clear q1
      go_wp2_with (first | refine wpList_load_arr rfl _ rfl _ rfl _ (by assumption) ?_ | refine wpList_load_arr_g (by rfl) _ rfl _ rfl _ (by assumption) ?_)
      go_ret
      exact ⟨rfl, QQ⟩
    · have HB := Lib.hid hb
      cases hc : inB ls 4080
      · have HV : Hid (coefE xs ls q = -1) := by unfold Hid coefE; rw [hb, hc]; rfl
        have HC := Lib.hid hc
        rw [HV.out]
        clear hq hb hc
        go_enter Tryd.func12, Tryd.ntmps12
        go_wp2_with (first | refine wpList_load_arr rfl _ rfl _ rfl _ (by assumption) ?_ | refine wpList_load_arr_g (by rfl) _ rfl _ rfl _ (by assumption) ?_)
        refine (qualityValid _ _ _ HQ).mono ?_; rintro e w' ⟨rfl, rfl⟩
        go_wp2_with (first | refine wpList_load_arr rfl _ rfl _ rfl _ (by assumption) ?_ | refine wpList_load_arr_g (by rfl) _ rfl _ rfl _ (by assumption) ?_)
        refine (blockWithin xs 255 true _ hx (by omega) (by omega) HB).mono ?_; rintro e wv ⟨rfl, q1⟩
        (try replace ba := ba.q q1); (try replace bb := bb.q q1); (try replace bc := bc.q q1); (try replace HT := Lib.hid (HT.out.q q1)); replace QQ := QQ.trans q1; have sq := q1.size; clear q1
        go_wp2_with (first | refine wpList_load_arr rfl _ rfl _ rfl _ (by assumption) ?_ | refine wpList_load_arr_g (by rfl) _ rfl _ rfl _ (by assumption) ?_)
        refine (blockWithin ls 4080 false _ hl (by omega) (by omega) HC).mono ?_; rintro e wv ⟨rfl, q2⟩
        (try replace ba := ba.q q2); (try replace bb := bb.q q2); (try replace bc := bc.q q2); (try replace HT := Lib.hid (HT.out.q q2)); replace QQ := QQ.trans q2; have sq := q2.size; clear q2
        go_wp2_with (first | refine wpList_load_arr rfl _ rfl _ rfl _ (by assumption) ?_ | refine wpList_load_arr_g (by rfl) _ rfl _ rfl _ (by assumption) ?_)
        go_ret
        exact ⟨rfl, QQ⟩
      · have HC := Lib.hid hc
        obtain ⟨n, hn⟩ : ∃ n : Nat, q = (n : Int) := ⟨q.toNat, by omega⟩
        have HV : Hid (coefE xs ls q = sumN (errS xs ls (step n)) 16) := by unfold Hid coefE; rw [hb, hc, hq, hn]; rfl
        have HS := Lib.hid (fun k hk => errS_in hb ls (step n) k hk)
        have HD := Lib.hid (fun k hk => errD_in hb ls (step n) k hk)
        have HI := Lib.hid (fun k hk => inB_get hc k hk)
        have hll := hadL_len xs
        subst hn
        rw [HV.out]
        have n16 : n < 16 := by omega
        have hrl : Hid (∀ k, k < 16 → (hadL xs)[k]?.getD 0 = hadF xs k) := fun k hk => by unfold hadL; rw [tab_get _ _ _ hk]
        clear hq hb hc hqb
        go_enter Tryd.func12, Tryd.ntmps12
        go_wp2_with (first | refine wpList_load_arr rfl _ rfl _ rfl _ (by assumption) ?_ | refine wpList_load_arr_g (by rfl) _ rfl _ rfl _ (by assumption) ?_)
        refine (qualityValid _ _ _ HQ).mono ?_; rintro e w' ⟨rfl, rfl⟩
        go_wp2_with (first | refine wpList_load_arr rfl _ rfl _ rfl _ (by assumption) ?_ | refine wpList_load_arr_g (by rfl) _ rfl _ rfl _ (by assumption) ?_)
        refine (blockWithin xs 255 true _ hx (by omega) (by omega) HB).mono ?_; rintro e wv ⟨rfl, q1⟩
        (try replace ba := ba.q q1); (try replace bb := bb.q q1); (try replace bc := bc.q q1); (try replace HT := Lib.hid (HT.out.q q1)); replace QQ := QQ.trans q1; have sq := q1.size; clear q1
        go_wp2_with (first | refine wpList_load_arr rfl _ rfl _ rfl _ (by assumption) ?_ | refine wpList_load_arr_g (by rfl) _ rfl _ rfl _ (by assumption) ?_)
        refine (blockWithin ls 4080 true _ hl (by omega) (by omega) HC).mono ?_; rintro e wv ⟨rfl, q2⟩
        (try replace ba := ba.q q2); (try replace bb := bb.q q2); (try replace bc := bc.q q2); (try replace HT := Lib.hid (HT.out.q q2)); replace QQ := QQ.trans q2; have sq := q2.size; clear q2
        go_wp2_with (first | refine wpList_load_arr rfl _ rfl _ rfl _ (by assumption) ?_ | refine wpList_load_arr_g (by rfl) _ rfl _ rfl _ (by assumption) ?_)
        refine (had_ok 255 xs _ hx (inB_bnd HB.out (by omega)) (by omega) (by omega)).mono ?_; rintro e wv ⟨rfl, q3⟩
        (try replace ba := ba.q q3); (try replace bb := bb.q q3); (try replace bc := bc.q q3); (try replace HT := Lib.hid (HT.out.q q3)); replace QQ := QQ.trans q3; have sq := q3.size; clear q3
        generalize hadL xs = zs at hll hrl ⊢
        have HBB := Lib.hid bb
        have HQQ := Lib.hid QQ
        clear ba bb QQ
        go_wp2_with fail
        go_loopw [7, 26] (fun n' i wr => ∃ k : Nat, k ≤ 16 ∧ i = .int .i64 k ∧ n' = .int .i64 (sumN (errS xs ls (step n)) k) ∧ Hid (Q wv wr)) (fun _ i _ => 16 - (intOf i).toNat)
        case atStart => exact ⟨0, by omega, rfl, rfl, Q.refl _⟩
        case round =>
          obtain ⟨k, hk, rfl, rfl, hq⟩ := hrel
          have hb := HBB.out.q hq.out
          by_cases hlt : k < 16
          · have hk16 : (k : Int) < 16 := by omega
            have he := fun w => run_index_arr zs k hll hlt w
            rw [hrl.out k hlt] at he
            have c1 := hb.at k hlt
            obtain ⟨l1, l2⟩ := HI.out k (by omega)
            obtain ⟨d1, d2⟩ := HD.out k hlt
            obtain ⟨p1, p2⟩ := HS.out k hlt
            obtain ⟨u1, u2⟩ := sumN_pos _ _ HS.out k (by omega)
            have hst : sumN (errS xs ls (step n)) (k + 1) = sumN (errS xs ls (step n)) k + errS xs ls (step n) k := rfl
            have hsd : errS xs ls (step n) k = errD xs ls (step n) k * errD xs ls (step n) k := rfl
            have hdd : errD xs ls (step n) k = hadF xs k - deqV (ls[k]?.getD 0) (step n) := rfl
            have T := Lib.hid (fun z hz => impl_Dequantize (ls[k]?.getD 0) (n : Int) n z hz rfl n16 l1 l2)
            generalize sumN (errS xs ls (step n)) k = s at u1 u2 hst ⊢
            generalize errS xs ls (step n) k = p at p1 p2 hst hsd
            generalize errD xs ls (step n) k = d at d1 d2 hsd hdd
            generalize hadF xs k = c at he hdd
            generalize deqV (ls[k]?.getD 0) (step n) = v at T hdd
            generalize ls[k]?.getD 0 = l at c1 l1 l2 T
            have u3 : (k : Int) * 66585600 ≤ 16 * 66585600 := Int.mul_le_mul_of_nonneg_right (by omega) (by omega)
            have u4 : s ≤ 1065369600 := by omega
            have w1 : IntKind.i64.wrap (c - v) = d := by rw [← hdd]; exact IntWalk.i64_in _ ⟨by omega, by omega⟩
            have w2 : IntKind.i64.wrap (d * d) = p := by rw [← hsd]; exact IntWalk.i64_in _ ⟨by omega, by omega⟩
            have w3 : wrap64 (d * d) = p := by rw [← IntWalk.i64_left, w2]
            have w4 : IntKind.i64.wrap (s + p) = s + p := IntWalk.i64_in _ ⟨by omega, by omega⟩
            have w5 : wrap64 (c - v) = d := by rw [← IntWalk.i64_left, w1]
            have HST := Lib.hid hst
            have HTZ := Lib.hid (HT.out.q hq.out)
            have HQZ := Lib.hid hq.out
            clear hst hsd hdd u2 u3 hb hq
            go_wp2_with fail
            refine (T.out _ HTZ.out).mono ?_; rintro e w' ⟨rfl, q4⟩
            have HQ4 := Lib.hid (HQZ.out.trans q4)
            clear q4 c1
            go_wp2_with fail
            go_roundw
            case rel => exact ⟨k + 1, by omega, by go_num, by rw [HST.out], HQ4.out⟩
            case measure => simp [intOf]; omega
          · have hk16 : k = 16 := by omega
            subst hk16
            have HZ := Lib.hid (HQQ.out.trans hq.out)
            clear hb hq
            go_wp2_with fail
            go_ret
            exact ⟨rfl, HZ.out⟩
end Go.Proofs.YtkdmhlbmhjolcaaDoor
