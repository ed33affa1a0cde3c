/-
  The error of coefficients, of the reference.
-/
import Derived.Test.YtkdmhlbmhjolcaaDoorArr9
namespace Go.Proofs.YtkdmhlbmhjolcaaDoor
open Go.RowKit

set_option maxRecDepth 100000 in
set_option maxHeartbeats 1000000 in
theorem spec_CoefficientError (xs ls : List Int) (q : Int) (w : World) (hx : xs.length = 16) (hl : ls.length = 16) :
    Calls Tryd.prog 10 #[.agg (arr xs), .agg (arr ls), .int .i64 q] w fun e w' => e = .returned (.int .i64 (coefE xs ls q)) ∧ Q w w' := by
  have s1 := arr_size xs; have s2 := arr_size ls; rw [hx] at s1; rw [hl] at s2; have QQ : Q w ((w.alloc (.cells (arr xs) 22)).alloc (.cells (arr ls) 22)) := (by repeat (first | exact Q.refl _ | assumption | refine Q.drewN ?_ _ | refine Q.drew ?_ | refine Q.alloc ?_ _ | refine Q.trans ?_ (by assumption) | refine Q.set ?_ (by first | exact Nat.le_refl _ | omega | (simp; done) | (simp; omega)) _)); have ba := (Bl.new w xs hx).alloc (.cells (arr ls) 22); have bb := Bl.new (w.alloc (.cells (arr xs) 22)) ls hl; rw [World.size_alloc] at bb; have s0 : ((w.alloc (.cells (arr xs) 22)).alloc (.cells (arr ls) 22)).heap.size = w.heap.size + 1 + 1 := (by simp)
  cases hb : inB xs 255
  · have HV : Hid (coefE xs ls q = -1) := by unfold Hid coefE; rw [hb]; rfl
    have HB := Lib.hid hb
    rw [HV.out]
    clear hb
    go_enter Tryd.func10, Tryd.ntmps10
    go_wp2_with (first | refine wpList_load_arr rfl _ rfl _ rfl _ (by assumption) ?_ | refine wpList_load_arr_g (by rfl) _ rfl _ rfl _ (by assumption) ?_)
    refine (l3Ok xs 255 false _ hx (by omega) (by omega) HB).mono ?_; rintro e wv ⟨rfl, q1⟩
    (try replace ba := ba.q q1); (try replace bb := bb.q q1); (try replace bc := bc.q q1); (try replace HT := Lib.hid (HT.out.q q1)); replace QQ := QQ.trans q1; have sq := q1.size; clear q1
    go_wp2_with (first | refine wpList_load_arr rfl _ rfl _ rfl _ (by assumption) ?_ | refine wpList_load_arr_g (by rfl) _ rfl _ rfl _ (by assumption) ?_)
    go_ret
    exact ⟨rfl, QQ⟩
  · have HB := Lib.hid hb
    cases hc : inB ls 4080
    · have HV : Hid (coefE xs ls q = -1) := by unfold Hid coefE; rw [hb, hc]; rfl
      have HC := Lib.hid hc
      rw [HV.out]
      clear hb hc
      go_enter Tryd.func10, Tryd.ntmps10
      go_wp2_with (first | refine wpList_load_arr rfl _ rfl _ rfl _ (by assumption) ?_ | refine wpList_load_arr_g (by rfl) _ rfl _ rfl _ (by assumption) ?_)
      refine (l3Ok xs 255 true _ hx (by omega) (by omega) HB).mono ?_; rintro e wv ⟨rfl, q1⟩
      (try replace ba := ba.q q1); (try replace bb := bb.q q1); (try replace bc := bc.q q1); (try replace HT := Lib.hid (HT.out.q q1)); replace QQ := QQ.trans q1; have sq := q1.size; clear q1
      go_wp2_with (first | refine wpList_load_arr rfl _ rfl _ rfl _ (by assumption) ?_ | refine wpList_load_arr_g (by rfl) _ rfl _ rfl _ (by assumption) ?_)
      refine (l3Ok ls 4080 false _ hl (by omega) (by omega) HC).mono ?_; rintro e wv ⟨rfl, q2⟩
      (try replace ba := ba.q q2); (try replace bb := bb.q q2); (try replace bc := bc.q q2); (try replace HT := Lib.hid (HT.out.q q2)); replace QQ := QQ.trans q2; have sq := q2.size; clear q2
      go_wp2_with (first | refine wpList_load_arr rfl _ rfl _ rfl _ (by assumption) ?_ | refine wpList_load_arr_g (by rfl) _ rfl _ rfl _ (by assumption) ?_)
      go_ret
      exact ⟨rfl, QQ⟩
    · have HC := Lib.hid hc
      cases hq : qB q
      · have HV : Hid (coefE xs ls q = -1) := by unfold Hid coefE; rw [hq, Bool.and_false]; rfl
        have HQ : Hid (decide (0 ≤ q ∧ q ≤ 15) = false) := hq
        rw [HV.out]
        clear hq hb hc
        go_enter Tryd.func10, Tryd.ntmps10
        go_wp2_with (first | refine wpList_load_arr rfl _ rfl _ rfl _ (by assumption) ?_ | refine wpList_load_arr_g (by rfl) _ rfl _ rfl _ (by assumption) ?_)
        refine (l3Ok xs 255 true _ hx (by omega) (by omega) HB).mono ?_; rintro e wv ⟨rfl, q1⟩
        (try replace ba := ba.q q1); (try replace bb := bb.q q1); (try replace bc := bc.q q1); (try replace HT := Lib.hid (HT.out.q q1)); replace QQ := QQ.trans q1; have sq := q1.size; clear q1
        go_wp2_with (first | refine wpList_load_arr rfl _ rfl _ rfl _ (by assumption) ?_ | refine wpList_load_arr_g (by rfl) _ rfl _ rfl _ (by assumption) ?_)
        refine (l3Ok ls 4080 true _ hl (by omega) (by omega) HC).mono ?_; rintro e wv ⟨rfl, q2⟩
        (try replace ba := ba.q q2); (try replace bb := bb.q q2); (try replace bc := bc.q q2); (try replace HT := Lib.hid (HT.out.q q2)); replace QQ := QQ.trans q2; have sq := q2.size; clear q2
        go_wp2_with (first | refine wpList_load_arr rfl _ rfl _ rfl _ (by assumption) ?_ | refine wpList_load_arr_g (by rfl) _ rfl _ rfl _ (by assumption) ?_)
        refine (l1In_b _ _ _ _ _ HQ).mono ?_; rintro e w' ⟨rfl, rfl⟩
        go_wp2_with (first | refine wpList_load_arr rfl _ rfl _ rfl _ (by assumption) ?_ | refine wpList_load_arr_g (by rfl) _ rfl _ rfl _ (by assumption) ?_)
        go_ret
        exact ⟨rfl, QQ⟩
      · have hqb : 0 ≤ q ∧ q ≤ 15 := of_decide_eq_true hq
        have HQ : Hid (decide (0 ≤ q ∧ q ≤ 15) = true) := hq
        obtain ⟨n, hn⟩ : ∃ n : Nat, q = (n : Int) := ⟨q.toNat, by omega⟩
        have HV : Hid (coefE xs ls q = sumN (errS xs ls (step n)) 16) := by unfold Hid coefE; rw [hb, hc, hq, hn]; rfl
        have HS := Lib.hid (fun k hk => errS_in hb ls (step n) k hk)
        have HD := Lib.hid (fun k hk => errD_in hb ls (step n) k hk)
        have HI := Lib.hid (fun k hk => inB_get hc k hk)
        have hll := hadL_len xs
        subst hn
        rw [HV.out]
        have n16 : n < 16 := by omega
        have hrl : Hid (∀ k, k < 16 → (hadL xs)[k]?.getD 0 = hadF xs k) := fun k hk => by unfold hadL; rw [tab_get _ _ _ hk]
        clear hq hb hc hqb
        go_enter Tryd.func10, Tryd.ntmps10
        go_wp2_with (first | refine wpList_load_arr rfl _ rfl _ rfl _ (by assumption) ?_ | refine wpList_load_arr_g (by rfl) _ rfl _ rfl _ (by assumption) ?_)
        refine (l3Ok xs 255 true _ hx (by omega) (by omega) HB).mono ?_; rintro e wv ⟨rfl, q1⟩
        (try replace ba := ba.q q1); (try replace bb := bb.q q1); (try replace bc := bc.q q1); (try replace HT := Lib.hid (HT.out.q q1)); replace QQ := QQ.trans q1; have sq := q1.size; clear q1
        go_wp2_with (first | refine wpList_load_arr rfl _ rfl _ rfl _ (by assumption) ?_ | refine wpList_load_arr_g (by rfl) _ rfl _ rfl _ (by assumption) ?_)
        refine (l3Ok ls 4080 true _ hl (by omega) (by omega) HC).mono ?_; rintro e wv ⟨rfl, q2⟩
        (try replace ba := ba.q q2); (try replace bb := bb.q q2); (try replace bc := bc.q q2); (try replace HT := Lib.hid (HT.out.q q2)); replace QQ := QQ.trans q2; have sq := q2.size; clear q2
        go_wp2_with (first | refine wpList_load_arr rfl _ rfl _ rfl _ (by assumption) ?_ | refine wpList_load_arr_g (by rfl) _ rfl _ rfl _ (by assumption) ?_)
        refine (l1In_b _ _ _ _ _ HQ).mono ?_; rintro e w' ⟨rfl, rfl⟩
        go_wp2_with (first | refine wpList_load_arr rfl _ rfl _ rfl _ (by assumption) ?_ | refine wpList_load_arr_g (by rfl) _ rfl _ rfl _ (by assumption) ?_)
        refine (l3Apply 255 xs _ hx (inB_bnd HB.out (by omega)) (by omega) (by omega)).mono ?_; rintro e wv ⟨rfl, q3⟩
        (try replace ba := ba.q q3); (try replace bb := bb.q q3); (try replace bc := bc.q q3); (try replace HT := Lib.hid (HT.out.q q3)); replace QQ := QQ.trans q3; have sq := q3.size; clear q3
        generalize hadL xs = zs at hll hrl ⊢
        go_wp2_with (refine wpList_new_arr rfl _ rfl rfl rfl _ _ rfl rfl _ rfl hll ?_; intro w5 bc q5 s5)
        obtain ⟨wv, rfl⟩ : ∃ w9, w9 = wv := ⟨_, rfl⟩
        replace bb := bb.q q5
        replace QQ := QQ.trans q5
        have HBB := Lib.hid bb
        have HCC := Lib.hid bc
        have HQQ := Lib.hid QQ
        have hgl := Bl.lt bc
        clear ba bb bc QQ q5
        generalize wv.heap.size = gz at HCC s5 hgl ⊢
        go_loopw [8, 9] (fun n' i wr => ∃ k : Nat, k ≤ 16 ∧ i = .int .i64 k ∧ n' = .int .i64 (sumN (errS xs ls (step n)) k) ∧ Hid (Q w5 wr)) (fun _ i _ => 16 - (intOf i).toNat)
        case atStart => exact ⟨0, by omega, rfl, rfl, Q.refl _⟩
        case round =>
          obtain ⟨k, hk, rfl, rfl, hq⟩ := hrel
          have hb := HBB.out.q hq.out
          by_cases hlt : k < 16
          · have hk16 : (k : Int) < 16 := by omega
            have c2 := (HCC.out.q hq.out).at k hlt
            rw [hrl.out k hlt] at c2
            have c1 := hb.at k hlt
            obtain ⟨l1, l2⟩ := HI.out k (by omega)
            obtain ⟨d1, d2⟩ := HD.out k hlt
            obtain ⟨p1, p2⟩ := HS.out k hlt
            obtain ⟨u1, u2⟩ := sumN_pos _ _ HS.out k (by omega)
            have hst : sumN (errS xs ls (step n)) (k + 1) = sumN (errS xs ls (step n)) k + errS xs ls (step n) k := rfl
            have hsd : errS xs ls (step n) k = errD xs ls (step n) k * errD xs ls (step n) k := rfl
            have hdd : errD xs ls (step n) k = hadF xs k - deqV (ls[k]?.getD 0) (step n) := rfl
            have T := Lib.hid (fun z => spec_Dequantize (ls[k]?.getD 0) (n : Int) n z rfl n16 l1 l2)
            generalize sumN (errS xs ls (step n)) k = s at u1 u2 hst ⊢
            generalize errS xs ls (step n) k = p at p1 p2 hst hsd
            generalize errD xs ls (step n) k = d at d1 d2 hsd hdd
            generalize hadF xs k = c at c2 hdd
            generalize deqV (ls[k]?.getD 0) (step n) = v at T hdd
            generalize ls[k]?.getD 0 = l at c1 l1 l2 T
            have u3 : (k : Int) * 66585600 ≤ 16 * 66585600 := Int.mul_le_mul_of_nonneg_right (by omega) (by omega)
            have u4 : s ≤ 1065369600 := by omega
            have w1 : IntKind.i64.wrap (c - v) = d := by rw [← hdd]; exact IntWalk.i64_in _ ⟨by omega, by omega⟩
            have w2 : IntKind.i64.wrap (d * d) = p := by rw [← hsd]; exact IntWalk.i64_in _ ⟨by omega, by omega⟩
            have w3 : wrap64 (d * d) = p := by rw [← IntWalk.i64_left, w2]
            have w4 : IntKind.i64.wrap (s + p) = s + p := IntWalk.i64_in _ ⟨by omega, by omega⟩
            have w5 : wrap64 (c - v) = d := by rw [← IntWalk.i64_left, w1]
            have HST := Lib.hid hst
            have HQZ := Lib.hid hq.out
            clear hst hsd hdd u2 u3 hb hq
            go_wp2_with fail
            refine wp_region_x (fun ww => Q wr ww ∧ ww.cell? ⟨gz, k, none⟩ = some (.int .i64 c) ∧ ww.cell? ⟨w.heap.size + 1, k, none⟩ = some (.int .i64 l)) (fun _ => false) (by kernel_rfl) ⟨(Q.refl _).drew, c2, c1⟩ (fun hS => ?_)
            refine wpAnyX_take (i := 0) (v := ?vv1) rfl (by kernel_rfl) (by kernel_rfl) (by kernel_rfl) (by kernel_rfl) (fun _ _ _ h => h) (Or.inl ⟨by rfl, ?hy1⟩) hS ?rest1
            case hy1 => (intro ww hSw; (try dsimp only at hSw); go_split_ands; go_simp; try with_reducible rfl)
            try simp only [Act.put, List.setIfInBounds_toArray, List.set_cons_zero, List.set_cons_succ]
            refine wpAnyX_take (i := 1) (v := ?vv2) rfl (by kernel_rfl) (by kernel_rfl) (by kernel_rfl) (by kernel_rfl) (fun _ _ _ h => h) (Or.inl ⟨by rfl, ?hy2⟩) hS ?rest2
            case hy2 => (intro ww hSw; (try dsimp only at hSw); go_split_ands; go_simp; try with_reducible rfl)
            try simp only [Act.put, List.setIfInBounds_toArray, List.set_cons_zero, List.set_cons_succ]
            refine wpAnyX_take (i := 2) (v := ?vv3) rfl (by kernel_rfl) (by kernel_rfl) (by kernel_rfl) (by kernel_rfl) (fun _ _ _ h => h) (Or.inl ⟨by rfl, ?hy3⟩) hS ?rest3
            case hy3 => (intro ww hSw; (try dsimp only at hSw); go_split_ands; go_simp; try with_reducible rfl)
            try simp only [Act.put, List.setIfInBounds_toArray, List.set_cons_zero, List.set_cons_succ]
            refine wpAnyX_take (i := 3) (v := ?vv4) rfl (by kernel_rfl) (by kernel_rfl) (by kernel_rfl) (by kernel_rfl) (fun _ _ _ h => h) (Or.inl ⟨by rfl, ?hy4⟩) hS ?rest4
            case hy4 => (intro ww hSw; (try dsimp only at hSw); go_split_ands; go_simp; try with_reducible rfl)
            try simp only [Act.put, List.setIfInBounds_toArray, List.set_cons_zero, List.set_cons_succ]
            refine wpAnyX_take (i := 4) (v := ?vv5) rfl (by kernel_rfl) (by kernel_rfl) (by kernel_rfl) (by kernel_rfl) (fun _ _ _ h => h) (Or.inl ⟨by rfl, ?hy5⟩) hS ?rest5
            case hy5 => (intro ww hSw; (try dsimp only at hSw); go_split_ands; go_simp; try with_reducible rfl)
            try simp only [Act.put, List.setIfInBounds_toArray, List.set_cons_zero, List.set_cons_succ]
            refine wpAnyX_take (i := 5) (v := ?vv6) rfl (by kernel_rfl) (by kernel_rfl) (by kernel_rfl) (by kernel_rfl) (fun _ _ _ h => h) (Or.inl ⟨by rfl, ?hy6⟩) hS ?rest6
            case hy6 => (intro ww hSw; (try dsimp only at hSw); go_split_ands; go_simp; try with_reducible rfl)
            try simp only [Act.put, List.setIfInBounds_toArray, List.set_cons_zero, List.set_cons_succ]
            refine wpAnyX_take (i := 6) (v := ?vv7) rfl (by kernel_rfl) (by kernel_rfl) (by kernel_rfl) (by kernel_rfl) (fun _ _ _ h => h) (Or.inl ⟨by rfl, ?hy7⟩) hS ?rest7
            case hy7 => (intro ww hSw; (try dsimp only at hSw); go_split_ands; go_simp; try with_reducible rfl)
            try simp only [Act.put, List.setIfInBounds_toArray, List.set_cons_zero, List.set_cons_succ]
            refine wpAnyX_step (k := 7) (by kernel_rfl) rfl rfl (fun K2 hK2 => ?_); go_simp
            refine (T.out _).mono ?_; rintro e w' ⟨rfl, q4⟩
            have q5 := hS.1.trans q4
            refine hK2.out _ _ ⟨q5, (q5.cell _ _ (by have := HQZ.out.size; omega)).trans c2, (q5.cell _ _ (by have := HQZ.out.size; have := (HBB.out).lt; omega)).trans c1⟩ (fun hS => ?_)
            clear hK2 K2; (try simp only [Act.put, List.setIfInBounds_toArray, List.set_cons_zero, List.set_cons_succ])
            refine wpAnyX_take (i := 8) (v := ?vv8) rfl (by kernel_rfl) (by kernel_rfl) (by kernel_rfl) (by kernel_rfl) (fun _ _ _ h => h) (Or.inl ⟨by rfl, ?hy8⟩) hS ?rest8
            case hy8 => (intro ww hSw; (try dsimp only at hSw); go_split_ands; go_simp; try with_reducible rfl)
            try simp only [Act.put, List.setIfInBounds_toArray, List.set_cons_zero, List.set_cons_succ]
            refine wpAnyX_take (i := 9) (v := ?vv9) rfl (by kernel_rfl) (by kernel_rfl) (by kernel_rfl) (by kernel_rfl) (fun _ _ _ h => h) (Or.inl ⟨by rfl, ?hy9⟩) hS ?rest9
            case hy9 => (intro ww hSw; (try dsimp only at hSw); go_split_ands; go_simp; try with_reducible rfl)
            try simp only [Act.put, List.setIfInBounds_toArray, List.set_cons_zero, List.set_cons_succ]
            refine wpAnyX_done (by kernel_rfl) ?_ _
            have HQ4 := Lib.hid (HQZ.out.trans q5)
            clear q4 q5 c1 c2 hS
            go_wp2_with fail
            go_roundw
            case rel => exact ⟨k + 1, by omega, by go_num, by rw [HST.out], HQ4.out⟩
            case measure => simp [intOf]; omega
          · have hk16 : k = 16 := by omega
            subst hk16
            have HZ := Lib.hid (HQQ.out.trans hq.out)
            clear hb hq
            go_wp2_with fail
            go_ret
            exact ⟨rfl, HZ.out⟩
end Go.Proofs.YtkdmhlbmhjolcaaDoor
