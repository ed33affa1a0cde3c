/-
  TwoLayers of the reference.
-/
import Derived.Test.YtkdmhlbmhjolcaaDoorArr14
namespace Go.Proofs.YtkdmhlbmhjolcaaDoor
open Go.RowKit

set_option maxRecDepth 100000 in
theorem l28Ok (xs : List Int) (base fine : Int) (t : Bool) (w : World) (hx : xs.length = 16) (ht : Hid (twoOk xs base fine = t)) :
    Calls Tryd.prog 42 #[.agg (arr xs), .int .i64 base, .int .i64 fine] w fun e w' => e = .returned (.bool t) ∧ Q w w' := by
  have s1 := arr_size xs
  rw [hx] at s1
  have QQ : Q w (w.alloc (.cells (arr xs) 22)) := (by repeat (first | exact Q.refl _ | assumption | refine Q.drewN ?_ _ | refine Q.drew ?_ | refine Q.alloc ?_ _ | refine Q.trans ?_ (by assumption) | refine Q.set ?_ (by first | exact Nat.le_refl _ | omega | (simp; done) | (simp; omega)) _))
  have ba := Bl.new w xs hx
  obtain rfl := ht.out
  clear ht
  cases hb : inB xs 255
  · have e : twoOk xs base fine = false := by unfold twoOk; rw [hb]; rfl
    have HB := Lib.hid hb
    rw [e]
    clear e hb
    go_enter Tryd.func42, Tryd.ntmps42
    go_wp2_with (first | refine wpList_load_arr rfl _ rfl _ rfl _ (by assumption) ?_ | refine wpList_load_arr_g (by rfl) _ rfl _ rfl _ (by assumption) ?_)
    refine (l3Ok xs 255 false _ hx (by omega) (by omega) HB).mono ?_; rintro e wv ⟨rfl, q1⟩
    go_wp2_with fail
    go_ret
    exact ⟨rfl, QQ.trans q1⟩
  · have HB := Lib.hid hb
    cases hq : qB base
    · have e : twoOk xs base fine = false := by unfold twoOk rB; rw [hb, hq]; rfl
      have HQ : Hid (decide (0 ≤ base ∧ base ≤ 15) = false) := hq
      rw [e]
      clear e hb hq
      go_enter Tryd.func42, Tryd.ntmps42
      go_wp2_with (first | refine wpList_load_arr rfl _ rfl _ rfl _ (by assumption) ?_ | refine wpList_load_arr_g (by rfl) _ rfl _ rfl _ (by assumption) ?_)
      refine (l3Ok xs 255 true _ hx (by omega) (by omega) HB).mono ?_; rintro e wv ⟨rfl, q1⟩
      go_wp2_with fail
      refine (l1In_b _ _ _ _ _ HQ).mono ?_; rintro e w' ⟨rfl, rfl⟩
      go_wp2_with fail
      go_ret
      exact ⟨rfl, QQ.trans q1⟩
    · have HQ : Hid (decide (0 ≤ base ∧ base ≤ 15) = true) := hq
      cases hr : decide (0 ≤ fine ∧ fine ≤ base)
      · have e : twoOk xs base fine = false := by unfold twoOk rB; rw [hb, hq, hr]; rfl
        have HR := Lib.hid hr
        rw [e]
        clear e hb hq hr
        go_enter Tryd.func42, Tryd.ntmps42
        go_wp2_with (first | refine wpList_load_arr rfl _ rfl _ rfl _ (by assumption) ?_ | refine wpList_load_arr_g (by rfl) _ rfl _ rfl _ (by assumption) ?_)
        refine (l3Ok xs 255 true _ hx (by omega) (by omega) HB).mono ?_; rintro e wv ⟨rfl, q1⟩
        go_wp2_with fail
        refine (l1In_b _ _ _ _ _ HQ).mono ?_; rintro e w' ⟨rfl, rfl⟩
        go_wp2_with fail
        refine (l1In_b _ _ _ _ _ HR).mono ?_; rintro e w' ⟨rfl, rfl⟩
        go_wp2_with fail
        go_ret
        exact ⟨rfl, QQ.trans q1⟩
      · have e : twoOk xs base fine = true := by unfold twoOk rB; rw [hb, hq, hr]; rfl
        have HR := Lib.hid hr
        rw [e]
        clear e hb hq hr
        go_enter Tryd.func42, Tryd.ntmps42
        go_wp2_with (first | refine wpList_load_arr rfl _ rfl _ rfl _ (by assumption) ?_ | refine wpList_load_arr_g (by rfl) _ rfl _ rfl _ (by assumption) ?_)
        refine (l3Ok xs 255 true _ hx (by omega) (by omega) HB).mono ?_; rintro e wv ⟨rfl, q1⟩
        go_wp2_with fail
        refine (l1In_b _ _ _ _ _ HQ).mono ?_; rintro e w' ⟨rfl, rfl⟩
        go_wp2_with fail
        refine (l1In_b _ _ _ _ _ HR).mono ?_; rintro e w' ⟨rfl, rfl⟩
        go_wp2_with fail
        go_ret
        exact ⟨rfl, QQ.trans q1⟩

set_option maxRecDepth 100000 in
set_option maxHeartbeats 4000000 in
theorem spec_TwoLayers (xs : List Int) (base fine : Int) (w : World) (hx : xs.length = 16) :
    Calls Tryd.prog 16 #[.agg (arr xs), .int .i64 base, .int .i64 fine] w fun e w' => e = .returned (.tuple #[.agg (arr (lowL xs base fine)), .agg (arr (highL xs base fine))]) ∧ Q w w' := by
  have s1 := arr_size xs
  rw [hx] at s1
  have QQ : Q w (((w.alloc (.cells (arr xs) 22)).alloc (.cells (arr (List.replicate 16 0)) 22)).alloc (.cells (arr (List.replicate 16 0)) 22)) := (by repeat (first | exact Q.refl _ | assumption | refine Q.drewN ?_ _ | refine Q.drew ?_ | refine Q.alloc ?_ _ | refine Q.trans ?_ (by assumption) | refine Q.set ?_ (by first | exact Nat.le_refl _ | omega | (simp; done) | (simp; omega)) _))
  have ba := ((Bl.new w xs hx).alloc (.cells (arr (List.replicate 16 0)) 22)).alloc (.cells (arr (List.replicate 16 0)) 22)
  have bb := (Bl.zero (w.alloc (.cells (arr xs) 22))).alloc (.cells (arr (List.replicate 16 0)) 22)
  have bc := Bl.zero ((w.alloc (.cells (arr xs) 22)).alloc (.cells (arr (List.replicate 16 0)) 22))
  simp only [World.size_alloc] at bb bc
  have hz : (List.replicate 16 (0 : Int)).length = 16 := rfl
  go_enter Tryd.func16, Tryd.ntmps16
  go_wp2_with (first | (first | refine wpList_load_arr rfl _ rfl _ rfl _ (by assumption) ?_ | refine wpList_load_arr_g (by rfl) _ rfl _ rfl _ (by assumption) ?_) | ((fail_if_success have := bd); (refine wpList_new_arr rfl _ rfl rfl rfl _ _ rfl rfl (List.replicate 16 0) rfl rfl ?_; intro wv bd q0 zv); replace ba := ba.q q0; replace bb := bb.q q0; replace bc := bc.q q0; replace QQ := QQ.trans q0; simp only [World.size_alloc] at bd zv; replace zv := Lib.hid zv; clear q0) | ((refine wpList_new_arr rfl _ rfl rfl rfl _ _ rfl rfl (List.replicate 16 0) rfl rfl ?_; intro wu be q0 zu); replace zu := Lib.hid zu; replace ba := ba.q q0; replace bb := bb.q q0; replace bc := bc.q q0; replace bd := bd.q q0; replace QQ := QQ.trans q0; clear q0))
  generalize wv.heap.size = gh at be zv zu ⊢
  cases ho : twoOk xs base fine
  · have HV : Hid (lowL xs base fine = List.replicate 16 0) := by unfold Hid lowL; rw [ho]; rfl
    have HW : Hid (highL xs base fine = List.replicate 16 0) := by unfold Hid highL; rw [ho]; rfl
    have HO := Lib.hid ho
    clear ho
    refine (l28Ok xs base fine false _ hx HO).mono ?_; rintro e wv ⟨rfl, q1⟩
    (try replace ba := ba.q q1); (try replace bb := bb.q q1); (try replace bc := bc.q q1); (try replace bd := bd.q q1); (try replace be := be.q q1); replace QQ := QQ.trans q1; have sq := q1.size; clear q1
    go_wp2_with fail
    refine wp_region_x (fun ww => Bl ww (w.heap.size + 1 + 1 + 1) (List.replicate 16 0) ∧ Bl ww (gh) (List.replicate 16 0)) (fun _ => false) (by kernel_rfl) ⟨bd.drew, be.drew⟩ (fun hS => ?_)
    refine wpAnyX_take (i := 0) (v := .agg (arr ?xv11)) rfl (by kernel_rfl) (by kernel_rfl) (by kernel_rfl) (by kernel_rfl) (fun _ _ _ h => h) (yieldsIf_load_arr (by rfl) _ rfl _ rfl _ (fun ww hSw => ?hz11)) hS ?rest11
    case hz11 => ((try dsimp only at hSw); go_split_ands; assumption)
    try simp only [Act.put, List.setIfInBounds_toArray, List.set_cons_zero, List.set_cons_succ]
    refine wpAnyX_take (i := 1) (v := .agg (arr ?xv12)) rfl (by kernel_rfl) (by kernel_rfl) (by kernel_rfl) (by kernel_rfl) (fun _ _ _ h => h) (yieldsIf_load_arr (by rfl) _ rfl _ rfl _ (fun ww hSw => ?hz12)) hS ?rest12
    case hz12 => ((try dsimp only at hSw); go_split_ands; assumption)
    try simp only [Act.put, List.setIfInBounds_toArray, List.set_cons_zero, List.set_cons_succ]
    have b7 := bb.drew
    have b8 := bc.drew
    have KD := QQ.drew
    refine wpAnyX_step (k := 2) (by kernel_rfl) rfl rfl (fun K2 hK2 => ?_)
    refine step_store_arr rfl _ _ rfl _ rfl _ _ rfl hz b7 ?_
    intro w9 b9 g9 s9
    replace b8 := b8.grown g9 (fun e => by have := Option.some.inj e; have := zv.out; omega)
    refine hK2.out _ _ ⟨hS.1.grown g9 (fun e => by have := Option.some.inj e; have := zv.out; omega), hS.2.grown g9 (fun e => by have := Option.some.inj e; have := zv.out; omega)⟩ (fun hS => ?_)
    clear hK2 K2; (try simp only [Act.put, List.setIfInBounds_toArray, List.set_cons_zero, List.set_cons_succ])
    refine wpAnyX_step (k := 3) (by kernel_rfl) rfl rfl (fun K2 hK2 => ?_)
    refine step_store_arr rfl _ _ rfl _ rfl _ _ rfl hz b8 ?_
    intro w8 b6 g8 s8
    replace b9 := b9.grown g8 (fun e => by have := Option.some.inj e; have := zv.out; omega)
    refine hK2.out _ _ ⟨hS.1.grown g8 (fun e => by have := Option.some.inj e; have := zv.out; omega), hS.2.grown g8 (fun e => by have := Option.some.inj e; have := zv.out; omega)⟩ (fun hS => ?_)
    clear hK2 K2; (try simp only [Act.put, List.setIfInBounds_toArray, List.set_cons_zero, List.set_cons_succ])
    refine wpAnyX_done (by kernel_rfl) ?_ _
    clear hS
    go_wp2_with fail
    refine bodyPost_ret (v := .tuple #[.agg (arr _), .agg (arr _)]) (results_two_rows (by rfl) _ _ _ _ _ _ _ _ _ _ _ (by rfl) (Bl.blk b9) (by rfl) (Bl.blk b6) Tryd.underlying22 rfl (by rw [arr_size, hz]; exact info_arr) (by rw [arr_size, hz]; exact info_arr)) rfl ⟨by rw [HV.out, HW.out], (KD.grown g9 (fun k e => by have := Option.some.inj e; have := zv.out; omega)).grown g8 (fun k e => by have := Option.some.inj e; have := zv.out; omega)⟩
  · have HO := Lib.hid ho
    have hb : inB xs 255 = true := by unfold twoOk at ho; rw [Bool.and_eq_true] at ho; exact ho.1
    have hr : rB base fine = true := by unfold twoOk at ho; rw [Bool.and_eq_true] at ho; exact ho.2
    obtain ⟨r1, r2, r3, r4⟩ := rB_parts hr
    obtain ⟨n, rfl⟩ : ∃ n : Nat, base = (n : Int) := ⟨base.toNat, by omega⟩
    obtain ⟨f, rfl⟩ : ∃ f : Nat, fine = (f : Int) := ⟨fine.toNat, by omega⟩
    have HV : Hid (lowL xs (n : Int) (f : Int) = tab (codeC xs (step n)) 16) := by unfold Hid lowL; rw [ho]; rfl
    have HW : Hid (highL xs (n : Int) (f : Int) = tab (fineC xs (step n) (step f)) 16) := by unfold Hid highL; rw [ho]; rfl
    have n16 : n < 16 := by omega
    have f16 : f < 16 := by omega
    have HI := Lib.hid (fun k hk => hadF_in hb k hk)
    have HJ := Lib.hid (fun k hk => codeC_in hb n k n16 hk)
    have HBN := Lib.hid (inB_bnd hb (by omega))
    have hll := hadL_len xs
    have hrl : Hid (∀ k, k < 16 → (hadL xs)[k]?.getD 0 = hadF xs k) := fun k hk => by unfold hadL; rw [tab_get _ _ _ hk]
    clear ho hb hr r1 r2 r3 r4
    refine (l28Ok xs (n : Int) (f : Int) true _ hx HO).mono ?_; rintro e wv ⟨rfl, q1⟩
    (try replace ba := ba.q q1); (try replace bb := bb.q q1); (try replace bc := bc.q q1); (try replace bd := bd.q q1); (try replace be := be.q q1); replace QQ := QQ.trans q1; have sq := q1.size; clear q1
    go_wp2_with (first | refine wpList_load_arr rfl _ rfl _ rfl _ (by assumption) ?_ | refine wpList_load_arr_g (by rfl) _ rfl _ rfl _ (by assumption) ?_)
    refine (l3Apply 255 xs _ hx HBN.out (by omega) (by omega)).mono ?_; rintro e wv ⟨rfl, q3⟩
    (try replace ba := ba.q q3); (try replace bb := bb.q q3); (try replace bc := bc.q q3); (try replace bd := bd.q q3); (try replace be := be.q q3); replace QQ := QQ.trans q3; have sq := q3.size; clear q3
    generalize hadL xs = zs at hll hrl ⊢
    have hws : gh < wv.heap.size := be.lt
    go_wp2_with (refine wpList_new_arr rfl _ rfl rfl rfl _ _ rfl rfl _ rfl hll ?_; intro w5 bf q5 s5)
    (try replace ba := ba.q q5); (try replace bb := bb.q q5); (try replace bc := bc.q q5); (try replace bd := bd.q q5); (try replace be := be.q q5); replace QQ := QQ.trans q5; have sq := q5.size; clear q5
    clear ba
    generalize wv.heap.size = g at bf s5 hws ⊢
    go_loopw [11] (fun i wr => ∃ k : Nat, k ≤ 16 ∧ i = .int .i64 k ∧ Hid (Bl wr g zs ∧ Bl wr (w.heap.size + 1) (List.replicate 16 0) ∧ Bl wr (w.heap.size + 1 + 1) (List.replicate 16 0) ∧ Bl wr (w.heap.size + 1 + 1 + 1) (tab (fun j => if j < k then codeC xs (step n) j else 0) 16) ∧ Bl wr gh (tab (fun j => if j < k then fineC xs (step n) (step f) j else 0) 16) ∧ Q w wr)) (fun i _ => 16 - (intOf i).toNat)
    case atStart => exact ⟨0, by omega, rfl, bf, bb, bc, by rw [tab_none]; exact bd, by rw [tab_none]; exact be, QQ⟩
    case round =>
      obtain ⟨k, hk, rfl, hK⟩ := hrel
      obtain ⟨k1, k2, k3, k4, k5, k6⟩ := hK.out
      clear hK bb bc bd be bf QQ
      by_cases hlt : k < 16
      · have hk16 : (k : Int) < 16 := by omega
        have hst := set_tab (codeC xs (step n)) k hlt
        have hsu := set_tab (fineC xs (step n) (step f)) k hlt
        have c1 := k1.at k hlt
        rw [hrl.out k hlt] at c1
        obtain ⟨a1, a2⟩ := HI.out k hlt
        obtain ⟨e1, e2⟩ := HJ.out k hlt
        have T1 := Lib.hid (fun z => spec_l4Quant (hadF xs k) (n : Int) n z rfl n16 a1 a2)
        have hjc : codeC xs (step n) k = quantV (hadF xs k) (step n) := rfl
        rw [← hjc] at T1
        have T2 := Lib.hid (fun z => spec_Dequantize (codeC xs (step n) k) (n : Int) n z rfl n16 e1 e2)
        have hfc : fineC xs (step n) (step f) k = quantV (cl (hadF xs k - deqV (codeC xs (step n) k) (step n)) 4080) (step f) := rfl
        obtain ⟨v1, v2⟩ := deqV_in (codeC xs (step n) k) (step n)
        have HAT : Hid ((tab (fun j => if j < k + 1 then codeC xs (step n) j else 0) 16)[k]?.getD 0 = codeC xs (step n) k) := by unfold Hid; rw [tab_get _ _ _ hlt, if_pos (by omega)]
        generalize deqV (codeC xs (step n) k) (step n) = d1 at T2 hfc v1 v2
        generalize codeC xs (step n) k = y at T1 T2 hst HAT
        clear hjc
        have HRK := Lib.hid (hrl.out k hlt)
        generalize hadF xs k = x at c1 a1 a2 T1 hfc HRK
        obtain ⟨m1, m2⟩ := cl_in (x - d1) (M := 4080) (by omega)
        have T3 := Lib.hid (fun z => clipM (x - d1) z)
        generalize cl (x - d1) 4080 = m at hfc T3 m1 m2
        have T4 := Lib.hid (fun z => spec_l4Quant m (f : Int) f z rfl f16 m1 m2)
        rw [← hfc] at T4
        generalize fineC xs (step n) (step f) k = r at hsu T4
        have w1 : IntKind.i64.wrap (x - d1) = x - d1 := IntWalk.i64_in _ ⟨by omega, by omega⟩
        have HST := Lib.hid hst
        have HSU := Lib.hid hsu
        have K1 := Lib.hid k1
        have K2 := Lib.hid k2
        have K3 := Lib.hid k3
        have K4 := Lib.hid k4
        have K5 := Lib.hid k5
        have K6 := Lib.hid k6
        clear hst hsu hfc k1 k2 k3 k4 k5 k6
        go_wp2_with fail
        refine (T1.out _).mono ?_; rintro e wa ⟨rfl, q1⟩
        have k4 := K4.out.q q1
        have c3 := k4.at k hlt
        have f3 := k4.free k
        rw [tab_at _ _ _ hlt (Nat.le_refl _)] at c3
        have n4 := k4.set k y
        rw [HST.out] at n4
        have n1 := (K1.out.q q1).far (p := ⟨w.heap.size + 1 + 1 + 1, k, none⟩) (by have := zv.out; show g ≠ w.heap.size + 1 + 1 + 1; omega) (.int .i64 y)
        have n2 := Lib.hid ((K2.out.q q1).far (p := ⟨w.heap.size + 1 + 1 + 1, k, none⟩) (by show w.heap.size + 1 ≠ w.heap.size + 1 + 1 + 1; omega) (.int .i64 y))
        have n3 := Lib.hid ((K3.out.q q1).far (p := ⟨w.heap.size + 1 + 1 + 1, k, none⟩) (by show w.heap.size + 1 + 1 ≠ w.heap.size + 1 + 1 + 1; omega) (.int .i64 y))
        have n5 := Lib.hid ((K5.out.q q1).far (p := ⟨w.heap.size + 1 + 1 + 1, k, none⟩) (by have := zv.out; show gh ≠ w.heap.size + 1 + 1 + 1; omega) (.int .i64 y))
        have n6 := Lib.hid ((K6.out.trans q1).set (p := ⟨w.heap.size + 1 + 1 + 1, k, none⟩) (by show w.heap.size ≤ w.heap.size + 1 + 1 + 1; omega) (.int .i64 y))
        have d1' := n1.at k hlt
        have d4' := n4.at k hlt
        rw [HRK.out] at d1'
        rw [HAT.out] at d4'
        have N1 := Lib.hid n1
        have N4 := Lib.hid n4
        clear k4 n1 n4 c1
        go_wp2_with fail
        generalize wa.setCell ⟨w.heap.size + 1 + 1 + 1, k, none⟩ (.int .i64 y) = wb at d1' d4' N1 N4 n2 n3 n5 n6 ⊢
        clear c3 f3 q1
        have z0 : gh < wb.heap.size := n5.out.lt
        have z1 : g < wb.heap.size := N1.out.lt
        have z4 : w.heap.size + 1 + 1 + 1 < wb.heap.size := N4.out.lt
        refine wp_region_x (fun ww => Q wb ww ∧ ww.cell? ⟨g, k, none⟩ = some (.int .i64 x) ∧ ww.cell? ⟨w.heap.size + 1 + 1 + 1, k, none⟩ = some (.int .i64 y)) (fun j => decide (14 ≤ j)) (by kernel_rfl) ⟨(Q.refl _).drew, d1', d4'⟩ (fun hS => ?_)
        refine wpAnyX_take (i := 0) (v := ?vv1) rfl (by kernel_rfl) (by kernel_rfl) (by kernel_rfl) (by kernel_rfl) (fun _ _ _ h => h) (Or.inl ⟨by rfl, ?hy1⟩) hS ?rest1
        case hy1 => (intro ww hSw; (try dsimp only at hSw); go_split_ands; go_simp; try with_reducible rfl)
        try simp only [Act.put, List.setIfInBounds_toArray, List.set_cons_zero, List.set_cons_succ]
        refine wpAnyX_take (i := 1) (v := ?vv2) rfl (by kernel_rfl) (by kernel_rfl) (by kernel_rfl) (by kernel_rfl) (fun _ _ _ h => h) (Or.inl ⟨by rfl, ?hy2⟩) hS ?rest2
        case hy2 => (intro ww hSw; (try dsimp only at hSw); go_split_ands; go_simp; try with_reducible rfl)
        try simp only [Act.put, List.setIfInBounds_toArray, List.set_cons_zero, List.set_cons_succ]
        refine wpAnyX_take (i := 2) (v := ?vv3) rfl (by kernel_rfl) (by kernel_rfl) (by kernel_rfl) (by kernel_rfl) (fun _ _ _ h => h) (Or.inl ⟨by rfl, ?hy3⟩) hS ?rest3
        case hy3 => (intro ww hSw; (try dsimp only at hSw); go_split_ands; go_simp; try with_reducible rfl)
        try simp only [Act.put, List.setIfInBounds_toArray, List.set_cons_zero, List.set_cons_succ]
        refine wpAnyX_take (i := 3) (v := ?vv4) rfl (by kernel_rfl) (by kernel_rfl) (by kernel_rfl) (by kernel_rfl) (fun _ _ _ h => h) (Or.inl ⟨by rfl, ?hy4⟩) hS ?rest4
        case hy4 => (intro ww hSw; (try dsimp only at hSw); go_split_ands; go_simp; try with_reducible rfl)
        try simp only [Act.put, List.setIfInBounds_toArray, List.set_cons_zero, List.set_cons_succ]
        refine wpAnyX_take (i := 4) (v := ?vv5) rfl (by kernel_rfl) (by kernel_rfl) (by kernel_rfl) (by kernel_rfl) (fun _ _ _ h => h) (Or.inl ⟨by rfl, ?hy5⟩) hS ?rest5
        case hy5 => (intro ww hSw; (try dsimp only at hSw); go_split_ands; go_simp; try with_reducible rfl)
        try simp only [Act.put, List.setIfInBounds_toArray, List.set_cons_zero, List.set_cons_succ]
        refine wpAnyX_take (i := 5) (v := ?vv6) rfl (by kernel_rfl) (by kernel_rfl) (by kernel_rfl) (by kernel_rfl) (fun _ _ _ h => h) (Or.inl ⟨by rfl, ?hy6⟩) hS ?rest6
        case hy6 => (intro ww hSw; (try dsimp only at hSw); go_split_ands; go_simp; try with_reducible rfl)
        try simp only [Act.put, List.setIfInBounds_toArray, List.set_cons_zero, List.set_cons_succ]
        refine wpAnyX_take (i := 6) (v := ?vv7) rfl (by kernel_rfl) (by kernel_rfl) (by kernel_rfl) (by kernel_rfl) (fun _ _ _ h => h) (Or.inl ⟨by rfl, ?hy7⟩) hS ?rest7
        case hy7 => (intro ww hSw; (try dsimp only at hSw); go_split_ands; go_simp; try with_reducible rfl)
        try simp only [Act.put, List.setIfInBounds_toArray, List.set_cons_zero, List.set_cons_succ]
        refine wpAnyX_take (i := 7) (v := ?vv8) rfl (by kernel_rfl) (by kernel_rfl) (by kernel_rfl) (by kernel_rfl) (fun _ _ _ h => h) (Or.inl ⟨by rfl, ?hy8⟩) hS ?rest8
        case hy8 => (intro ww hSw; (try dsimp only at hSw); go_split_ands; go_simp; try with_reducible rfl)
        try simp only [Act.put, List.setIfInBounds_toArray, List.set_cons_zero, List.set_cons_succ]
        refine wpAnyX_take (i := 11) (v := ?vv9) rfl (by kernel_rfl) (by kernel_rfl) (by kernel_rfl) (by kernel_rfl) (fun _ _ _ h => h) (Or.inl ⟨by rfl, ?hy9⟩) hS ?rest9
        case hy9 => (intro ww hSw; (try dsimp only at hSw); go_split_ands; go_simp; try with_reducible rfl)
        try simp only [Act.put, List.setIfInBounds_toArray, List.set_cons_zero, List.set_cons_succ]
        refine wpAnyX_step (k := 8) (by kernel_rfl) rfl rfl (fun K2 hK2 => ?_); go_simp
        refine (T2.out _).mono ?_; rintro e wc ⟨rfl, q2⟩
        have z2 := hS.1.trans q2
        refine hK2.out _ _ ⟨z2, (z2.cell _ _ (by omega)).trans d1', (z2.cell _ _ (by omega)).trans d4'⟩ (fun hS => ?_)
        clear hK2 K2; (try simp only [Act.put, List.setIfInBounds_toArray, List.set_cons_zero, List.set_cons_succ])
        refine wpAnyX_take (i := 9) (v := ?vv10) rfl (by kernel_rfl) (by kernel_rfl) (by kernel_rfl) (by kernel_rfl) (fun _ _ _ h => h) (Or.inl ⟨by rfl, ?hy10⟩) hS ?rest10
        case hy10 => (intro ww hSw; (try dsimp only at hSw); go_split_ands; go_simp; try with_reducible rfl)
        try simp only [Act.put, List.setIfInBounds_toArray, List.set_cons_zero, List.set_cons_succ]
        refine wpAnyX_step (k := 10) (by kernel_rfl) rfl rfl (fun K2 hK2 => ?_); go_simp
        refine (T3.out _).mono ?_; rintro e wd ⟨rfl, rfl⟩
        refine hK2.out _ _ hS (fun hS => ?_)
        clear hK2 K2; (try simp only [Act.put, List.setIfInBounds_toArray, List.set_cons_zero, List.set_cons_succ])
        refine wpAnyX_step (k := 12) (by kernel_rfl) rfl rfl (fun K2 hK2 => ?_); go_simp
        refine (T4.out _).mono ?_; rintro e wd ⟨rfl, q3⟩
        have z3 := z2.trans q3
        refine hK2.out _ _ ⟨z3, (z3.cell _ _ (by omega)).trans d1', (z3.cell _ _ (by omega)).trans d4'⟩ (fun hS => ?_)
        clear hK2 K2; (try simp only [Act.put, List.setIfInBounds_toArray, List.set_cons_zero, List.set_cons_succ])
        refine wpAnyX_step (k := 13) (by kernel_rfl) rfl rfl (fun K2 hK2 => ?_); go_simp
        refine hK2.out _ _ hS (fun hS => ?_)
        clear hK2 K2; (try simp only [Act.put, List.setIfInBounds_toArray, List.set_cons_zero, List.set_cons_succ])
        refine wpAnyX_tail [14] 14 (by kernel_rfl) (by decide) rfl ?_
        have k5 := n5.out.q z3
        have c6 := k5.at k hlt
        have f6 := k5.free k
        rw [tab_at _ _ _ hlt (Nat.le_refl _)] at c6
        have p5 := Lib.hid (k5.set k r)
        rw [HSU.out] at p5
        have p1 := Lib.hid ((N1.out.q z3).far (p := ⟨gh, k, none⟩) (by show g ≠ gh; omega) (.int .i64 r))
        have p2 := Lib.hid ((n2.out.q z3).far (p := ⟨gh, k, none⟩) (by have := zv.out; show w.heap.size + 1 ≠ gh; omega) (.int .i64 r))
        have p3 := Lib.hid ((n3.out.q z3).far (p := ⟨gh, k, none⟩) (by have := zv.out; show w.heap.size + 1 + 1 ≠ gh; omega) (.int .i64 r))
        have p4 := Lib.hid ((N4.out.q z3).far (p := ⟨gh, k, none⟩) (by have := zv.out; show w.heap.size + 1 + 1 + 1 ≠ gh; omega) (.int .i64 r))
        have p6 := Lib.hid ((n6.out.trans z3).set (p := ⟨gh, k, none⟩) (by have := zv.out; show w.heap.size ≤ gh; omega) (.int .i64 r))
        clear k5 z2 z3 q2 q3 hS d1' d4'
        go_wp2_with fail
        go_roundw
        case rel => exact ⟨k + 1, by omega, by go_num, p1.out, p2.out, p3.out, p4.out, p5.out, p6.out⟩
        case measure => simp [intOf]; omega
      · have hk16 : k = 16 := by omega
        subst hk16
        rw [tab_full] at k4 k5
        have hml : (tab (codeC xs (step n)) 16).length = 16 := length_tab _ _
        have hnl : (tab (fineC xs (step n) (step f)) 16).length = 16 := length_tab _ _
        generalize hms : tab (codeC xs (step n)) 16 = ms at k4 hml ⊢
        generalize hns : tab (fineC xs (step n) (step f)) 16 = ns at k5 hnl ⊢
        have HMS := Lib.hid hms
        have HNS := Lib.hid hns
        have K6 := Lib.hid k6
        clear hms hns k6
        go_wp2_with fail
        refine wp_region_x (fun ww => Bl ww (w.heap.size + 1 + 1 + 1) (ms) ∧ Bl ww (gh) (ns)) (fun _ => false) (by kernel_rfl) ⟨k4.drew, k5.drew⟩ (fun hS => ?_)
        refine wpAnyX_take (i := 0) (v := .agg (arr ?xv13)) rfl (by kernel_rfl) (by kernel_rfl) (by kernel_rfl) (by kernel_rfl) (fun _ _ _ h => h) (yieldsIf_load_arr (by rfl) _ rfl _ rfl _ (fun ww hSw => ?hz13)) hS ?rest13
        case hz13 => ((try dsimp only at hSw); go_split_ands; assumption)
        try simp only [Act.put, List.setIfInBounds_toArray, List.set_cons_zero, List.set_cons_succ]
        refine wpAnyX_take (i := 1) (v := .agg (arr ?xv14)) rfl (by kernel_rfl) (by kernel_rfl) (by kernel_rfl) (by kernel_rfl) (fun _ _ _ h => h) (yieldsIf_load_arr (by rfl) _ rfl _ rfl _ (fun ww hSw => ?hz14)) hS ?rest14
        case hz14 => ((try dsimp only at hSw); go_split_ands; assumption)
        try simp only [Act.put, List.setIfInBounds_toArray, List.set_cons_zero, List.set_cons_succ]
        have b7 := k2.drew
        have b8 := k3.drew
        have KD := K6.out.drew
        refine wpAnyX_step (k := 2) (by kernel_rfl) rfl rfl (fun K2 hK2 => ?_)
        refine step_store_arr rfl _ _ rfl _ rfl _ _ rfl hml b7 ?_
        intro w9 b9 g9 s9
        replace b8 := b8.grown g9 (fun e => by have := Option.some.inj e; have := zv.out; omega)
        refine hK2.out _ _ ⟨hS.1.grown g9 (fun e => by have := Option.some.inj e; have := zv.out; omega), hS.2.grown g9 (fun e => by have := Option.some.inj e; have := zv.out; omega)⟩ (fun hS => ?_)
        clear hK2 K2; (try simp only [Act.put, List.setIfInBounds_toArray, List.set_cons_zero, List.set_cons_succ])
        refine wpAnyX_step (k := 3) (by kernel_rfl) rfl rfl (fun K2 hK2 => ?_)
        refine step_store_arr rfl _ _ rfl _ rfl _ _ rfl hnl b8 ?_
        intro w8 b6 g8 s8
        replace b9 := b9.grown g8 (fun e => by have := Option.some.inj e; have := zv.out; omega)
        refine hK2.out _ _ ⟨hS.1.grown g8 (fun e => by have := Option.some.inj e; have := zv.out; omega), hS.2.grown g8 (fun e => by have := Option.some.inj e; have := zv.out; omega)⟩ (fun hS => ?_)
        clear hK2 K2; (try simp only [Act.put, List.setIfInBounds_toArray, List.set_cons_zero, List.set_cons_succ])
        refine wpAnyX_done (by kernel_rfl) ?_ _
        clear hS
        go_wp2_with fail
        refine bodyPost_ret (v := .tuple #[.agg (arr _), .agg (arr _)]) (results_two_rows (by rfl) _ _ _ _ _ _ _ _ _ _ _ (by rfl) (Bl.blk b9) (by rfl) (Bl.blk b6) Tryd.underlying22 rfl (by rw [arr_size, hml]; exact info_arr) (by rw [arr_size, hnl]; exact info_arr)) rfl ⟨by rw [HV.out, HW.out, HMS.out, HNS.out], (KD.grown g9 (fun k e => by have := Option.some.inj e; have := zv.out; omega)).grown g8 (fun k e => by have := Option.some.inj e; have := zv.out; omega)⟩
end Go.Proofs.YtkdmhlbmhjolcaaDoor
