/-
  JoinLayers of the reference.
-/
import Derived.Test.YtkdmhlbmhjolcaaDoorArr11
namespace Go.Proofs.YtkdmhlbmhjolcaaDoor
open Go.RowKit

set_option maxRecDepth 100000 in
set_option maxHeartbeats 2000000 in
theorem spec_JoinLayers (lo hi : List Int) (base fine : Int) (w : World) (hx : lo.length = 16) (hl : hi.length = 16) :
    Calls Tryd.prog 13 #[.agg (arr lo), .agg (arr hi), .int .i64 base, .int .i64 fine] w fun e w' => e = .returned (.agg (arr (joinL lo hi base fine))) ∧ Q w w' := by
  have s1 := arr_size lo; have s2 := arr_size hi; rw [hx] at s1; rw [hl] at s2
  have QQ : Q w (((w.alloc (.cells (arr lo) 22)).alloc (.cells (arr hi) 22)).alloc (.cells (arr (List.replicate 16 0)) 22)) := (by repeat (first | exact Q.refl _ | assumption | refine Q.drewN ?_ _ | refine Q.drew ?_ | refine Q.alloc ?_ _ | refine Q.trans ?_ (by assumption) | refine Q.set ?_ (by first | exact Nat.le_refl _ | omega | (simp; done) | (simp; omega)) _))
  have ba := ((Bl.new w lo hx).alloc (.cells (arr hi) 22)).alloc (.cells (arr (List.replicate 16 0)) 22)
  have bb := (Bl.new (w.alloc (.cells (arr lo) 22)) hi hl).alloc (.cells (arr (List.replicate 16 0)) 22)
  have bc := Bl.zero ((w.alloc (.cells (arr lo) 22)).alloc (.cells (arr hi) 22))
  simp only [World.size_alloc] at bb bc
  have hz : (List.replicate 16 (0 : Int)).length = 16 := rfl
  have s0 : (((w.alloc (.cells (arr lo) 22)).alloc (.cells (arr hi) 22)).alloc (.cells (arr (List.replicate 16 0)) 22)).heap.size = w.heap.size + 1 + 1 + 1 := by simp
  cases hb : inB lo 4080
  · have HV : Hid (joinL lo hi base fine = zeros) := by unfold Hid joinL; rw [hb]; rfl
    have HB := Lib.hid hb
    rw [HV.out]
    clear hb
    (go_enter Tryd.func13, Tryd.ntmps13; go_wp2_with (first | (first | refine wpList_load_arr rfl _ rfl _ rfl _ (by assumption) ?_ | refine wpList_load_arr_g (by rfl) _ rfl _ rfl _ (by assumption) ?_) | ((refine wpList_new_arr rfl _ rfl rfl rfl _ _ rfl rfl (List.replicate 16 0) rfl rfl ?_; intro wv bd q0 z0); replace ba := ba.q q0; replace bb := bb.q q0; replace bc := bc.q q0; replace QQ := QQ.trans q0; simp only [World.size_alloc] at bd; clear q0 z0)))
    refine (l3Ok lo 4080 false _ hx (by omega) (by omega) HB).mono ?_; rintro e wv ⟨rfl, q1⟩
    (try replace ba := ba.q q1); (try replace bb := bb.q q1); (try replace bc := bc.q q1); (try replace bd := bd.q q1); (try replace HT := Lib.hid (HT.out.q q1)); replace QQ := QQ.trans q1; have sq := q1.size; clear q1
    (go_wp2_with (first | (first | refine wpList_load_arr rfl _ rfl _ rfl _ (by assumption) ?_ | refine wpList_load_arr_g (by rfl) _ rfl _ rfl _ (by assumption) ?_) | (refine wpList_store_arr rfl _ _ rfl _ rfl _ _ rfl (by first | assumption | rfl) (by assumption) ?_; intro w9 b9 g9 s9) | (refine wpList_store_arr rfl _ _ rfl _ rfl _ (List.replicate 16 0) rfl rfl (by assumption) ?_; intro w9 b9 g9 s9)); refine bodyPost_ret (v := .agg (arr _)) (results_cell_row (by rfl) _ _ _ _ _ _ _ (by rfl) (Bl.blk b9) Tryd.underlying22 rfl (by rw [arr_size, hz]; exact info_arr)) rfl ⟨rfl, QQ.grown g9 (fun k e => by have := Option.some.inj e; omega)⟩)
  · have HB := Lib.hid hb
    cases hc : inB hi 4080
    · have HV : Hid (joinL lo hi base fine = zeros) := by unfold Hid joinL; rw [hb, hc]; rfl
      have HC := Lib.hid hc
      rw [HV.out]
      clear hb hc
      (go_enter Tryd.func13, Tryd.ntmps13; go_wp2_with (first | (first | refine wpList_load_arr rfl _ rfl _ rfl _ (by assumption) ?_ | refine wpList_load_arr_g (by rfl) _ rfl _ rfl _ (by assumption) ?_) | ((refine wpList_new_arr rfl _ rfl rfl rfl _ _ rfl rfl (List.replicate 16 0) rfl rfl ?_; intro wv bd q0 z0); replace ba := ba.q q0; replace bb := bb.q q0; replace bc := bc.q q0; replace QQ := QQ.trans q0; simp only [World.size_alloc] at bd; clear q0 z0)))
      refine (l3Ok lo 4080 true _ hx (by omega) (by omega) HB).mono ?_; rintro e wv ⟨rfl, q1⟩
      (try replace ba := ba.q q1); (try replace bb := bb.q q1); (try replace bc := bc.q q1); (try replace bd := bd.q q1); (try replace HT := Lib.hid (HT.out.q q1)); replace QQ := QQ.trans q1; have sq := q1.size; clear q1
      go_wp2_with (first | refine wpList_load_arr rfl _ rfl _ rfl _ (by assumption) ?_ | refine wpList_load_arr_g (by rfl) _ rfl _ rfl _ (by assumption) ?_)
      refine (l3Ok hi 4080 false _ hl (by omega) (by omega) HC).mono ?_; rintro e wv ⟨rfl, q1⟩
      (try replace ba := ba.q q1); (try replace bb := bb.q q1); (try replace bc := bc.q q1); (try replace bd := bd.q q1); (try replace HT := Lib.hid (HT.out.q q1)); replace QQ := QQ.trans q1; have sq := q1.size; clear q1
      (go_wp2_with (first | (first | refine wpList_load_arr rfl _ rfl _ rfl _ (by assumption) ?_ | refine wpList_load_arr_g (by rfl) _ rfl _ rfl _ (by assumption) ?_) | (refine wpList_store_arr rfl _ _ rfl _ rfl _ _ rfl (by first | assumption | rfl) (by assumption) ?_; intro w9 b9 g9 s9) | (refine wpList_store_arr rfl _ _ rfl _ rfl _ (List.replicate 16 0) rfl rfl (by assumption) ?_; intro w9 b9 g9 s9)); refine bodyPost_ret (v := .agg (arr _)) (results_cell_row (by rfl) _ _ _ _ _ _ _ (by rfl) (Bl.blk b9) Tryd.underlying22 rfl (by rw [arr_size, hz]; exact info_arr)) rfl ⟨rfl, QQ.grown g9 (fun k e => by have := Option.some.inj e; omega)⟩)
    · have HC := Lib.hid hc
      cases hq : qB base
      · have HV : Hid (joinL lo hi base fine = zeros) := by unfold Hid joinL rB; rw [hb, hc, hq]; rfl
        have HQ : Hid (decide (0 ≤ base ∧ base ≤ 15) = false) := hq
        rw [HV.out]
        clear hb hc hq
        (go_enter Tryd.func13, Tryd.ntmps13; go_wp2_with (first | (first | refine wpList_load_arr rfl _ rfl _ rfl _ (by assumption) ?_ | refine wpList_load_arr_g (by rfl) _ rfl _ rfl _ (by assumption) ?_) | ((refine wpList_new_arr rfl _ rfl rfl rfl _ _ rfl rfl (List.replicate 16 0) rfl rfl ?_; intro wv bd q0 z0); replace ba := ba.q q0; replace bb := bb.q q0; replace bc := bc.q q0; replace QQ := QQ.trans q0; simp only [World.size_alloc] at bd; clear q0 z0)))
        refine (l3Ok lo 4080 true _ hx (by omega) (by omega) HB).mono ?_; rintro e wv ⟨rfl, q1⟩
        (try replace ba := ba.q q1); (try replace bb := bb.q q1); (try replace bc := bc.q q1); (try replace bd := bd.q q1); (try replace HT := Lib.hid (HT.out.q q1)); replace QQ := QQ.trans q1; have sq := q1.size; clear q1
        go_wp2_with (first | refine wpList_load_arr rfl _ rfl _ rfl _ (by assumption) ?_ | refine wpList_load_arr_g (by rfl) _ rfl _ rfl _ (by assumption) ?_)
        refine (l3Ok hi 4080 true _ hl (by omega) (by omega) HC).mono ?_; rintro e wv ⟨rfl, q1⟩
        (try replace ba := ba.q q1); (try replace bb := bb.q q1); (try replace bc := bc.q q1); (try replace bd := bd.q q1); (try replace HT := Lib.hid (HT.out.q q1)); replace QQ := QQ.trans q1; have sq := q1.size; clear q1
        go_wp2_with (first | refine wpList_load_arr rfl _ rfl _ rfl _ (by assumption) ?_ | refine wpList_load_arr_g (by rfl) _ rfl _ rfl _ (by assumption) ?_)
        refine (l1In_b _ _ _ _ _ HQ).mono ?_; rintro e w' ⟨rfl, rfl⟩
        (go_wp2_with (first | (first | refine wpList_load_arr rfl _ rfl _ rfl _ (by assumption) ?_ | refine wpList_load_arr_g (by rfl) _ rfl _ rfl _ (by assumption) ?_) | (refine wpList_store_arr rfl _ _ rfl _ rfl _ _ rfl (by first | assumption | rfl) (by assumption) ?_; intro w9 b9 g9 s9) | (refine wpList_store_arr rfl _ _ rfl _ rfl _ (List.replicate 16 0) rfl rfl (by assumption) ?_; intro w9 b9 g9 s9)); refine bodyPost_ret (v := .agg (arr _)) (results_cell_row (by rfl) _ _ _ _ _ _ _ (by rfl) (Bl.blk b9) Tryd.underlying22 rfl (by rw [arr_size, hz]; exact info_arr)) rfl ⟨rfl, QQ.grown g9 (fun k e => by have := Option.some.inj e; omega)⟩)
      · have HQ : Hid (decide (0 ≤ base ∧ base ≤ 15) = true) := hq
        cases hr : rB base fine
        · have HV : Hid (joinL lo hi base fine = zeros) := by unfold Hid joinL; rw [hr, Bool.and_false]; rfl
          have HF : Hid (decide (0 ≤ fine ∧ fine ≤ base) = false) := by unfold rB at hr; rw [hq] at hr; exact hr
          rw [HV.out]
          clear hb hc hq hr
          (go_enter Tryd.func13, Tryd.ntmps13; go_wp2_with (first | (first | refine wpList_load_arr rfl _ rfl _ rfl _ (by assumption) ?_ | refine wpList_load_arr_g (by rfl) _ rfl _ rfl _ (by assumption) ?_) | ((refine wpList_new_arr rfl _ rfl rfl rfl _ _ rfl rfl (List.replicate 16 0) rfl rfl ?_; intro wv bd q0 z0); replace ba := ba.q q0; replace bb := bb.q q0; replace bc := bc.q q0; replace QQ := QQ.trans q0; simp only [World.size_alloc] at bd; clear q0 z0)))
          refine (l3Ok lo 4080 true _ hx (by omega) (by omega) HB).mono ?_; rintro e wv ⟨rfl, q1⟩
          (try replace ba := ba.q q1); (try replace bb := bb.q q1); (try replace bc := bc.q q1); (try replace bd := bd.q q1); (try replace HT := Lib.hid (HT.out.q q1)); replace QQ := QQ.trans q1; have sq := q1.size; clear q1
          go_wp2_with (first | refine wpList_load_arr rfl _ rfl _ rfl _ (by assumption) ?_ | refine wpList_load_arr_g (by rfl) _ rfl _ rfl _ (by assumption) ?_)
          refine (l3Ok hi 4080 true _ hl (by omega) (by omega) HC).mono ?_; rintro e wv ⟨rfl, q1⟩
          (try replace ba := ba.q q1); (try replace bb := bb.q q1); (try replace bc := bc.q q1); (try replace bd := bd.q q1); (try replace HT := Lib.hid (HT.out.q q1)); replace QQ := QQ.trans q1; have sq := q1.size; clear q1
          go_wp2_with (first | refine wpList_load_arr rfl _ rfl _ rfl _ (by assumption) ?_ | refine wpList_load_arr_g (by rfl) _ rfl _ rfl _ (by assumption) ?_)
          refine (l1In_b _ _ _ _ _ HQ).mono ?_; rintro e w' ⟨rfl, rfl⟩
          go_wp2_with (first | refine wpList_load_arr rfl _ rfl _ rfl _ (by assumption) ?_ | refine wpList_load_arr_g (by rfl) _ rfl _ rfl _ (by assumption) ?_)
          refine (l1In_b _ _ _ _ _ HF).mono ?_; rintro e w' ⟨rfl, rfl⟩
          (go_wp2_with (first | (first | refine wpList_load_arr rfl _ rfl _ rfl _ (by assumption) ?_ | refine wpList_load_arr_g (by rfl) _ rfl _ rfl _ (by assumption) ?_) | (refine wpList_store_arr rfl _ _ rfl _ rfl _ _ rfl (by first | assumption | rfl) (by assumption) ?_; intro w9 b9 g9 s9) | (refine wpList_store_arr rfl _ _ rfl _ rfl _ (List.replicate 16 0) rfl rfl (by assumption) ?_; intro w9 b9 g9 s9)); refine bodyPost_ret (v := .agg (arr _)) (results_cell_row (by rfl) _ _ _ _ _ _ _ (by rfl) (Bl.blk b9) Tryd.underlying22 rfl (by rw [arr_size, hz]; exact info_arr)) rfl ⟨rfl, QQ.grown g9 (fun k e => by have := Option.some.inj e; omega)⟩)
        · have HF : Hid (decide (0 ≤ fine ∧ fine ≤ base) = true) := by unfold rB at hr; rw [hq] at hr; exact hr
          obtain ⟨r1, r2, r3, r4⟩ := rB_parts hr
          obtain ⟨n, rfl⟩ : ∃ n : Nat, base = (n : Int) := ⟨base.toNat, by omega⟩
          obtain ⟨f, rfl⟩ : ∃ f : Nat, fine = (f : Int) := ⟨fine.toNat, by omega⟩
          have HV : Hid (joinL lo hi (n : Int) (f : Int) = invL (tab (joinC lo hi (step n) (step f)) 16)) := by unfold Hid joinL; rw [hb, hc, hr]; rfl
          rw [HV.out]
          have n16 : n < 16 := by omega
          have f16 : f < 16 := by omega
          have HI := Lib.hid (fun k hk => inB_get hb k hk)
          have HJ := Lib.hid (fun k hk => inB_get hc k hk)
          have HM : Hid (inB (tab (joinC lo hi (step n) (step f)) 16) 4080 = true) := inB_tab _ _ fun k _ => cl_in _ (by omega)
          clear hr hb hc r1 r2 r3 r4
          (go_enter Tryd.func13, Tryd.ntmps13; go_wp2_with (first | (first | refine wpList_load_arr rfl _ rfl _ rfl _ (by assumption) ?_ | refine wpList_load_arr_g (by rfl) _ rfl _ rfl _ (by assumption) ?_) | ((refine wpList_new_arr rfl _ rfl rfl rfl _ _ rfl rfl (List.replicate 16 0) rfl rfl ?_; intro wv bd q0 z0); replace ba := ba.q q0; replace bb := bb.q q0; replace bc := bc.q q0; replace QQ := QQ.trans q0; simp only [World.size_alloc] at bd; clear q0 z0)))
          refine (l3Ok lo 4080 true _ hx (by omega) (by omega) HB).mono ?_; rintro e wv ⟨rfl, q1⟩
          (try replace ba := ba.q q1); (try replace bb := bb.q q1); (try replace bc := bc.q q1); (try replace bd := bd.q q1); (try replace HT := Lib.hid (HT.out.q q1)); replace QQ := QQ.trans q1; have sq := q1.size; clear q1
          go_wp2_with (first | refine wpList_load_arr rfl _ rfl _ rfl _ (by assumption) ?_ | refine wpList_load_arr_g (by rfl) _ rfl _ rfl _ (by assumption) ?_)
          refine (l3Ok hi 4080 true _ hl (by omega) (by omega) HC).mono ?_; rintro e wv ⟨rfl, q1⟩
          (try replace ba := ba.q q1); (try replace bb := bb.q q1); (try replace bc := bc.q q1); (try replace bd := bd.q q1); (try replace HT := Lib.hid (HT.out.q q1)); replace QQ := QQ.trans q1; have sq := q1.size; clear q1
          go_wp2_with (first | refine wpList_load_arr rfl _ rfl _ rfl _ (by assumption) ?_ | refine wpList_load_arr_g (by rfl) _ rfl _ rfl _ (by assumption) ?_)
          refine (l1In_b _ _ _ _ _ HQ).mono ?_; rintro e w' ⟨rfl, rfl⟩
          go_wp2_with (first | refine wpList_load_arr rfl _ rfl _ rfl _ (by assumption) ?_ | refine wpList_load_arr_g (by rfl) _ rfl _ rfl _ (by assumption) ?_)
          refine (l1In_b _ _ _ _ _ HF).mono ?_; rintro e w' ⟨rfl, rfl⟩
          go_wp2_with (first | refine wpList_load_arr rfl _ rfl _ rfl _ (by assumption) ?_ | refine wpList_load_arr_g (by rfl) _ rfl _ rfl _ (by assumption) ?_)
          have hws : w.heap.size + 1 + 1 + 1 < wv.heap.size := bd.lt
          go_loopw [10] (fun i wr => ∃ k : Nat, k ≤ 16 ∧ i = .int .i64 k ∧ Hid (Bl wr w.heap.size lo ∧ Bl wr (w.heap.size + 1) hi ∧ Bl wr (w.heap.size + 1 + 1) zeros ∧ Q w wr ∧ Bl wr (w.heap.size + 1 + 1 + 1) (tab (fun j => if j < k then joinC lo hi (step n) (step f) j else 0) 16))) (fun i _ => 16 - (intOf i).toNat)
          case atStart => exact ⟨0, by omega, rfl, ba, bb, bc, QQ, by rw [tab_none]; exact bd⟩
          case round =>
            obtain ⟨k, hk, rfl, hK⟩ := hrel
            obtain ⟨k1, k2, k3, k4, k5⟩ := hK.out
            clear hK ba bb bc bd QQ
            by_cases hlt : k < 16
            · have hk16 : (k : Int) < 16 := by omega
              have hst := set_tab (joinC lo hi (step n) (step f)) k hlt
              have c1 := k1.at k hlt
              have c2 := k2.at k hlt
              obtain ⟨a1, a2⟩ := HI.out k (by omega)
              obtain ⟨b1, b2⟩ := HJ.out k (by omega)
              have T1 := Lib.hid (fun z => spec_Dequantize (lo[k]?.getD 0) (n : Int) n z rfl n16 a1 a2)
              have T2 := Lib.hid (fun z => spec_Dequantize (hi[k]?.getD 0) (f : Int) f z rfl f16 b1 b2)
              have hjc : joinC lo hi (step n) (step f) k = cl (deqV (lo[k]?.getD 0) (step n) + deqV (hi[k]?.getD 0) (step f)) 4080 := rfl
              obtain ⟨v1, v2⟩ := deqV_in (lo[k]?.getD 0) (step n)
              obtain ⟨v3, v4⟩ := deqV_in (hi[k]?.getD 0) (step f)
              generalize deqV (lo[k]?.getD 0) (step n) = d1 at T1 hjc v1 v2
              generalize deqV (hi[k]?.getD 0) (step f) = d2 at T2 hjc v3 v4
              generalize lo[k]?.getD 0 = x at c1 T1
              generalize hi[k]?.getD 0 = y at c2 T2
              have T3 := Lib.hid (fun z => clipM (d1 + d2) z)
              rw [← hjc] at T3
              generalize joinC lo hi (step n) (step f) k = r at hst T3
              have w1 : IntKind.i64.wrap (d1 + d2) = d1 + d2 := IntWalk.i64_in _ ⟨by omega, by omega⟩
              have HST := Lib.hid hst
              have K1 := Lib.hid k1
              have K2 := Lib.hid k2
              have K3 := Lib.hid k3
              have K4 := Lib.hid k4
              have K5 := Lib.hid k5
              have z0 := k3.lt
              clear hst hjc k1 k2 k3 k4 k5
              go_wp2_with fail
              refine wp_region_x (fun ww => Q wr ww ∧ ww.cell? ⟨w.heap.size, k, none⟩ = some (.int .i64 x) ∧ ww.cell? ⟨w.heap.size + 1, k, none⟩ = some (.int .i64 y)) (fun j => decide (14 ≤ j)) (by kernel_rfl) ⟨(Q.refl _).drew, c1, c2⟩ (fun hS => ?_)
              refine wpAnyX_take (i := 0) (v := ?vv1) rfl (by kernel_rfl) (by kernel_rfl) (by kernel_rfl) (by kernel_rfl) (fun _ _ _ h => h) (Or.inl ⟨by rfl, ?hy1⟩) hS ?rest1
              case hy1 => (intro ww hSw; (try dsimp only at hSw); go_split_ands; go_simp; try with_reducible rfl)
              try simp only [Act.put, List.setIfInBounds_toArray, List.set_cons_zero, List.set_cons_succ]
              refine wpAnyX_take (i := 1) (v := ?vv2) rfl (by kernel_rfl) (by kernel_rfl) (by kernel_rfl) (by kernel_rfl) (fun _ _ _ h => h) (Or.inl ⟨by rfl, ?hy2⟩) hS ?rest2
              case hy2 => (intro ww hSw; (try dsimp only at hSw); go_split_ands; go_simp; try with_reducible rfl)
              try simp only [Act.put, List.setIfInBounds_toArray, List.set_cons_zero, List.set_cons_succ]
              refine wpAnyX_take (i := 2) (v := ?vv3) rfl (by kernel_rfl) (by kernel_rfl) (by kernel_rfl) (by kernel_rfl) (fun _ _ _ h => h) (Or.inl ⟨by rfl, ?hy3⟩) hS ?rest3
              case hy3 => (intro ww hSw; (try dsimp only at hSw); go_split_ands; go_simp; try with_reducible rfl)
              try simp only [Act.put, List.setIfInBounds_toArray, List.set_cons_zero, List.set_cons_succ]
              refine wpAnyX_take (i := 3) (v := ?vv4) rfl (by kernel_rfl) (by kernel_rfl) (by kernel_rfl) (by kernel_rfl) (fun _ _ _ h => h) (Or.inl ⟨by rfl, ?hy4⟩) hS ?rest4
              case hy4 => (intro ww hSw; (try dsimp only at hSw); go_split_ands; go_simp; try with_reducible rfl)
              try simp only [Act.put, List.setIfInBounds_toArray, List.set_cons_zero, List.set_cons_succ]
              refine wpAnyX_take (i := 4) (v := ?vv5) rfl (by kernel_rfl) (by kernel_rfl) (by kernel_rfl) (by kernel_rfl) (fun _ _ _ h => h) (Or.inl ⟨by rfl, ?hy5⟩) hS ?rest5
              case hy5 => (intro ww hSw; (try dsimp only at hSw); go_split_ands; go_simp; try with_reducible rfl)
              try simp only [Act.put, List.setIfInBounds_toArray, List.set_cons_zero, List.set_cons_succ]
              refine wpAnyX_take (i := 6) (v := ?vv6) rfl (by kernel_rfl) (by kernel_rfl) (by kernel_rfl) (by kernel_rfl) (fun _ _ _ h => h) (Or.inl ⟨by rfl, ?hy6⟩) hS ?rest6
              case hy6 => (intro ww hSw; (try dsimp only at hSw); go_split_ands; go_simp; try with_reducible rfl)
              try simp only [Act.put, List.setIfInBounds_toArray, List.set_cons_zero, List.set_cons_succ]
              refine wpAnyX_take (i := 7) (v := ?vv7) rfl (by kernel_rfl) (by kernel_rfl) (by kernel_rfl) (by kernel_rfl) (fun _ _ _ h => h) (Or.inl ⟨by rfl, ?hy7⟩) hS ?rest7
              case hy7 => (intro ww hSw; (try dsimp only at hSw); go_split_ands; go_simp; try with_reducible rfl)
              try simp only [Act.put, List.setIfInBounds_toArray, List.set_cons_zero, List.set_cons_succ]
              refine wpAnyX_take (i := 8) (v := ?vv8) rfl (by kernel_rfl) (by kernel_rfl) (by kernel_rfl) (by kernel_rfl) (fun _ _ _ h => h) (Or.inl ⟨by rfl, ?hy8⟩) hS ?rest8
              case hy8 => (intro ww hSw; (try dsimp only at hSw); go_split_ands; go_simp; try with_reducible rfl)
              try simp only [Act.put, List.setIfInBounds_toArray, List.set_cons_zero, List.set_cons_succ]
              refine wpAnyX_take (i := 9) (v := ?vv9) rfl (by kernel_rfl) (by kernel_rfl) (by kernel_rfl) (by kernel_rfl) (fun _ _ _ h => h) (Or.inl ⟨by rfl, ?hy9⟩) hS ?rest9
              case hy9 => (intro ww hSw; (try dsimp only at hSw); go_split_ands; go_simp; try with_reducible rfl)
              try simp only [Act.put, List.setIfInBounds_toArray, List.set_cons_zero, List.set_cons_succ]
              refine wpAnyX_step (k := 5) (by kernel_rfl) rfl rfl (fun K2 hK2 => ?_); go_simp
              refine (T1.out _).mono ?_; rintro e wa ⟨rfl, q1⟩
              have z1 := hS.1.trans q1
              refine hK2.out _ _ ⟨z1, (z1.cell _ _ (by omega)).trans c1, (z1.cell _ _ (by omega)).trans c2⟩ (fun hS => ?_)
              clear hK2 K2; (try simp only [Act.put, List.setIfInBounds_toArray, List.set_cons_zero, List.set_cons_succ])
              refine wpAnyX_step (k := 10) (by kernel_rfl) rfl rfl (fun K2 hK2 => ?_); go_simp
              refine (T2.out _).mono ?_; rintro e wb ⟨rfl, q2⟩
              have z2 := z1.trans q2
              refine hK2.out _ _ ⟨z2, (z2.cell _ _ (by omega)).trans c1, (z2.cell _ _ (by omega)).trans c2⟩ (fun hS => ?_)
              clear hK2 K2; (try simp only [Act.put, List.setIfInBounds_toArray, List.set_cons_zero, List.set_cons_succ])
              refine wpAnyX_take (i := 11) (v := ?vv10) rfl (by kernel_rfl) (by kernel_rfl) (by kernel_rfl) (by kernel_rfl) (fun _ _ _ h => h) (Or.inl ⟨by rfl, ?hy10⟩) hS ?rest10
              case hy10 => (intro ww hSw; (try dsimp only at hSw); go_split_ands; go_simp; try with_reducible rfl)
              try simp only [Act.put, List.setIfInBounds_toArray, List.set_cons_zero, List.set_cons_succ]
              refine wpAnyX_step (k := 12) (by kernel_rfl) rfl rfl (fun K2 hK2 => ?_); go_simp
              refine (T3.out _).mono ?_; rintro e wc ⟨rfl, rfl⟩
              refine hK2.out _ _ hS (fun hS => ?_)
              clear hK2 K2; (try simp only [Act.put, List.setIfInBounds_toArray, List.set_cons_zero, List.set_cons_succ])
              refine wpAnyX_step (k := 13) (by kernel_rfl) rfl rfl (fun K2 hK2 => ?_); go_simp
              refine hK2.out _ _ hS (fun hS => ?_)
              clear hK2 K2; (try simp only [Act.put, List.setIfInBounds_toArray, List.set_cons_zero, List.set_cons_succ])
              refine wpAnyX_tail [14] 14 (by kernel_rfl) (by decide) rfl ?_
              have k5 := K5.out.q z2
              have c3 := k5.at k hlt
              have f3 := k5.free k
              rw [tab_at _ _ _ hlt (Nat.le_refl _)] at c3
              have n5 := Lib.hid (k5.set k r)
              rw [HST.out] at n5
              have n1 := Lib.hid ((K1.out.q z2).far (p := ⟨w.heap.size + 1 + 1 + 1, k, none⟩) (by show w.heap.size ≠ w.heap.size + 1 + 1 + 1; omega) (.int .i64 r))
              have n2 := Lib.hid ((K2.out.q z2).far (p := ⟨w.heap.size + 1 + 1 + 1, k, none⟩) (by show w.heap.size + 1 ≠ w.heap.size + 1 + 1 + 1; omega) (.int .i64 r))
              have n3 := Lib.hid ((K3.out.q z2).far (p := ⟨w.heap.size + 1 + 1 + 1, k, none⟩) (by show w.heap.size + 1 + 1 ≠ w.heap.size + 1 + 1 + 1; omega) (.int .i64 r))
              have n4 := Lib.hid ((K4.out.trans z2).set (p := ⟨w.heap.size + 1 + 1 + 1, k, none⟩) (by show w.heap.size ≤ w.heap.size + 1 + 1 + 1; omega) (.int .i64 r))
              clear k5 z1 z2 q1 q2 hS c1 c2
              go_wp2_with fail
              go_roundw
              case rel => exact ⟨k + 1, by omega, by go_num, n1.out, n2.out, n3.out, n4.out, n5.out⟩
              case measure => simp [intOf]; omega
            · have hk16 : k = 16 := by omega
              subst hk16
              rw [tab_full] at k5
              have hml : (tab (joinC lo hi (step n) (step f)) 16).length = 16 := length_tab _ _
              generalize hms : tab (joinC lo hi (step n) (step f)) 16 = ms at k5 HM hml
              have HMS := Lib.hid hms
              clear hms
              have hil := invL_len ms
              go_wp2_with (first | refine wpList_load_arr rfl _ rfl _ rfl _ (by assumption) ?_ | refine wpList_load_arr_g (by rfl) _ rfl _ rfl _ (by assumption) ?_)
              refine (l3Inverse ms _ hml HM).mono ?_; rintro e wv ⟨rfl, q1⟩
              replace k3 := k3.q q1
              replace k4 := k4.trans q1
              have K4 := Lib.hid k4
              clear k4 q1
              generalize hvs : invL ms = vs at hil ⊢
              have HVS := Lib.hid hvs
              clear hvs
              go_wp2_with (first | (first | refine wpList_load_arr rfl _ rfl _ rfl _ (by assumption) ?_ | refine wpList_load_arr_g (by rfl) _ rfl _ rfl _ (by assumption) ?_) | (refine wpList_store_arr rfl _ _ rfl _ rfl _ _ rfl (by first | assumption | rfl) (by assumption) ?_; intro w9 b9 g9 s9))
              refine bodyPost_ret (v := .agg (arr _)) (results_cell_row (by rfl) _ _ _ _ _ _ _ (by rfl) (Bl.blk b9) Tryd.underlying22 rfl (by rw [arr_size, hil]; exact info_arr)) rfl ⟨by rw [HMS.out, HVS.out], K4.out.grown g9 (fun k e => by have := Option.some.inj e; omega)⟩
  end Go.Proofs.YtkdmhlbmhjolcaaDoor
