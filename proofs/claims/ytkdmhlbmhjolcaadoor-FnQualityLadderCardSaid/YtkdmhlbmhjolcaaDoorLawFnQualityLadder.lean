/-
  FnQualityLadder: for every code of at most 1048576 bytes the law returns true: the squared error of the decoded block is at most that of its coefficients divided by 8, plus 16; for longer codes the law asks nothing. Condition: the table of quantization steps reads as the program's text lays it (the card ties that).
-/
import Derived.Test.YtkdmhlbmhjolcaaDoorFrameD
import Derived.Test.YtkdmhlbmhjolcaaDoorDrawD
import Derived.Test.YtkdmhlbmhjolcaaDoorQStep
import Derived.Test.YtkdmhlbmhjolcaaDoorArrEq
import Derived.Test.YtkdmhlbmhjolcaaDoorPict
import Derived.Test.YtkdmhlbmhjolcaaDoorTie
import Derived.Test.YtkdmhlbmhjolcaaDoorCards
namespace Go.Proofs.YtkdmhlbmhjolcaaDoor
open Go.ChangeShapes Go.WideShapes Go.ChangeAt Go.RowKit

theorem ladE_in {b : List Int} {n : Nat} (hb : inB b 255 = true) (hn : n < 16) (k : Nat) (hk : k < 16) :
    (-4336 ≤ (decL (codeL b n) n)[k]?.getD 0 - b[k]?.getD 0 ∧ (decL (codeL b n) n)[k]?.getD 0 - b[k]?.getD 0 ≤ 4336) := by
  have hq : qB n = true := decide_eq_true (by omega)
  have hil := inB_codeL hb hn
  have hx : decL (codeL b n) n = invL (tab (decC (codeL b n) (step n)) 16) := by
    unfold decL
    rw [hil, hq]
    rfl
  have hD : bnd (tab (decC (codeL b n) (step n)) 16) 4080 := inB_bnd (inB_tab _ _ fun j hj => deqV_in _ _) (by omega)
  have h1 := hadL_bnd hD (by omega) k
  have h2 := inB_bnd hb (by omega) k
  rw [hx]
  unfold invL
  rw [tab_get _ _ _ hk]
  omega
theorem ladS_in {b : List Int} {n : Nat} (hb : inB b 255 = true) (hn : n < 16) (k : Nat) (hk : k < 16) :
    0 ≤ ((decL (codeL b n) n)[k]?.getD 0 - b[k]?.getD 0) * ((decL (codeL b n) n)[k]?.getD 0 - b[k]?.getD 0) ∧ ((decL (codeL b n) n)[k]?.getD 0 - b[k]?.getD 0) * ((decL (codeL b n) n)[k]?.getD 0 - b[k]?.getD 0) ≤ 18800896 := by
  obtain ⟨a, c⟩ := ladE_in hb hn k hk
  have := sq_le a c
  omega
set_option maxRecDepth 100000 in
set_option maxHeartbeats 8000000 in
theorem walk_FnQualityLadder (w : World) (hT : Tb w) (v0 : Value) (x0 : Option Addr × Nat × List Int) (h0 : ArgBytes w v0 x0) :
    Calls Tryd.prog 6 #[v0] w fun e w' => e = .returned (.bool true) ∧ Q w w' := by
  have hv := h0.1; have hm := h0.2.2.1; unfold maxLen at hm; generalize hn : x0.2.2.length = nn at hv hm; have HN := Lib.hid hn; clear hn; by_cases hbig : 1048576 < nn; (subst hv; go_enter Tryd.func6, Tryd.ntmps6; go_wp2_with fail; go_ret; exact ⟨rfl, Q.refl _⟩); have H0 : ArgBytes w (.slice x0.1 nn x0.2.1) x0 := (by rw [hv] at h0; exact h0); subst hv; clear h0; go_enter Tryd.func6, Tryd.ntmps6; go_wp2_with fail
  refine (DrawCodeBlock _ _ _ H0).mono ?_; rintro e wv ⟨xs, q, rfl, hxl, hxb, k1, k2, QQ⟩
  have HT := Lib.hid (hT.q QQ)
  clear H0 hT
  have qa : Q wv (wv.alloc (.cells (arr (List.replicate 16 0)) 22)) := (by repeat (first | exact Q.refl _ | assumption | refine Q.drewN ?_ _ | refine Q.drew ?_ | refine Q.alloc ?_ _ | refine Q.trans ?_ (by assumption) | refine Q.set ?_ (by first | exact Nat.le_refl _ | omega | (simp; done) | (simp; omega)) _))
  have c0 := Bl.zero wv
  obtain ⟨wp, rfl⟩ : ∃ wp, wp = wv := ⟨_, rfl⟩
  have eg := eqg
  go_wp2_with (first | (first | refine wpList_load_arr rfl _ rfl _ rfl _ (by assumption) ?_ | refine wpList_load_arr_g (by rfl) _ rfl _ rfl _ (by assumption) ?_) | (refine wpList_store_arr rfl _ _ rfl _ rfl _ _ rfl (by first | assumption | rfl) (by assumption) ?_; intro w5 bx g5 s5))
  have qz := qa.grown g5 (fun k e => by have := Option.some.inj e; omega)
  replace QQ := QQ.trans qz
  replace HT := Lib.hid (HT.out.q qz)
  clear qz qa g5 s5 c0
  have hll := codeL_len xs q
  refine (impl_CodeBlock xs q _ HT.out hxl).mono ?_; rintro e wv ⟨rfl, q1⟩
  have hw2 : wp.heap.size < wv.heap.size := (bx.q q1).lt
  replace bx := bx.q q1
  replace QQ := QQ.trans q1
  replace HT := Lib.hid (HT.out.q q1)
  have HEQ := Lib.hid (fun w => eq_self (codeL xs q) hll w)
  obtain ⟨ls, hls⟩ : ∃ ls, codeL xs q = ls := ⟨_, rfl⟩
  have HLS := Lib.hid hls
  rw [hls] at hll HEQ ⊢
  clear q1 hls
  go_wp2_with (first | (first | refine wpList_load_arr rfl _ rfl _ rfl _ (by assumption) ?_ | refine wpList_load_arr_g (by rfl) _ rfl _ rfl _ (by assumption) ?_) | (refine wpList_new_arr rfl _ rfl rfl rfl _ _ rfl rfl _ rfl hll ?_; intro w7 bl q7 s7))
  replace bx := bx.q q7
  replace QQ := QQ.trans q7
  replace HT := Lib.hid (HT.out.q q7)
  clear q7
  generalize wv.heap.size = gx at bl s7 hw2 ⊢
  refine wp_region_x (fun ww => Q w7 ww ∧ Bl ww gx ls ∧ Bl ww wp.heap.size xs) (fun _ => false) (by kernel_rfl) ⟨(Q.refl _).drew, bl.drew, bx.drew⟩ (fun hS => ?_)
  refine wpAnyX_take (i := 0) (v := .agg (arr ?xv20)) rfl (by kernel_rfl) (by kernel_rfl) (by kernel_rfl) (by kernel_rfl) (fun _ _ _ h => h) (yieldsIf_load_arr (by rfl) _ rfl _ rfl _ (fun ww hSw => ?hz20)) hS ?rest20
  case hz20 => ((try dsimp only at hSw); go_split_ands; assumption)
  try simp only [Act.put, List.setIfInBounds_toArray, List.set_cons_zero, List.set_cons_succ]
  refine wpAnyX_take (i := 1) (v := .agg (arr ?xv21)) rfl (by kernel_rfl) (by kernel_rfl) (by kernel_rfl) (by kernel_rfl) (fun _ _ _ h => h) (yieldsIf_load_arr (by rfl) _ rfl _ rfl _ (fun ww hSw => ?hz21)) hS ?rest21
  case hz21 => ((try dsimp only at hSw); go_split_ands; assumption)
  try simp only [Act.put, List.setIfInBounds_toArray, List.set_cons_zero, List.set_cons_succ]
  refine wpAnyX_take (i := 2) (v := ?vv1) rfl (by kernel_rfl) (by kernel_rfl) (by kernel_rfl) (by kernel_rfl) (fun _ _ _ h => h) (Or.inl ⟨by rfl, ?hy1⟩) hS ?rest1
  case hy1 => (intro ww hSw; (try dsimp only at hSw); go_split_ands; go_simp; try with_reducible rfl)
  try simp only [Act.put, List.setIfInBounds_toArray, List.set_cons_zero, List.set_cons_succ]
  refine wpAnyX_step (k := 3) (by kernel_rfl) rfl rfl (fun K2 hK2 => ?_); go_simp
  refine (spec_CodeBlock xs q _ hxl).mono ?_; rw [HLS.out]; rintro e wz ⟨rfl, q3⟩
  have q4 := hS.1.trans q3
  refine hK2.out _ _ ⟨q4, bl.q q4, bx.q q4⟩ (fun hS => ?_)
  clear hK2 K2; (try simp only [Act.put, List.setIfInBounds_toArray, List.set_cons_zero, List.set_cons_succ])
  have he := HEQ.out
  refine wpAnyX_step (k := 4) (by kernel_rfl) rfl rfl (fun K2 hK2 => ?_); go_simp
  refine hK2.out _ _ hS (fun hS => ?_)
  clear hK2 K2; (try simp only [Act.put, List.setIfInBounds_toArray, List.set_cons_zero, List.set_cons_succ])
  refine wpAnyX_done (by kernel_rfl) ?_ _
  obtain ⟨wv, rfl⟩ : ∃ wv, wv = wz := ⟨_, rfl⟩
  replace bl := bl.q q4
  replace bx := bx.q q4
  replace QQ := QQ.trans q4
  replace HT := Lib.hid (HT.out.q q4)
  clear hS q3 q4 he HEQ
  go_wp2_with (first | refine wpList_load_arr rfl _ rfl _ rfl _ (by assumption) ?_ | refine wpList_load_arr_g (by rfl) _ rfl _ rfl _ (by assumption) ?_)
  refine (impl_CoefficientError xs ls q _ HT.out hxl hll).mono ?_; rintro e wz ⟨rfl, q1⟩
  replace bl := bl.q q1
  replace bx := bx.q q1
  replace QQ := QQ.trans q1
  replace HT := Lib.hid (HT.out.q q1)
  clear q1
  cases hin : (inB xs 255 && inB ls 4080 && qB q)
  · rw [coef_neg hin]
    clear hin
    go_wp2_with fail
    refine (alive _).mono ?_; rintro e wy ⟨rfl, q5⟩
    have QZ := QQ.trans q5
    go_wp2_with fail
    go_ret
    exact ⟨rfl, QZ⟩
  · simp only [Bool.and_eq_true] at hin
    obtain ⟨⟨hb, hl⟩, hq⟩ := hin
    have hqq : 0 ≤ q ∧ q ≤ 15 := of_decide_eq_true hq
    obtain ⟨n, rfl⟩ : ∃ n : Nat, q = (n : Int) := ⟨q.toNat, by omega⟩
    have n16 : n < 16 := by omega
    have hE := ladE_in hb n16
    have hF := ladS_in hb n16
    have hLad := ladder hxl hb n16
    have hp := coef_pos hb hl n16
    obtain ⟨ds, hds⟩ : ∃ ds, decL (codeL xs (n : Int)) (n : Int) = ds := ⟨_, rfl⟩
    have hdl := decL_len (codeL xs (n : Int)) (n : Int)
    rw [hds] at hE hF hLad hdl
    rw [HLS.out] at hLad hds
    generalize coefE xs ls (n : Int) = ne at hLad hp ⊢
    have hneg : decide (ne < 0) = false := decide_eq_false (by omega)
    have HDS := Lib.hid hds
    have HE := Lib.hid hE
    have HF := Lib.hid hF
    have HLad := Lib.hid hLad
    have HP := Lib.hid hp
    clear hds hE hF hLad hp hb hl hq hqq k1 k2 HLS
    go_wp2_with (first | refine wpList_load_arr rfl _ rfl _ rfl _ (by assumption) ?_ | refine wpList_load_arr_g (by rfl) _ rfl _ rfl _ (by assumption) ?_)
    refine (impl_DecodeBlock ls (n : Int) _ HT.out hll).mono ?_; rw [HDS.out]; rintro e wy ⟨rfl, q1⟩
    replace bx := bx.q q1
    replace QQ := QQ.trans q1
    clear q1 bl
    have hw3 : wp.heap.size < wy.heap.size := bx.lt
    go_wp2_with (first | (first | refine wpList_load_arr rfl _ rfl _ rfl _ (by assumption) ?_ | refine wpList_load_arr_g (by rfl) _ rfl _ rfl _ (by assumption) ?_) | (refine wpList_new_arr rfl _ rfl rfl rfl _ _ rfl rfl _ rfl hdl ?_; intro w8 bd q8 s8))
    replace bx := bx.q q8
    replace QQ := QQ.trans q8
    clear q8 HT
    generalize wy.heap.size = gd at bd s8 hw3 ⊢
    obtain ⟨wv, rfl⟩ : ∃ w9, w9 = w8 := ⟨_, rfl⟩
    have HB := Lib.hid bx
    have HD := Lib.hid bd
    have HQ := Lib.hid QQ
    clear bx bd QQ
    obtain ⟨f, hf⟩ : ∃ f : Nat → Int, f = fun k => (ds[k]?.getD 0 - xs[k]?.getD 0) * (ds[k]?.getD 0 - xs[k]?.getD 0) := ⟨_, rfl⟩
    have HFE := Lib.hid hf
    clear hf
    go_loopw [8, 9] (fun e' i wr => ∃ k : Nat, k ≤ 16 ∧ i = .int .i64 k ∧ e' = .int .i64 (sumN f k) ∧ Hid (Q wv wr)) (fun _ i _ => 16 - (intOf i).toNat)
    case atStart => exact ⟨0, by omega, rfl, rfl, Q.refl _⟩
    case round =>
      obtain ⟨k, hk, rfl, rfl, hq⟩ := hrel
      have hpos := sumN_pos f 18800896 (fun j hj => by rw [HFE.out]; exact HF.out j hj) k (by omega)
      by_cases hlt : k < 16
      · have hk16 : (k : Int) < 16 := by omega
        have c1 := (HD.out.q hq.out).at k hlt
        have c2 := (HB.out.q hq.out).at k hlt
        have e1 := HE.out k hlt
        have e2 := HF.out k hlt
        have hst : sumN f (k + 1) = sumN f k + (ds[k]?.getD 0 - xs[k]?.getD 0) * (ds[k]?.getD 0 - xs[k]?.getD 0) := by show sumN f k + f k = _; rw [HFE.out]
        generalize ds[k]?.getD 0 = a at c1 e1 e2 hst
        generalize xs[k]?.getD 0 = b at c2 e1 e2 hst
        generalize sumN f k = s at hpos hst ⊢
        have hk2 : (k : Int) * 18800896 ≤ 16 * 18800896 := Int.mul_le_mul_of_nonneg_right (by omega) (by omega)
        have hs4 : s ≤ 300814336 := by omega
        obtain ⟨d, hd⟩ : ∃ d, a - b = d := ⟨_, rfl⟩
        rw [hd] at e1 e2 hst
        obtain ⟨p, hp⟩ : ∃ p, d * d = p := ⟨_, rfl⟩
        rw [hp] at e2 hst
        have w1 : IntKind.i64.wrap (a - b) = d := by rw [hd]; exact IntWalk.i64_in _ ⟨by omega, by omega⟩
        have w2 : IntKind.i64.wrap (d * d) = p := by rw [hp]; exact IntWalk.i64_in _ ⟨by omega, by omega⟩
        have w3 : wrap64 (d * d) = p := by rw [← IntWalk.i64_left, w2]
        have w4 : IntKind.i64.wrap (s + p) = s + p := IntWalk.i64_in _ ⟨by omega, by omega⟩
        have w5 : wrap64 (a - b) = d := by rw [← IntWalk.i64_left, w1]
        have HST := Lib.hid hst
        have HQZ := Lib.hid hq.out
        clear hst hd hp hq hk2 hpos
        go_wp2_with fail
        refine wp_region_x (fun ww => Q wr ww ∧ ww.cell? ⟨gd, k, none⟩ = some (.int .i64 a) ∧ ww.cell? ⟨wp.heap.size, k, none⟩ = some (.int .i64 b)) (fun _ => false) (by kernel_rfl) ⟨(Q.refl _).drew, c1, c2⟩ (fun hS => ?_)
        refine wpAnyX_take (i := 0) (v := ?vv2) rfl (by kernel_rfl) (by kernel_rfl) (by kernel_rfl) (by kernel_rfl) (fun _ _ _ h => h) (Or.inl ⟨by rfl, ?hy2⟩) hS ?rest2
        case hy2 => (intro ww hSw; (try dsimp only at hSw); go_split_ands; go_simp; try with_reducible rfl)
        try simp only [Act.put, List.setIfInBounds_toArray, List.set_cons_zero, List.set_cons_succ]
        refine wpAnyX_take (i := 1) (v := ?vv3) rfl (by kernel_rfl) (by kernel_rfl) (by kernel_rfl) (by kernel_rfl) (fun _ _ _ h => h) (Or.inl ⟨by rfl, ?hy3⟩) hS ?rest3
        case hy3 => (intro ww hSw; (try dsimp only at hSw); go_split_ands; go_simp; try with_reducible rfl)
        try simp only [Act.put, List.setIfInBounds_toArray, List.set_cons_zero, List.set_cons_succ]
        refine wpAnyX_take (i := 2) (v := ?vv4) rfl (by kernel_rfl) (by kernel_rfl) (by kernel_rfl) (by kernel_rfl) (fun _ _ _ h => h) (Or.inl ⟨by rfl, ?hy4⟩) hS ?rest4
        case hy4 => (intro ww hSw; (try dsimp only at hSw); go_split_ands; go_simp; try with_reducible rfl)
        try simp only [Act.put, List.setIfInBounds_toArray, List.set_cons_zero, List.set_cons_succ]
        refine wpAnyX_take (i := 3) (v := ?vv5) rfl (by kernel_rfl) (by kernel_rfl) (by kernel_rfl) (by kernel_rfl) (fun _ _ _ h => h) (Or.inl ⟨by rfl, ?hy5⟩) hS ?rest5
        case hy5 => (intro ww hSw; (try dsimp only at hSw); go_split_ands; go_simp; try with_reducible rfl)
        try simp only [Act.put, List.setIfInBounds_toArray, List.set_cons_zero, List.set_cons_succ]
        refine wpAnyX_take (i := 4) (v := ?vv6) rfl (by kernel_rfl) (by kernel_rfl) (by kernel_rfl) (by kernel_rfl) (fun _ _ _ h => h) (Or.inl ⟨by rfl, ?hy6⟩) hS ?rest6
        case hy6 => (intro ww hSw; (try dsimp only at hSw); go_split_ands; go_simp; try with_reducible rfl)
        try simp only [Act.put, List.setIfInBounds_toArray, List.set_cons_zero, List.set_cons_succ]
        refine wpAnyX_take (i := 5) (v := ?vv7) rfl (by kernel_rfl) (by kernel_rfl) (by kernel_rfl) (by kernel_rfl) (fun _ _ _ h => h) (Or.inl ⟨by rfl, ?hy7⟩) hS ?rest7
        case hy7 => (intro ww hSw; (try dsimp only at hSw); go_split_ands; go_simp; try with_reducible rfl)
        try simp only [Act.put, List.setIfInBounds_toArray, List.set_cons_zero, List.set_cons_succ]
        refine wpAnyX_take (i := 6) (v := ?vv8) rfl (by kernel_rfl) (by kernel_rfl) (by kernel_rfl) (by kernel_rfl) (fun _ _ _ h => h) (Or.inl ⟨by rfl, ?hy8⟩) hS ?rest8
        case hy8 => (intro ww hSw; (try dsimp only at hSw); go_split_ands; go_simp; try with_reducible rfl)
        try simp only [Act.put, List.setIfInBounds_toArray, List.set_cons_zero, List.set_cons_succ]
        refine wpAnyX_take (i := 7) (v := ?vv9) rfl (by kernel_rfl) (by kernel_rfl) (by kernel_rfl) (by kernel_rfl) (fun _ _ _ h => h) (Or.inl ⟨by rfl, ?hy9⟩) hS ?rest9
        case hy9 => (intro ww hSw; (try dsimp only at hSw); go_split_ands; go_simp; try with_reducible rfl)
        try simp only [Act.put, List.setIfInBounds_toArray, List.set_cons_zero, List.set_cons_succ]
        refine wpAnyX_take (i := 8) (v := ?vv10) rfl (by kernel_rfl) (by kernel_rfl) (by kernel_rfl) (by kernel_rfl) (fun _ _ _ h => h) (Or.inl ⟨by rfl, ?hy10⟩) hS ?rest10
        case hy10 => (intro ww hSw; (try dsimp only at hSw); go_split_ands; go_simp; try with_reducible rfl)
        try simp only [Act.put, List.setIfInBounds_toArray, List.set_cons_zero, List.set_cons_succ]
        refine wpAnyX_take (i := 9) (v := ?vv11) rfl (by kernel_rfl) (by kernel_rfl) (by kernel_rfl) (by kernel_rfl) (fun _ _ _ h => h) (Or.inl ⟨by rfl, ?hy11⟩) hS ?rest11
        case hy11 => (intro ww hSw; (try dsimp only at hSw); go_split_ands; go_simp; try with_reducible rfl)
        try simp only [Act.put, List.setIfInBounds_toArray, List.set_cons_zero, List.set_cons_succ]
        refine wpAnyX_take (i := 10) (v := ?vv12) rfl (by kernel_rfl) (by kernel_rfl) (by kernel_rfl) (by kernel_rfl) (fun _ _ _ h => h) (Or.inl ⟨by rfl, ?hy12⟩) hS ?rest12
        case hy12 => (intro ww hSw; (try dsimp only at hSw); go_split_ands; go_simp; try with_reducible rfl)
        try simp only [Act.put, List.setIfInBounds_toArray, List.set_cons_zero, List.set_cons_succ]
        refine wpAnyX_take (i := 11) (v := ?vv13) rfl (by kernel_rfl) (by kernel_rfl) (by kernel_rfl) (by kernel_rfl) (fun _ _ _ h => h) (Or.inl ⟨by rfl, ?hy13⟩) hS ?rest13
        case hy13 => (intro ww hSw; (try dsimp only at hSw); go_split_ands; go_simp; try with_reducible rfl)
        try simp only [Act.put, List.setIfInBounds_toArray, List.set_cons_zero, List.set_cons_succ]
        refine wpAnyX_take (i := 12) (v := ?vv14) rfl (by kernel_rfl) (by kernel_rfl) (by kernel_rfl) (by kernel_rfl) (fun _ _ _ h => h) (Or.inl ⟨by rfl, ?hy14⟩) hS ?rest14
        case hy14 => (intro ww hSw; (try dsimp only at hSw); go_split_ands; go_simp; try with_reducible rfl)
        try simp only [Act.put, List.setIfInBounds_toArray, List.set_cons_zero, List.set_cons_succ]
        refine wpAnyX_take (i := 13) (v := ?vv15) rfl (by kernel_rfl) (by kernel_rfl) (by kernel_rfl) (by kernel_rfl) (fun _ _ _ h => h) (Or.inl ⟨by rfl, ?hy15⟩) hS ?rest15
        case hy15 => (intro ww hSw; (try dsimp only at hSw); go_split_ands; go_simp; try with_reducible rfl)
        try simp only [Act.put, List.setIfInBounds_toArray, List.set_cons_zero, List.set_cons_succ]
        refine wpAnyX_take (i := 14) (v := ?vv16) rfl (by kernel_rfl) (by kernel_rfl) (by kernel_rfl) (by kernel_rfl) (fun _ _ _ h => h) (Or.inl ⟨by rfl, ?hy16⟩) hS ?rest16
        case hy16 => (intro ww hSw; (try dsimp only at hSw); go_split_ands; go_simp; try with_reducible rfl)
        try simp only [Act.put, List.setIfInBounds_toArray, List.set_cons_zero, List.set_cons_succ]
        refine wpAnyX_take (i := 15) (v := ?vv17) rfl (by kernel_rfl) (by kernel_rfl) (by kernel_rfl) (by kernel_rfl) (fun _ _ _ h => h) (Or.inl ⟨by rfl, ?hy17⟩) hS ?rest17
        case hy17 => (intro ww hSw; (try dsimp only at hSw); go_split_ands; go_simp; try with_reducible rfl)
        try simp only [Act.put, List.setIfInBounds_toArray, List.set_cons_zero, List.set_cons_succ]
        refine wpAnyX_take (i := 16) (v := ?vv18) rfl (by kernel_rfl) (by kernel_rfl) (by kernel_rfl) (by kernel_rfl) (fun _ _ _ h => h) (Or.inl ⟨by rfl, ?hy18⟩) hS ?rest18
        case hy18 => (intro ww hSw; (try dsimp only at hSw); go_split_ands; go_simp; try with_reducible rfl)
        try simp only [Act.put, List.setIfInBounds_toArray, List.set_cons_zero, List.set_cons_succ]
        refine wpAnyX_take (i := 17) (v := ?vv19) rfl (by kernel_rfl) (by kernel_rfl) (by kernel_rfl) (by kernel_rfl) (fun _ _ _ h => h) (Or.inl ⟨by rfl, ?hy19⟩) hS ?rest19
        case hy19 => (intro ww hSw; (try dsimp only at hSw); go_split_ands; go_simp; try with_reducible rfl)
        try simp only [Act.put, List.setIfInBounds_toArray, List.set_cons_zero, List.set_cons_succ]
        refine wpAnyX_done (by kernel_rfl) ?_ _
        have HQ4 := Lib.hid (HQZ.out.trans hS.1)
        clear c1 c2 hS
        go_wp2_with fail
        go_roundw
        case rel => exact ⟨k + 1, by omega, by go_num, by rw [HST.out], HQ4.out⟩
        case measure => simp [intOf]; omega
      · have hk16 : k = 16 := by omega
        subst hk16
        have HZ := Lib.hid (HQ.out.trans hq.out)
        have hLad : sumN f 16 ≤ ne / 8 + 16 := by rw [HFE.out]; exact HLad.out
        have hp := HP.out
        generalize sumN f 16 = s at hLad hpos ⊢
        obtain ⟨m, hm⟩ : ∃ m, ne.tdiv 8 = m := ⟨_, rfl⟩
        have hm2 : ne / 8 = m := by rw [← hm, Int.tdiv_eq_ediv_of_nonneg hp.1]
        rw [hm2] at hLad
        have w1 : IntKind.i64.wrap (m + 16) = m + 16 := IntWalk.i64_in _ ⟨by omega, by omega⟩
        have hle : decide (s ≤ m + 16) = true := decide_eq_true hLad
        have hmb : 0 ≤ m ∧ m ≤ 133171200 := by omega
        clear hq hm2 hLad hpos
        go_wp2_with fail
        go_ret
        exact ⟨rfl, HZ.out⟩
set_option maxRecDepth 100000 in
theorem lifted_FnQualityLadder (os : Os) (started : os.Started) (H : Type) (enc : TypeId × Value → H) :
    ReturnsInHanded {} Tryd.checked os 6 .any (fun w args => (Rows.fnQualityLadderSpec.pre enc Tryd.prog Tryd.f6 [] false w args ∧ laidMetH Tryd.prog laidQ w) ∧ sizedMet enc Tryd.prog Tryd.f6 (OpenSpec.ofChange Rows.fnQualityLadderSpec) false w args) (Rows.fnQualityLadderSpec.post enc Tryd.prog Tryd.f6 false true false false) := by
  refine returnsInHanded_of_change_and (C := Tryd.checked) (X := fun w _ => laidMetH Tryd.prog laidQ w) (fun _ _ _ hh h => h.of_heap hh) own_knob started (by kernel_rfl) Tryd.func6
    (ChangeSpec.witness_shaped (enc := enc) (C := Tryd.checked) (os := os) (X := fun w _ => laidMetH Tryd.prog laidQ w) false (World.doorLaid Tryd.prog 400 os) #[.slice none 0 0] 8 rfl (World.shaped_of_RefB (by kernel_rfl) (by kernel_rfl)) (by kernel_rfl) (by kernel_rfl) (by kernel_rfl) (door_met os _)) ?_
  intro W base args ds gs before hval0 hW _ _ hL _
  have hval : ∀ (j : Nat) t v, Tryd.f6.params[j]? = some t → args[j]? = some v → Value.okWide Tryd.prog W .any base t v := hval0
  have hW' := hW
  obtain ⟨p, q, hA0, hV0, rfl, hfz, hnd⟩ := hW
  have hA : DataW.TrodAll enc Tryd.prog W 0 (fun _ => true) true Tryd.f6.params.toList args.toList ds p := hA0
  have hV : DataW.TrodVars enc Tryd.prog W (fun _ => true) [quantName] gs q := hV0
  rw [Tryd.params6] at hA hval
  obtain ⟨v0, vs0, d0, ds0, p0, q0, hargs, rfl, rfl, h0, r0⟩ := trodAll_cons hA
  obtain ⟨rfl, rfl, rfl⟩ := trodAll_nil r0
  obtain rfl : args = #[v0] := by cases args; simp_all
  have hVB : ∀ W2, Below W.heap.size W W2 → DataW.TrodVars enc Tryd.prog W2 (fun b => decide (b < W.heap.size)) [quantName] gs q := fun W2 hb => Below.trodVars laid_out hb (by kernel_rfl) hV
  obtain ⟨gv, tv, csv, fuelv, dv, pv, rfl, _, _, _, _, _⟩ := trodVars_one hV
  have k0 := h0
  have lt0 : ∀ x ∈ p0, x.block < W.heap.size := by obtain ⟨m, hm⟩ := k0; exact DataW.trod_lt m _ _ _ hm
  obtain ⟨x0, o0⟩ := open_bytes (hval 0 32 v0 rfl rfl) h0
  clear hA0 hval0 hV0
  refine (walk_FnQualityLadder W (tb_of_laid hL) v0 x0 o0).mono fun e W' ⟨he, bel⟩ => ?_
  subst he
  exact ⟨_, rfl, _, _, _, [], _, _, hW', trodAll_mk1 (shut_bool Tryd.underlying4 _), (trodAll_cons_mk (Below.trod laid_out (by kernel_rfl) (of_decide_eq_true (by kernel_rfl)) k0 bel lt0) trodAll_mk0), hVB _ bel, bel.frame _, fun h => by cases h⟩

theorem FnQualityLadder_row : Rows.FnQualityLadderSaid :=
  OpenClaim.holds_of_wide 6 Tryd.f6 rfl rfl rfl rfl rfl rfl rfl ⟨rfl, rfl, rfl, rfl, rfl⟩ rfl rfl rfl rfl rfl (by kernel_rfl) Tryd.func6 (by kernel_rfl)
    (of_decide_eq_true (by kernel_rfl)) (by unfold Func.isWrapper; first | (rw [if_pos (by decide +kernel)]; kernel_rfl) | (rw [if_neg (by decide +kernel)]; exact ⟨rfl, rfl⟩))
    (fun os started H enc _ => lifted_FnQualityLadder os started H enc)

/-- The statement. -/
theorem FnQualityLadder_holds : Rows.FnQualityLadderCardSaid :=
  Claim7.holds_tied_plain_at .later [] [.data] true (true, "0fd288b46d60ce385de9de263cac55858d689a7fd72835178befc519f3b9e924") false FnQualityLadder_row (fun _ h => by cases h) (by kernel_rfl) (fun _ h => by cases h) fnQualityLadder_row_tie rfl ⟨rfl, rfl⟩ (by kernel_rfl) rfl
    (fun f fn hf hfn => by
      obtain rfl : f = 6 := Option.some.inj ((show Tryd.prog.funcNamed "loop.example/videocodec/laws.FnQualityLadder" = some 6 by kernel_rfl).symm.trans hf) |>.symm
      obtain rfl : fn = Tryd.f6 := (Option.some.inj (Tryd.func6.symm.trans hfn)).symm
      exact ⟨by kernel_rfl, fun j t ht => by
        rw [Tryd.params6] at ht
        have hm : t ∈ [32] := by simpa using Array.mem_of_getElem? ht
        have hall : ([32].all fun u => !Tryd.prog.wantsStandIn u) = true := by kernel_rfl
        exact (show Tryd.prog.wantsStandIn t = false by simpa using List.all_eq_true.1 hall t hm)⟩)
    (by kernel_rfl)
#print axioms FnQualityLadder_holds
end Go.Proofs.YtkdmhlbmhjolcaaDoor
