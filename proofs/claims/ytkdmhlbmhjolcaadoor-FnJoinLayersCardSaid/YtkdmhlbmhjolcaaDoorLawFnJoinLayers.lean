/-
  FnJoinLayers: for every code of at most 1048576 bytes the law returns true: without refinement JoinLayers is DecodeBlock of the base levels; for longer codes the law asks nothing. Condition: the table of quantization steps reads as the program's text lays it (the card ties that).
-/
import Derived.Test.YtkdmhlbmhjolcaaDoorFrameD
import Derived.Test.YtkdmhlbmhjolcaaDoorDrawJ
import Derived.Test.YtkdmhlbmhjolcaaDoorArr12
import Derived.Test.YtkdmhlbmhjolcaaDoorArr16
import Derived.Test.YtkdmhlbmhjolcaaDoorArrEq
import Derived.Test.YtkdmhlbmhjolcaaDoorPict
import Derived.Test.YtkdmhlbmhjolcaaDoorTie
import Derived.Test.YtkdmhlbmhjolcaaDoorCards
namespace Go.Proofs.YtkdmhlbmhjolcaaDoor
open Go.ChangeShapes Go.WideShapes Go.ChangeAt Go.RowKit

theorem join_alone (lo : List Int) (base fine : Int) (h : rB base fine = true) : joinL lo zeros base fine = decL lo base := by
  have hq : qB base = true := by unfold rB at h; rw [Bool.and_eq_true] at h; exact h.1
  have hz : inB zeros 4080 = true := by decide
  unfold joinL decL
  rw [h, hz, hq]
  cases hb : inB lo 4080
  · rfl
  · show invL (tab (joinC lo zeros (step base.toNat) (step fine.toNat)) 16) = invL (tab (decC lo (step base.toNat)) 16)
    congr 1
    refine tab_congr _ _ _ fun k hk => ?_
    unfold joinC decC
    have z : zeros[k]?.getD 0 = 0 := by unfold zeros; rw [List.getElem?_replicate_of_lt hk]; rfl
    have z0 : deqV 0 (step fine.toNat) = 0 := by unfold deqV cl; simp
    rw [z, z0, Int.add_zero]
    obtain ⟨a, b⟩ := deqV_in (lo[k]?.getD 0) (step base.toNat)
    exact cl_same a b
theorem eqg : Tryd.prog.eqGuardType Tryd.prog.depth 22 = false := by kernel_rfl
set_option maxRecDepth 100000 in
set_option maxHeartbeats 8000000 in
theorem walk_FnJoinLayers (w : World) (hT : Tb w) (v0 : Value) (x0 : Option Addr × Nat × List Int) (h0 : ArgBytes w v0 x0) :
    Calls Tryd.prog 8 #[v0] w fun e w' => e = .returned (.bool true) ∧ Q w w' := by
  have hv := h0.1; have hm := h0.2.2.1; unfold maxLen at hm; generalize hn : x0.2.2.length = nn at hv hm; have HN := Lib.hid hn; clear hn; by_cases hbig : 1048576 < nn; (subst hv; go_enter Tryd.func8, Tryd.ntmps8; go_wp2_with fail; go_ret; exact ⟨rfl, Q.refl _⟩); have H0 : ArgBytes w (.slice x0.1 nn x0.2.1) x0 := (by rw [hv] at h0; exact h0); subst hv; clear h0; go_enter Tryd.func8, Tryd.ntmps8; go_wp2_with fail
  refine (DrawJoinLayers _ _ _ H0).mono ?_; rintro e wv ⟨lo, hi, q, f, rfl, hxl, hhl, ⟨k1, k2⟩, ⟨k3, k4⟩, QQ⟩
  have HT := Lib.hid (hT.q QQ)
  clear H0 hT
  have qa : Q wv ((wv.alloc (.cells (arr (List.replicate 16 0)) 22)).alloc (.cells (arr (List.replicate 16 0)) 22)) := (by repeat (first | exact Q.refl _ | assumption | refine Q.drewN ?_ _ | refine Q.drew ?_ | refine Q.alloc ?_ _ | refine Q.trans ?_ (by assumption) | refine Q.set ?_ (by first | exact Nat.le_refl _ | omega | (simp; done) | (simp; omega)) _))
  have c0 := (Bl.zero wv).alloc (.cells (arr (List.replicate 16 0)) 22)
  have c1 := Bl.zero (wv.alloc (.cells (arr (List.replicate 16 0)) 22))
  rw [World.size_alloc] at c1
  obtain ⟨wp, rfl⟩ : ∃ wp, wp = wv := ⟨_, rfl⟩
  have eg := eqg
  go_wp2_with (first | (first | refine wpList_load_arr rfl _ rfl _ rfl _ (by assumption) ?_ | refine wpList_load_arr_g (by rfl) _ rfl _ rfl _ (by assumption) ?_) | ((refine wpList_store_arr rfl _ _ rfl _ rfl _ _ rfl (by first | assumption | rfl) (by assumption) ?_; intro w5 bl g5 s5); replace c1 := c1.grown g5 (fun e => by have := Option.some.inj e; omega)) | ((refine wpList_store_arr rfl _ _ rfl _ rfl _ _ rfl (by first | assumption | rfl) (by assumption) ?_; intro w6 bh g6 s6); replace bl := bl.grown g6 (fun e => by have := Option.some.inj e; omega)))
  have qz := (qa.grown g5 (fun k e => by have := Option.some.inj e; omega)).grown g6 (fun k e => by have := Option.some.inj e; omega)
  replace QQ := QQ.trans qz
  replace HT := Lib.hid (HT.out.q qz)
  clear qz qa g5 g6 s5 s6 c0 c1
  have hjl := joinL_len lo hi q f
  have HEQ := Lib.hid (fun w => eq_self (joinL lo hi q f) hjl w)
  refine (impl_JoinLayers lo hi q f _ HT.out hxl hhl).mono ?_; rintro e wv ⟨rfl, q1⟩
  have hw2 : wp.heap.size + 1 < wv.heap.size := (bh.q q1).lt
  generalize hxv : joinL lo hi q f = xv at hjl HEQ ⊢
  have HXV := Lib.hid hxv
  clear hxv
  replace bl := bl.q q1
  replace bh := bh.q q1
  replace QQ := QQ.trans q1
  replace HT := Lib.hid (HT.out.q q1)
  clear q1
  go_wp2_with (first | (first | refine wpList_load_arr rfl _ rfl _ rfl _ (by assumption) ?_ | refine wpList_load_arr_g (by rfl) _ rfl _ rfl _ (by assumption) ?_) | (refine wpList_new_arr rfl _ rfl rfl rfl _ _ rfl rfl _ rfl hjl ?_; intro w7 bx q7 s7))
  replace bl := bl.q q7
  replace bh := bh.q q7
  replace QQ := QQ.trans q7
  replace HT := Lib.hid (HT.out.q q7)
  clear q7
  generalize wv.heap.size = gx at bx s7 hw2 ⊢
  refine wp_region_x (fun ww => Q w7 ww ∧ Bl ww gx xv ∧ Bl ww wp.heap.size lo ∧ Bl ww (wp.heap.size + 1) hi) (fun _ => false) (by kernel_rfl) ⟨(Q.refl _).drew, bx.drew, bl.drew, bh.drew⟩ (fun hS => ?_)
  refine wpAnyX_take (i := 0) (v := .agg (arr ?xv10)) rfl (by kernel_rfl) (by kernel_rfl) (by kernel_rfl) (by kernel_rfl) (fun _ _ _ h => h) (yieldsIf_load_arr (by rfl) _ rfl _ rfl _ (fun ww hSw => ?hz10)) hS ?rest10
  case hz10 => ((try dsimp only at hSw); go_split_ands; assumption)
  try simp only [Act.put, List.setIfInBounds_toArray, List.set_cons_zero, List.set_cons_succ]
  refine wpAnyX_take (i := 1) (v := .agg (arr ?xv11)) rfl (by kernel_rfl) (by kernel_rfl) (by kernel_rfl) (by kernel_rfl) (fun _ _ _ h => h) (yieldsIf_load_arr (by rfl) _ rfl _ rfl _ (fun ww hSw => ?hz11)) hS ?rest11
  case hz11 => ((try dsimp only at hSw); go_split_ands; assumption)
  try simp only [Act.put, List.setIfInBounds_toArray, List.set_cons_zero, List.set_cons_succ]
  refine wpAnyX_take (i := 2) (v := .agg (arr ?xv12)) rfl (by kernel_rfl) (by kernel_rfl) (by kernel_rfl) (by kernel_rfl) (fun _ _ _ h => h) (yieldsIf_load_arr (by rfl) _ rfl _ rfl _ (fun ww hSw => ?hz12)) hS ?rest12
  case hz12 => ((try dsimp only at hSw); go_split_ands; assumption)
  try simp only [Act.put, List.setIfInBounds_toArray, List.set_cons_zero, List.set_cons_succ]
  refine wpAnyX_take (i := 3) (v := ?vv1) rfl (by kernel_rfl) (by kernel_rfl) (by kernel_rfl) (by kernel_rfl) (fun _ _ _ h => h) (Or.inl ⟨by rfl, ?hy1⟩) hS ?rest1
  case hy1 => (intro ww hSw; (try dsimp only at hSw); go_split_ands; go_simp; try with_reducible rfl)
  try simp only [Act.put, List.setIfInBounds_toArray, List.set_cons_zero, List.set_cons_succ]
  refine wpAnyX_take (i := 4) (v := ?vv2) rfl (by kernel_rfl) (by kernel_rfl) (by kernel_rfl) (by kernel_rfl) (fun _ _ _ h => h) (Or.inl ⟨by rfl, ?hy2⟩) hS ?rest2
  case hy2 => (intro ww hSw; (try dsimp only at hSw); go_split_ands; go_simp; try with_reducible rfl)
  try simp only [Act.put, List.setIfInBounds_toArray, List.set_cons_zero, List.set_cons_succ]
  refine wpAnyX_step (k := 5) (by kernel_rfl) rfl rfl (fun K2 hK2 => ?_); go_simp
  refine (spec_JoinLayers lo hi q f _ hxl hhl).mono ?_; rw [HXV.out]; rintro e wz ⟨rfl, q3⟩
  have q4 := hS.1.trans q3
  refine hK2.out _ _ ⟨q4, bx.q q4, bl.q q4, bh.q q4⟩ (fun hS => ?_)
  clear hK2 K2; (try simp only [Act.put, List.setIfInBounds_toArray, List.set_cons_zero, List.set_cons_succ])
  have he := HEQ.out
  refine wpAnyX_step (k := 6) (by kernel_rfl) rfl rfl (fun K2 hK2 => ?_); go_simp
  refine hK2.out _ _ hS (fun hS => ?_)
  clear hK2 K2; (try simp only [Act.put, List.setIfInBounds_toArray, List.set_cons_zero, List.set_cons_succ])
  refine wpAnyX_done (by kernel_rfl) ?_ _
  obtain ⟨wv, rfl⟩ : ∃ wv, wv = wz := ⟨_, rfl⟩
  replace bl := bl.q q4
  replace bh := bh.q q4
  replace bx := bx.q q4
  replace QQ := QQ.trans q4
  replace HT := Lib.hid (HT.out.q q4)
  clear hS q3 q4 he
  cases hr : rB q f
  · have hz : xv = List.replicate 16 0 := by rw [← HXV.out]; unfold joinL; rw [hr, Bool.and_false]; rfl
    have he : ∀ w, (Op.equalIn 10000 22 (.agg (arr xv)) (.agg #[.int .i64 0, .int .i64 0, .int .i64 0, .int .i64 0, .int .i64 0, .int .i64 0, .int .i64 0, .int .i64 0, .int .i64 0, .int .i64 0, .int .i64 0, .int .i64 0, .int .i64 0, .int .i64 0, .int .i64 0, .int .i64 0])).run Tryd.prog w = .ok true w := fun w => by rw [hz]; exact eq_self (List.replicate 16 0) rfl w
    clear HXV HEQ hz
    have hno : q < 0 ∨ 15 < q ∨ q < f := by
      by_cases h1 : 0 ≤ q
      · by_cases h2 : q ≤ 15
        · by_cases h3 : f ≤ q
          · exfalso
            unfold rB qB at hr
            rw [decide_eq_true ⟨h1, h2⟩, decide_eq_true ⟨k3, h3⟩] at hr
            cases hr
          · omega
        · omega
      · omega
    clear hr
    have h3 : decide (f < 0) = false := decide_eq_false (by omega)
    by_cases h1 : q < 0
    · go_wp2_with (first | refine wpList_load_arr rfl _ rfl _ rfl _ (by assumption) ?_ | refine wpList_load_arr_g (by rfl) _ rfl _ rfl _ (by assumption) ?_)
      refine (alive _).mono ?_; rintro e wy ⟨rfl, q5⟩
      have QZ := QQ.trans q5
      go_wp2_with fail
      go_ret
      exact ⟨rfl, QZ⟩
    · have h1' : decide (q < 0) = false := decide_eq_false h1
      by_cases h2 : 15 < q
      · go_wp2_with (first | refine wpList_load_arr rfl _ rfl _ rfl _ (by assumption) ?_ | refine wpList_load_arr_g (by rfl) _ rfl _ rfl _ (by assumption) ?_)
        refine (alive _).mono ?_; rintro e wy ⟨rfl, q5⟩
        have QZ := QQ.trans q5
        go_wp2_with fail
        go_ret
        exact ⟨rfl, QZ⟩
      · have h2' : decide (15 < q) = false := decide_eq_false h2
        have h4 : q < f := by omega
        go_wp2_with (first | refine wpList_load_arr rfl _ rfl _ rfl _ (by assumption) ?_ | refine wpList_load_arr_g (by rfl) _ rfl _ rfl _ (by assumption) ?_)
        refine (alive _).mono ?_; rintro e wy ⟨rfl, q5⟩
        have QZ := QQ.trans q5
        go_wp2_with fail
        go_ret
        exact ⟨rfl, QZ⟩
  · have HA := Lib.hid (join_alone lo q f hr)
    obtain ⟨r1, r2, r3, r4⟩ := rB_parts hr
    have hdl := decL_len lo q
    have HEQ2 := Lib.hid (fun w => eq_self (decL lo q) hdl w)
    clear hr HEQ HXV
    go_wp2_with (first | refine wpList_load_arr rfl _ rfl _ rfl _ (by assumption) ?_ | refine wpList_load_arr_g (by rfl) _ rfl _ rfl _ (by assumption) ?_)
    refine wp_region_x (fun ww => Q wv ww ∧ Bl ww wp.heap.size lo) (fun _ => false) (by kernel_rfl) ⟨(Q.refl _).drew, bl.drew⟩ (fun hS => ?_)
    refine wpAnyX_take (i := 0) (v := .agg (arr ?xv13)) rfl (by kernel_rfl) (by kernel_rfl) (by kernel_rfl) (by kernel_rfl) (fun _ _ _ h => h) (yieldsIf_load_arr (by rfl) _ rfl _ rfl _ (fun ww hSw => ?hz13)) hS ?rest13
    case hz13 => ((try dsimp only at hSw); go_split_ands; assumption)
    try simp only [Act.put, List.setIfInBounds_toArray, List.set_cons_zero, List.set_cons_succ]
    refine wpAnyX_take (i := 5) (v := .agg (arr ?xv14)) rfl (by kernel_rfl) (by kernel_rfl) (by kernel_rfl) (by kernel_rfl) (fun _ _ _ h => h) (yieldsIf_load_arr (by rfl) _ rfl _ rfl _ (fun ww hSw => ?hz14)) hS ?rest14
    case hz14 => ((try dsimp only at hSw); go_split_ands; assumption)
    try simp only [Act.put, List.setIfInBounds_toArray, List.set_cons_zero, List.set_cons_succ]
    refine wpAnyX_take (i := 1) (v := ?vv3) rfl (by kernel_rfl) (by kernel_rfl) (by kernel_rfl) (by kernel_rfl) (fun _ _ _ h => h) (Or.inl ⟨by rfl, ?hy3⟩) hS ?rest3
    case hy3 => (intro ww hSw; (try dsimp only at hSw); go_split_ands; go_simp; try with_reducible rfl)
    try simp only [Act.put, List.setIfInBounds_toArray, List.set_cons_zero, List.set_cons_succ]
    refine wpAnyX_take (i := 2) (v := ?vv4) rfl (by kernel_rfl) (by kernel_rfl) (by kernel_rfl) (by kernel_rfl) (fun _ _ _ h => h) (Or.inl ⟨by rfl, ?hy4⟩) hS ?rest4
    case hy4 => (intro ww hSw; (try dsimp only at hSw); go_split_ands; go_simp; try with_reducible rfl)
    try simp only [Act.put, List.setIfInBounds_toArray, List.set_cons_zero, List.set_cons_succ]
    refine wpAnyX_take (i := 3) (v := ?vv5) rfl (by kernel_rfl) (by kernel_rfl) (by kernel_rfl) (by kernel_rfl) (fun _ _ _ h => h) (Or.inl ⟨by rfl, ?hy5⟩) hS ?rest5
    case hy5 => (intro ww hSw; (try dsimp only at hSw); go_split_ands; go_simp; try with_reducible rfl)
    try simp only [Act.put, List.setIfInBounds_toArray, List.set_cons_zero, List.set_cons_succ]
    refine wpAnyX_take (i := 6) (v := ?vv6) rfl (by kernel_rfl) (by kernel_rfl) (by kernel_rfl) (by kernel_rfl) (fun _ _ _ h => h) (Or.inl ⟨by rfl, ?hy6⟩) hS ?rest6
    case hy6 => (intro ww hSw; (try dsimp only at hSw); go_split_ands; go_simp; try with_reducible rfl)
    try simp only [Act.put, List.setIfInBounds_toArray, List.set_cons_zero, List.set_cons_succ]
    refine wpAnyX_step (k := 4) (by kernel_rfl) rfl rfl (fun K2 hK2 => ?_); go_simp
    refine (impl_JoinLayers lo (List.replicate 16 0) q f _ (HT.out.q hS.1) hxl rfl).mono ?_; rw [show joinL lo (List.replicate 16 0) q f = decL lo q from HA.out]; rintro e wz ⟨rfl, q3⟩
    have q4 := hS.1.trans q3
    refine hK2.out _ _ ⟨q4, bl.q q4⟩ (fun hS => ?_)
    clear hK2 K2; (try simp only [Act.put, List.setIfInBounds_toArray, List.set_cons_zero, List.set_cons_succ])
    refine wpAnyX_step (k := 7) (by kernel_rfl) rfl rfl (fun K2 hK2 => ?_); go_simp
    refine (impl_DecodeBlock lo q _ (HT.out.q q4) hxl).mono ?_; rintro e wy ⟨rfl, q5⟩
    have q6 := q4.trans q5
    refine hK2.out _ _ ⟨q6, bl.q q6⟩ (fun hS => ?_)
    clear hK2 K2; (try simp only [Act.put, List.setIfInBounds_toArray, List.set_cons_zero, List.set_cons_succ])
    have he := HEQ2.out
    generalize decL lo q = dl at he hdl
    refine wpAnyX_step (k := 8) (by kernel_rfl) rfl rfl (fun K2 hK2 => ?_); go_simp
    refine hK2.out _ _ ⟨q6, bl.q q6⟩ (fun hS => ?_)
    clear hK2 K2; (try simp only [Act.put, List.setIfInBounds_toArray, List.set_cons_zero, List.set_cons_succ])
    refine wpAnyX_take (i := 9) (v := ?vv7) rfl (by kernel_rfl) (by kernel_rfl) (by kernel_rfl) (by kernel_rfl) (fun _ _ _ h => h) (Or.inl ⟨by rfl, ?hy7⟩) hS ?rest7
    case hy7 => (intro ww hSw; (try dsimp only at hSw); go_split_ands; go_simp; try with_reducible rfl)
    try simp only [Act.put, List.setIfInBounds_toArray, List.set_cons_zero, List.set_cons_succ]
    refine wpAnyX_step (k := 10) (by kernel_rfl) rfl rfl (fun K2 hK2 => ?_); go_simp
    refine (alive _).mono ?_; rintro e wx ⟨rfl, q7⟩
    have q8 := q6.trans q7
    refine hK2.out _ _ ⟨q8, bl.q q8⟩ (fun hS => ?_)
    clear hK2 K2; (try simp only [Act.put, List.setIfInBounds_toArray, List.set_cons_zero, List.set_cons_succ])
    refine wpAnyX_take (i := 11) (v := ?vv8) rfl (by kernel_rfl) (by kernel_rfl) (by kernel_rfl) (by kernel_rfl) (fun _ _ _ h => h) (Or.inl ⟨by rfl, ?hy8⟩) hS ?rest8
    case hy8 => (intro ww hSw; (try dsimp only at hSw); go_split_ands; go_simp; try with_reducible rfl)
    try simp only [Act.put, List.setIfInBounds_toArray, List.set_cons_zero, List.set_cons_succ]
    refine wpAnyX_take (i := 12) (v := ?vv9) rfl (by kernel_rfl) (by kernel_rfl) (by kernel_rfl) (by kernel_rfl) (fun _ _ _ h => h) (Or.inl ⟨by rfl, ?hy9⟩) hS ?rest9
    case hy9 => (intro ww hSw; (try dsimp only at hSw); go_split_ands; go_simp; try with_reducible rfl)
    try simp only [Act.put, List.setIfInBounds_toArray, List.set_cons_zero, List.set_cons_succ]
    refine wpAnyX_done (by kernel_rfl) ?_ _
    have QZ := QQ.trans q8
    clear hS
    go_wp2_with fail
    go_ret
    exact ⟨rfl, QZ⟩
set_option maxRecDepth 100000 in
theorem lifted_FnJoinLayers (os : Os) (started : os.Started) (H : Type) (enc : TypeId × Value → H) :
    ReturnsInHanded {} Tryd.checked os 8 .any (fun w args => (Rows.fnJoinLayersSpec.pre enc Tryd.prog Tryd.f8 [] false w args ∧ laidMetH Tryd.prog laidQ w) ∧ sizedMet enc Tryd.prog Tryd.f8 (OpenSpec.ofChange Rows.fnJoinLayersSpec) false w args) (Rows.fnJoinLayersSpec.post enc Tryd.prog Tryd.f8 false true false false) := by
  refine returnsInHanded_of_change_and (C := Tryd.checked) (X := fun w _ => laidMetH Tryd.prog laidQ w) (fun _ _ _ hh h => h.of_heap hh) own_knob started (by kernel_rfl) Tryd.func8
    (ChangeSpec.witness_shaped (enc := enc) (C := Tryd.checked) (os := os) (X := fun w _ => laidMetH Tryd.prog laidQ w) false (World.doorLaid Tryd.prog 400 os) #[.slice none 0 0] 8 rfl (World.shaped_of_RefB (by kernel_rfl) (by kernel_rfl)) (by kernel_rfl) (by kernel_rfl) (by kernel_rfl) (door_met os _)) ?_
  intro W base args ds gs before hval0 hW _ _ hL _
  have hval : ∀ (j : Nat) t v, Tryd.f8.params[j]? = some t → args[j]? = some v → Value.okWide Tryd.prog W .any base t v := hval0
  have hW' := hW
  obtain ⟨p, q, hA0, hV0, rfl, hfz, hnd⟩ := hW
  have hA : DataW.TrodAll enc Tryd.prog W 0 (fun _ => true) true Tryd.f8.params.toList args.toList ds p := hA0
  have hV : DataW.TrodVars enc Tryd.prog W (fun _ => true) [quantName] gs q := hV0
  rw [Tryd.params8] at hA hval
  obtain ⟨v0, vs0, d0, ds0, p0, q0, hargs, rfl, rfl, h0, r0⟩ := trodAll_cons hA
  obtain ⟨rfl, rfl, rfl⟩ := trodAll_nil r0
  obtain rfl : args = #[v0] := by cases args; simp_all
  have hVB : ∀ W2, Below W.heap.size W W2 → DataW.TrodVars enc Tryd.prog W2 (fun b => decide (b < W.heap.size)) [quantName] gs q := fun W2 hb => Below.trodVars laid_out hb (by kernel_rfl) hV
  obtain ⟨gv, tv, csv, fuelv, dv, pv, rfl, _, _, _, _, _⟩ := trodVars_one hV
  have k0 := h0
  have lt0 : ∀ x ∈ p0, x.block < W.heap.size := by obtain ⟨m, hm⟩ := k0; exact DataW.trod_lt m _ _ _ hm
  obtain ⟨x0, o0⟩ := open_bytes (hval 0 32 v0 rfl rfl) h0
  clear hA0 hval0 hV0
  refine (walk_FnJoinLayers W (tb_of_laid hL) v0 x0 o0).mono fun e W' ⟨he, bel⟩ => ?_
  subst he
  exact ⟨_, rfl, _, _, _, [], _, _, hW', trodAll_mk1 (shut_bool Tryd.underlying4 _), (trodAll_cons_mk (Below.trod laid_out (by kernel_rfl) (of_decide_eq_true (by kernel_rfl)) k0 bel lt0) trodAll_mk0), hVB _ bel, bel.frame _, fun h => by cases h⟩

theorem FnJoinLayers_row : Rows.FnJoinLayersSaid :=
  OpenClaim.holds_of_wide 8 Tryd.f8 rfl rfl rfl rfl rfl rfl rfl ⟨rfl, rfl, rfl, rfl, rfl⟩ rfl rfl rfl rfl rfl (by kernel_rfl) Tryd.func8 (by kernel_rfl)
    (of_decide_eq_true (by kernel_rfl)) (by unfold Func.isWrapper; first | (rw [if_pos (by decide +kernel)]; kernel_rfl) | (rw [if_neg (by decide +kernel)]; exact ⟨rfl, rfl⟩))
    (fun os started H enc _ => lifted_FnJoinLayers os started H enc)

/-- The statement. -/
theorem FnJoinLayers_holds : Rows.FnJoinLayersCardSaid :=
  Claim7.holds_tied_plain_at .later [] [.data] true (true, "0fd288b46d60ce385de9de263cac55858d689a7fd72835178befc519f3b9e924") false FnJoinLayers_row (fun _ h => by cases h) (by kernel_rfl) (fun _ h => by cases h) fnJoinLayers_row_tie rfl ⟨rfl, rfl⟩ (by kernel_rfl) rfl
    (fun f fn hf hfn => by
      obtain rfl : f = 8 := Option.some.inj ((show Tryd.prog.funcNamed "loop.example/videocodec/laws.FnJoinLayers" = some 8 by kernel_rfl).symm.trans hf) |>.symm
      obtain rfl : fn = Tryd.f8 := (Option.some.inj (Tryd.func8.symm.trans hfn)).symm
      exact ⟨by kernel_rfl, fun j t ht => by
        rw [Tryd.params8] at ht
        have hm : t ∈ [32] := by simpa using Array.mem_of_getElem? ht
        have hall : ([32].all fun u => !Tryd.prog.wantsStandIn u) = true := by kernel_rfl
        exact (show Tryd.prog.wantsStandIn t = false by simpa using List.all_eq_true.1 hall t hm)⟩)
    (by kernel_rfl)
#print axioms FnJoinLayers_holds
end Go.Proofs.YtkdmhlbmhjolcaaDoor
