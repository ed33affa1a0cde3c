/-
  What the law of joined layers draws.
-/
import Derived.Test.YtkdmhlbmhjolcaaDoorDrawD
import Derived.Test.YtkdmhlbmhjolcaaDoorTakesM
namespace Go.Proofs.YtkdmhlbmhjolcaaDoor
open Go.RowKit

set_option maxRecDepth 100000 in
set_option maxHeartbeats 4000000 in
theorem DrawJoinLayers (v : Value) (x : Option Addr × Nat × List Int) (w : World) (h : ArgBytes w v x) :
    Calls Tryd.prog 26 #[v] w fun e w' => ∃ (lo hi : List Int) (q f : Int), e = .returned (.tuple #[.agg (arr lo), .agg (arr hi), .int .i64 q, .int .i64 f]) ∧ lo.length = 16 ∧ hi.length = 16 ∧ (-1 ≤ q ∧ q ≤ 16) ∧ (0 ≤ f ∧ f ≤ 20) ∧ Q w w' := by
  have q0 : Q w ((w.alloc (.cells (arr (List.replicate 16 0)) 22)).alloc (.cells (arr (List.replicate 16 0)) 22)) := (by repeat (first | exact Q.refl _ | assumption | refine Q.drewN ?_ _ | refine Q.drew ?_ | refine Q.alloc ?_ _ | refine Q.trans ?_ (by assumption) | refine Q.set ?_ (by first | exact Nat.le_refl _ | omega | (simp; done) | (simp; omega)) _))
  have h0 := h.q q0
  have b0 := (Bl.zero w).alloc (.cells (arr (List.replicate 16 0)) 22)
  have b1 := Bl.zero (w.alloc (.cells (arr (List.replicate 16 0)) 22))
  rw [World.size_alloc] at b1
  go_enter Tryd.func26, Tryd.ntmps26
  go_wp2_with fail
  refine (openCode _ _ _ h0).mono ?_; rintro e w1 ⟨g, rfl, hg, r1, q1⟩
  simp only [World.size_alloc] at hg
  have h1 := h0.q q1
  replace b0 := b0.q q1
  replace b1 := b1.q q1
  have QQ := q0.trans q1
  have hgl := r1.lt
  clear q0 q1 h0 h
  go_wp2_with fail
  refine (DrawTwoLayers _ _ _ h1).mono ?_; rintro e w2 ⟨xs, q, f, rfl, hxl, hxb, ⟨k1, k2⟩, ⟨k3, k4⟩, q2⟩
  have hs2 := q2.size
  replace b0 := b0.q q2; replace b1 := b1.q q2; (try replace bx := bx.q q2); (try replace bl := bl.q q2); (try replace bh := bh.q q2); (try replace r1 := r1.q q2); replace QQ := QQ.trans q2
  clear q2 h1 hxb
  have hg2 : g < w2.heap.size := by omega
  go_wp2_with (first | (first | refine wpList_load_arr rfl _ rfl _ rfl _ (by assumption) ?_ | refine wpList_load_arr_g (by rfl) _ rfl _ rfl _ (by assumption) ?_) | (refine wpList_new_arr rfl _ rfl rfl rfl _ _ rfl rfl _ rfl hxl ?_; intro w3 bx q3 s3))
  replace b0 := b0.q q3
  replace b1 := b1.q q3
  replace r1 := r1.q q3
  replace QQ := QQ.trans q3
  clear q3
  generalize w2.heap.size = gx at bx hg2 s3 hs2 ⊢
  refine (spec_TwoLayers xs q f _ hxl).mono ?_; rintro e w4 ⟨rfl, q4⟩
  replace b0 := b0.q q4; replace b1 := b1.q q4; (try replace bx := bx.q q4); (try replace bl := bl.q q4); (try replace bh := bh.q q4); (try replace r1 := r1.q q4); replace QQ := QQ.trans q4
  clear q4
  have hlo := lowL_len xs q f
  have hhl := highL_len xs q f
  generalize lowL xs q f = lo at hlo ⊢
  generalize highL xs q f = hi at hhl ⊢
  have hw4 : gx < w4.heap.size := bx.lt
  clear bx
  have qa : Q w4 ((w4.alloc (.cells (arr (List.replicate 16 0)) 22)).alloc (.cells (arr (List.replicate 16 0)) 22)) := (by repeat (first | exact Q.refl _ | assumption | refine Q.drewN ?_ _ | refine Q.drew ?_ | refine Q.alloc ?_ _ | refine Q.trans ?_ (by assumption) | refine Q.set ?_ (by first | exact Nat.le_refl _ | omega | (simp; done) | (simp; omega)) _))
  have c0 := (Bl.zero w4).alloc (.cells (arr (List.replicate 16 0)) 22)
  have c1 := Bl.zero (w4.alloc (.cells (arr (List.replicate 16 0)) 22))
  rw [World.size_alloc] at c1
  go_wp2_with (first | ((refine wpList_store_arr rfl _ _ rfl _ rfl _ _ rfl (by first | assumption | rfl) (by assumption) ?_; intro w5 b5 g5 s5); replace c1 := c1.grown g5 (fun e => by have := Option.some.inj e; omega)) | ((refine wpList_store_arr rfl _ _ rfl _ rfl _ _ rfl (by first | assumption | rfl) (by assumption) ?_; intro w6 b6 g6 s6); replace b5 := b5.grown g6 (fun e => by have := Option.some.inj e; omega)))
  have qz := (qa.grown g5 (fun k e => by have := Option.some.inj e; omega)).grown g6 (fun k e => by have := Option.some.inj e; omega)
  replace b0 := b0.q qz; replace b1 := b1.q qz; (try replace bx := bx.q qz); (try replace bl := bl.q qz); (try replace bh := bh.q qz); (try replace r1 := r1.q qz); replace QQ := QQ.trans qz
  have bl := b5
  have bh := b6
  clear qz qa g5 g6 s5 s6 c0 c1 b5 b6 s3
  generalize hgl4 : w4.heap.size = gl at bl bh hw4 ⊢
  obtain ⟨gh, hgh⟩ : ∃ gh, gl + 1 = gh := ⟨_, rfl⟩
  rw [hgh] at bh ⊢
  replace hgh : gl < gh := by omega
  clear hgl4
  refine (pick _ _ _ _ r1 (by omega) (by omega) (by omega)).mono ?_; rintro e w7 ⟨a, rfl, a1, a2, r7, g7⟩
  replace b0 := b0.grown g7 (fun e => by have := Option.some.inj e; omega); replace b1 := b1.grown g7 (fun e => by have := Option.some.inj e; omega); (try replace bx := bx.grown g7 (fun e => by have := Option.some.inj e; omega)); (try replace bl := bl.grown g7 (fun e => by have := Option.some.inj e; omega)); (try replace bh := bh.grown g7 (fun e => by have := Option.some.inj e; omega)); replace QQ := Dr.toQ g7 QQ (by omega)
  clear g7 r1
  by_cases ha : a = 0
  · subst ha
    go_wp2_with fail
    refine (l20Block_4080_12 _ _ _ r7 (by omega)).mono ?_; rintro e w8 ⟨ls, rfl, hll, hlb, r8, g8⟩
    replace b0 := b0.grown g8 (fun e => by have := Option.some.inj e; omega); replace b1 := b1.grown g8 (fun e => by have := Option.some.inj e; omega); (try replace bx := bx.grown g8 (fun e => by have := Option.some.inj e; omega)); (try replace bl := bl.grown g8 (fun e => by have := Option.some.inj e; omega)); (try replace bh := bh.grown g8 (fun e => by have := Option.some.inj e; omega)); replace QQ := Dr.toQ g8 QQ (by omega)
    clear g8 r7 r8 hlb
    go_wp2_with ((refine wpList_store_arr rfl _ _ rfl _ rfl _ _ rfl (by first | assumption | rfl) (by assumption) ?_; intro w9 b9 g9 s9))
    replace b0 := b0.grown g9 (fun e => by have := Option.some.inj e; omega)
    replace b1 := b1.grown g9 (fun e => by have := Option.some.inj e; omega)
    replace bh := bh.grown g9 (fun e => by have := Option.some.inj e; omega)
    replace QQ := QQ.grown g9 (fun k e => by have := Option.some.inj e; omega)
    replace bl := b9
    clear b9 g9 s9
    refine wp_region_x (fun ww => Bl ww gl ls ∧ Bl ww gh hi) (fun _ => false) (by kernel_rfl) ⟨bl.drew, bh.drew⟩ (fun hS => ?_)
    refine wpAnyX_take (i := 0) (v := .agg (arr ?xv9)) rfl (by kernel_rfl) (by kernel_rfl) (by kernel_rfl) (by kernel_rfl) (fun _ _ _ h => h) (yieldsIf_load_arr (by rfl) _ rfl _ rfl _ (fun ww hSw => ?hz9)) hS ?rest9
    case hz9 => ((try dsimp only at hSw); go_split_ands; assumption)
    try simp only [Act.put, List.setIfInBounds_toArray, List.set_cons_zero, List.set_cons_succ]
    refine wpAnyX_take (i := 1) (v := .agg (arr ?xv10)) rfl (by kernel_rfl) (by kernel_rfl) (by kernel_rfl) (by kernel_rfl) (fun _ _ _ h => h) (yieldsIf_load_arr (by rfl) _ rfl _ rfl _ (fun ww hSw => ?hz10)) hS ?rest10
    case hz10 => ((try dsimp only at hSw); go_split_ands; assumption)
    try simp only [Act.put, List.setIfInBounds_toArray, List.set_cons_zero, List.set_cons_succ]
    refine wpAnyX_take (i := 2) (v := ?vv1) rfl (by kernel_rfl) (by kernel_rfl) (by kernel_rfl) (by kernel_rfl) (fun _ _ _ h => h) (Or.inl ⟨by rfl, ?hy1⟩) hS ?rest1
    case hy1 => (intro ww hSw; (try dsimp only at hSw); go_split_ands; go_simp; try with_reducible rfl)
    try simp only [Act.put, List.setIfInBounds_toArray, List.set_cons_zero, List.set_cons_succ]
    refine wpAnyX_take (i := 3) (v := ?vv2) rfl (by kernel_rfl) (by kernel_rfl) (by kernel_rfl) (by kernel_rfl) (fun _ _ _ h => h) (Or.inl ⟨by rfl, ?hy2⟩) hS ?rest2
    case hy2 => (intro ww hSw; (try dsimp only at hSw); go_split_ands; go_simp; try with_reducible rfl)
    try simp only [Act.put, List.setIfInBounds_toArray, List.set_cons_zero, List.set_cons_succ]
    replace b0 := b0.drew
    replace b1 := b1.drew
    replace bl := bl.drew
    replace bh := bh.drew
    replace QQ := QQ.drew
    refine wpAnyX_step (k := 4) (by kernel_rfl) rfl rfl (fun K2 hK2 => ?_); refine step_store_arr rfl _ _ rfl _ rfl _ _ rfl hll b0 ?_; intro w9 b9 g9 s9; replace b1 := b1.grown g9 (fun e => by have := Option.some.inj e; omega); replace bl := bl.grown g9 (fun e => by have := Option.some.inj e; omega); replace bh := bh.grown g9 (fun e => by have := Option.some.inj e; omega); refine hK2.out _ _ ⟨bl, bh⟩ (fun hS => ?_); clear hK2 K2; (try simp only [Act.put, List.setIfInBounds_toArray, List.set_cons_zero, List.set_cons_succ]); refine wpAnyX_step (k := 5) (by kernel_rfl) rfl rfl (fun K2 hK2 => ?_); refine step_store_arr rfl _ _ rfl _ rfl _ _ rfl hhl b1 ?_; intro w8 b8 g8 s8; replace b9 := b9.grown g8 (fun e => by have := Option.some.inj e; omega); replace bl := bl.grown g8 (fun e => by have := Option.some.inj e; omega); replace bh := bh.grown g8 (fun e => by have := Option.some.inj e; omega); refine hK2.out _ _ ⟨bl, bh⟩ (fun hS => ?_); clear hK2 K2; (try simp only [Act.put, List.setIfInBounds_toArray, List.set_cons_zero, List.set_cons_succ])
    refine wpAnyX_take (i := 6) (v := ?vv3) rfl (by kernel_rfl) (by kernel_rfl) (by kernel_rfl) (by kernel_rfl) (fun _ _ _ h => h) (Or.inl ⟨by rfl, ?hy3⟩) hS ?rest3
    case hy3 => (intro ww hSw; (try dsimp only at hSw); go_split_ands; go_simp; try with_reducible rfl)
    try simp only [Act.put, List.setIfInBounds_toArray, List.set_cons_zero, List.set_cons_succ]
    refine wpAnyX_take (i := 7) (v := ?vv4) rfl (by kernel_rfl) (by kernel_rfl) (by kernel_rfl) (by kernel_rfl) (fun _ _ _ h => h) (Or.inl ⟨by rfl, ?hy4⟩) hS ?rest4
    case hy4 => (intro ww hSw; (try dsimp only at hSw); go_split_ands; go_simp; try with_reducible rfl)
    try simp only [Act.put, List.setIfInBounds_toArray, List.set_cons_zero, List.set_cons_succ]
    refine wpAnyX_done (by kernel_rfl) ?_ _
    clear hS
    go_wp2_with fail
    refine bodyPost_ret (v := .tuple #[.agg (arr _), .agg (arr _), _, _]) (results_rows_2 (by rfl) _ _ _ _ _ _ _ _ _ _ _ (by rfl) (Bl.blk b9) (by rfl) (Bl.blk b8) Tryd.underlying22 rfl (by rw [arr_size, hll]; exact info_arr) (by rw [arr_size, hhl]; exact info_arr)) rfl ⟨ls, hi, q, f, rfl, hll, hhl, ⟨k1, k2⟩, ⟨k3, k4⟩, (QQ.grown g9 (fun k e => by have := Option.some.inj e; omega)).grown g8 (fun k e => by have := Option.some.inj e; omega)⟩
  · have hab : (a == 0) = false := by rw [beq_eq_false_iff_ne]; exact ha
    clear ha r7
    go_wp2_with fail
    refine wp_region_x (fun ww => Bl ww gl lo ∧ Bl ww gh hi) (fun _ => false) (by kernel_rfl) ⟨bl.drew, bh.drew⟩ (fun hS => ?_)
    refine wpAnyX_take (i := 0) (v := .agg (arr ?xv11)) rfl (by kernel_rfl) (by kernel_rfl) (by kernel_rfl) (by kernel_rfl) (fun _ _ _ h => h) (yieldsIf_load_arr (by rfl) _ rfl _ rfl _ (fun ww hSw => ?hz11)) hS ?rest11
    case hz11 => ((try dsimp only at hSw); go_split_ands; assumption)
    try simp only [Act.put, List.setIfInBounds_toArray, List.set_cons_zero, List.set_cons_succ]
    refine wpAnyX_take (i := 1) (v := .agg (arr ?xv12)) rfl (by kernel_rfl) (by kernel_rfl) (by kernel_rfl) (by kernel_rfl) (fun _ _ _ h => h) (yieldsIf_load_arr (by rfl) _ rfl _ rfl _ (fun ww hSw => ?hz12)) hS ?rest12
    case hz12 => ((try dsimp only at hSw); go_split_ands; assumption)
    try simp only [Act.put, List.setIfInBounds_toArray, List.set_cons_zero, List.set_cons_succ]
    refine wpAnyX_take (i := 2) (v := ?vv5) rfl (by kernel_rfl) (by kernel_rfl) (by kernel_rfl) (by kernel_rfl) (fun _ _ _ h => h) (Or.inl ⟨by rfl, ?hy5⟩) hS ?rest5
    case hy5 => (intro ww hSw; (try dsimp only at hSw); go_split_ands; go_simp; try with_reducible rfl)
    try simp only [Act.put, List.setIfInBounds_toArray, List.set_cons_zero, List.set_cons_succ]
    refine wpAnyX_take (i := 3) (v := ?vv6) rfl (by kernel_rfl) (by kernel_rfl) (by kernel_rfl) (by kernel_rfl) (fun _ _ _ h => h) (Or.inl ⟨by rfl, ?hy6⟩) hS ?rest6
    case hy6 => (intro ww hSw; (try dsimp only at hSw); go_split_ands; go_simp; try with_reducible rfl)
    try simp only [Act.put, List.setIfInBounds_toArray, List.set_cons_zero, List.set_cons_succ]
    replace b0 := b0.drew
    replace b1 := b1.drew
    replace bl := bl.drew
    replace bh := bh.drew
    replace QQ := QQ.drew
    refine wpAnyX_step (k := 4) (by kernel_rfl) rfl rfl (fun K2 hK2 => ?_); refine step_store_arr rfl _ _ rfl _ rfl _ _ rfl hlo b0 ?_; intro w9 b9 g9 s9; replace b1 := b1.grown g9 (fun e => by have := Option.some.inj e; omega); replace bl := bl.grown g9 (fun e => by have := Option.some.inj e; omega); replace bh := bh.grown g9 (fun e => by have := Option.some.inj e; omega); refine hK2.out _ _ ⟨bl, bh⟩ (fun hS => ?_); clear hK2 K2; (try simp only [Act.put, List.setIfInBounds_toArray, List.set_cons_zero, List.set_cons_succ]); refine wpAnyX_step (k := 5) (by kernel_rfl) rfl rfl (fun K2 hK2 => ?_); refine step_store_arr rfl _ _ rfl _ rfl _ _ rfl hhl b1 ?_; intro w8 b8 g8 s8; replace b9 := b9.grown g8 (fun e => by have := Option.some.inj e; omega); replace bl := bl.grown g8 (fun e => by have := Option.some.inj e; omega); replace bh := bh.grown g8 (fun e => by have := Option.some.inj e; omega); refine hK2.out _ _ ⟨bl, bh⟩ (fun hS => ?_); clear hK2 K2; (try simp only [Act.put, List.setIfInBounds_toArray, List.set_cons_zero, List.set_cons_succ])
    refine wpAnyX_take (i := 6) (v := ?vv7) rfl (by kernel_rfl) (by kernel_rfl) (by kernel_rfl) (by kernel_rfl) (fun _ _ _ h => h) (Or.inl ⟨by rfl, ?hy7⟩) hS ?rest7
    case hy7 => (intro ww hSw; (try dsimp only at hSw); go_split_ands; go_simp; try with_reducible rfl)
    try simp only [Act.put, List.setIfInBounds_toArray, List.set_cons_zero, List.set_cons_succ]
    refine wpAnyX_take (i := 7) (v := ?vv8) rfl (by kernel_rfl) (by kernel_rfl) (by kernel_rfl) (by kernel_rfl) (fun _ _ _ h => h) (Or.inl ⟨by rfl, ?hy8⟩) hS ?rest8
    case hy8 => (intro ww hSw; (try dsimp only at hSw); go_split_ands; go_simp; try with_reducible rfl)
    try simp only [Act.put, List.setIfInBounds_toArray, List.set_cons_zero, List.set_cons_succ]
    refine wpAnyX_done (by kernel_rfl) ?_ _
    clear hS
    go_wp2_with fail
    refine bodyPost_ret (v := .tuple #[.agg (arr _), .agg (arr _), _, _]) (results_rows_2 (by rfl) _ _ _ _ _ _ _ _ _ _ _ (by rfl) (Bl.blk b9) (by rfl) (Bl.blk b8) Tryd.underlying22 rfl (by rw [arr_size, hlo]; exact info_arr) (by rw [arr_size, hhl]; exact info_arr)) rfl ⟨lo, hi, q, f, rfl, hlo, hhl, ⟨k1, k2⟩, ⟨k3, k4⟩, (QQ.grown g9 (fun k e => by have := Option.some.inj e; omega)).grown g8 (fun k e => by have := Option.some.inj e; omega)⟩
end Go.Proofs.YtkdmhlbmhjolcaaDoor
