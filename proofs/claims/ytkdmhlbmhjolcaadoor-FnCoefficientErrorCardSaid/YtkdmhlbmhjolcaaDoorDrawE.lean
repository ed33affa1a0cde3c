/-
  What the law of coefficients' errors draws.
-/
import Derived.Test.YtkdmhlbmhjolcaaDoorDrawD
import Derived.Test.YtkdmhlbmhjolcaaDoorTakesM
namespace Go.Proofs.YtkdmhlbmhjolcaaDoor
open Go.RowKit

theorem codeL_bnd (xs : List Int) (q : Int) : bnd (codeL xs q) 5000 := fun i => by
  unfold codeL
  split
  · rename_i h
    rw [Bool.and_eq_true] at h
    obtain ⟨h1, h2⟩ := h
    have hq : 0 ≤ q ∧ q ≤ 15 := of_decide_eq_true h2
    rcases Nat.lt_or_ge i 16 with hi | hi
    · rw [tab_get _ _ _ hi]
      have := codeC_in h1 q.toNat i (by omega) hi
      omega
    · rw [List.getElem?_eq_none (by rw [length_tab]; exact hi)]; simp
  · unfold zeros
    rcases Nat.lt_or_ge i 16 with hi | hi
    · rw [List.getElem?_replicate_of_lt hi]; simp
    · rw [List.getElem?_eq_none (by simp; omega)]; simp
set_option maxRecDepth 100000 in
set_option maxHeartbeats 4000000 in
theorem DrawCoefficientError (v : Value) (x : Option Addr × Nat × List Int) (w : World) (h : ArgBytes w v x) :
    Calls Tryd.prog 23 #[v] w fun e w' => ∃ (xs ls : List Int) (q : Int), e = .returned (.tuple #[.agg (arr xs), .agg (arr ls), .int .i64 q]) ∧ xs.length = 16 ∧ ls.length = 16 ∧ bnd xs 5000 ∧ bnd ls 5000 ∧ (-1 ≤ q ∧ q ≤ 16) ∧ Q w w' := by
  have q0 : Q w ((w.alloc (.cells (arr (List.replicate 16 0)) 22)).alloc (.cells (arr (List.replicate 16 0)) 22)) := (by repeat (first | exact Q.refl _ | assumption | refine Q.drewN ?_ _ | refine Q.drew ?_ | refine Q.alloc ?_ _ | refine Q.trans ?_ (by assumption) | refine Q.set ?_ (by first | exact Nat.le_refl _ | omega | (simp; done) | (simp; omega)) _))
  have h0 := h.q q0
  have b0 := (Bl.zero w).alloc (.cells (arr (List.replicate 16 0)) 22)
  have b1 := Bl.zero (w.alloc (.cells (arr (List.replicate 16 0)) 22))
  rw [World.size_alloc] at b1
  go_enter Tryd.func23, Tryd.ntmps23
  go_wp2_with fail
  refine (openCode _ _ _ h0).mono ?_; rintro e w1 ⟨g, rfl, hg, r1, q1⟩
  simp only [World.size_alloc] at hg
  replace b0 := b0.q q1
  replace b1 := b1.q q1
  have QQ := q0.trans q1
  clear q0 q1 h0 h
  go_wp2_with fail
  refine (l20Block_255_12 _ _ _ r1 (by omega)).mono ?_; rintro e w2 ⟨xs, rfl, hxl, hxb, r2, g2⟩
  replace b0 := b0.grown g2 (fun e => by have := Option.some.inj e; omega)
  replace b1 := b1.grown g2 (fun e => by have := Option.some.inj e; omega)
  replace QQ := Dr.toQ g2 QQ (by omega)
  have hgl := r2.lt
  clear g2 r1
  go_wp2_with (refine wpList_new_arr rfl _ rfl rfl rfl _ _ rfl rfl _ rfl hxl ?_; intro w3 bx q3 s3)
  replace b0 := b0.q q3
  replace b1 := b1.q q3
  replace QQ := QQ.trans q3
  replace r2 := r2.q q3
  have hb1 : w.heap.size + 1 < w2.heap.size := by omega
  clear q3
  generalize w2.heap.size = gx at bx hgl s3 hb1 ⊢
  refine (l20Q _ _ _ r2 (by omega)).mono ?_; rintro e w4 ⟨q, rfl, k1, k2, r4, g4⟩
  replace b0 := b0.grown g4 (fun e => by have := Option.some.inj e; omega)
  replace b1 := b1.grown g4 (fun e => by have := Option.some.inj e; omega)
  replace bx := bx.grown g4 (fun e => by have := Option.some.inj e; omega)
  replace QQ := Dr.toQ g4 QQ (by omega)
  clear g4 r2 s3
  go_wp2_with fail
  refine (pick _ _ _ _ r4 (by omega) (by omega) (by omega)).mono ?_; rintro e w5 ⟨a, rfl, a1, a2, r5, g5⟩
  replace b0 := b0.grown g5 (fun e => by have := Option.some.inj e; omega)
  replace b1 := b1.grown g5 (fun e => by have := Option.some.inj e; omega)
  replace bx := bx.grown g5 (fun e => by have := Option.some.inj e; omega)
  replace QQ := Dr.toQ g5 QQ (by omega)
  clear g5 r4
  have hcl := codeL_len xs q
  by_cases ha : a = 0
  · subst ha
    clear r5
    go_wp2_with fail
    refine wp_region_x (fun ww => Bl ww gx xs) (fun _ => false) (by kernel_rfl) bx.drew (fun hS => ?_)
    refine wpAnyX_take (i := 0) (v := .agg (arr ?xv7)) rfl (by kernel_rfl) (by kernel_rfl) (by kernel_rfl) (by kernel_rfl) (fun _ _ _ h => h) (yieldsIf_load_arr (by rfl) _ rfl _ rfl _ (fun ww hSw => ?hz7)) hS ?rest7
    case hz7 => ((try dsimp only at hSw); go_split_ands; assumption)
    try simp only [Act.put, List.setIfInBounds_toArray, List.set_cons_zero, List.set_cons_succ]
    refine wpAnyX_take (i := 1) (v := .agg (arr ?xv8)) rfl (by kernel_rfl) (by kernel_rfl) (by kernel_rfl) (by kernel_rfl) (fun _ _ _ h => h) (yieldsIf_load_arr (by rfl) _ rfl _ rfl _ (fun ww hSw => ?hz8)) hS ?rest8
    case hz8 => ((try dsimp only at hSw); go_split_ands; assumption)
    try simp only [Act.put, List.setIfInBounds_toArray, List.set_cons_zero, List.set_cons_succ]
    refine wpAnyX_take (i := 2) (v := ?vv1) rfl (by kernel_rfl) (by kernel_rfl) (by kernel_rfl) (by kernel_rfl) (fun _ _ _ h => h) (Or.inl ⟨by rfl, ?hy1⟩) hS ?rest1
    case hy1 => (intro ww hSw; (try dsimp only at hSw); go_split_ands; go_simp; try with_reducible rfl)
    try simp only [Act.put, List.setIfInBounds_toArray, List.set_cons_zero, List.set_cons_succ]
    refine wpAnyX_take (i := 4) (v := ?vv2) rfl (by kernel_rfl) (by kernel_rfl) (by kernel_rfl) (by kernel_rfl) (fun _ _ _ h => h) (Or.inl ⟨by rfl, ?hy2⟩) hS ?rest2
    case hy2 => (intro ww hSw; (try dsimp only at hSw); go_split_ands; go_simp; try with_reducible rfl)
    try simp only [Act.put, List.setIfInBounds_toArray, List.set_cons_zero, List.set_cons_succ]
    replace b0 := b0.drew
    replace b1 := b1.drew
    replace bx := bx.drew
    replace QQ := QQ.drew
    generalize w5.drew = wd at b0 b1 bx QQ hS ⊢
    refine wpAnyX_step (k := 3) (by kernel_rfl) rfl rfl (fun K2 hK2 => ?_); go_simp
    refine (spec_CodeBlock xs q _ hxl).mono ?_; rintro e wc ⟨rfl, q3⟩
    replace b0 := b0.q q3
    replace b1 := b1.q q3
    replace bx := bx.q q3
    replace QQ := QQ.trans q3
    clear q3
    refine hK2.out _ _ bx (fun hS => ?_)
    clear hK2 K2; (try simp only [Act.put, List.setIfInBounds_toArray, List.set_cons_zero, List.set_cons_succ])
    refine wpAnyX_step (k := 5) (by kernel_rfl) rfl rfl (fun K2 hK2 => ?_); refine step_store_arr rfl _ _ rfl _ rfl _ _ rfl hxl b0 ?_; intro w9 b9 g9 s9; replace b1 := b1.grown g9 (fun e => by have := Option.some.inj e; omega); replace bx := bx.grown g9 (fun e => by have := Option.some.inj e; omega); refine hK2.out _ _ bx (fun hS => ?_); clear hK2 K2; (try simp only [Act.put, List.setIfInBounds_toArray, List.set_cons_zero, List.set_cons_succ]); refine wpAnyX_step (k := 6) (by kernel_rfl) rfl rfl (fun K2 hK2 => ?_); refine step_store_arr rfl _ _ rfl _ rfl _ _ rfl hcl b1 ?_; intro w8 b8 g8 s8; replace b9 := b9.grown g8 (fun e => by have := Option.some.inj e; omega); replace bx := bx.grown g8 (fun e => by have := Option.some.inj e; omega); refine hK2.out _ _ bx (fun hS => ?_); clear hK2 K2; (try simp only [Act.put, List.setIfInBounds_toArray, List.set_cons_zero, List.set_cons_succ])
    refine wpAnyX_take (i := 7) (v := ?vv3) rfl (by kernel_rfl) (by kernel_rfl) (by kernel_rfl) (by kernel_rfl) (fun _ _ _ h => h) (Or.inl ⟨by rfl, ?hy3⟩) hS ?rest3
    case hy3 => (intro ww hSw; (try dsimp only at hSw); go_split_ands; go_simp; try with_reducible rfl)
    try simp only [Act.put, List.setIfInBounds_toArray, List.set_cons_zero, List.set_cons_succ]
    refine wpAnyX_done (by kernel_rfl) ?_ _
    clear hS
    go_wp2_with fail
    refine bodyPost_ret (v := .tuple #[.agg (arr _), .agg (arr _), _]) (results_rows_1 (by rfl) _ _ _ _ _ _ _ _ _ _ _ (by rfl) (Bl.blk b9) (by rfl) (Bl.blk b8) Tryd.underlying22 rfl (by rw [arr_size, hxl]; exact info_arr) (by rw [arr_size, hcl]; exact info_arr)) rfl ⟨xs, _, q, rfl, hxl, hcl, hxb, codeL_bnd xs q, ⟨k1, k2⟩, (QQ.grown g9 (fun k e => by have := Option.some.inj e; omega)).grown g8 (fun k e => by have := Option.some.inj e; omega)⟩
  · have hab : (a == 0) = false := by rw [beq_eq_false_iff_ne]; exact ha
    clear ha hcl
    go_wp2_with fail
    refine wp_region_x (fun ww => Bl ww gx xs) (fun _ => false) (by kernel_rfl) bx.drew (fun hS => ?_)
    refine wpAnyX_take (i := 0) (v := .agg (arr ?xv9)) rfl (by kernel_rfl) (by kernel_rfl) (by kernel_rfl) (by kernel_rfl) (fun _ _ _ h => h) (yieldsIf_load_arr (by rfl) _ rfl _ rfl _ (fun ww hSw => ?hz9)) hS ?rest9
    case hz9 => ((try dsimp only at hSw); go_split_ands; assumption)
    try simp only [Act.put, List.setIfInBounds_toArray, List.set_cons_zero, List.set_cons_succ]
    refine wpAnyX_take (i := 1) (v := ?vv4) rfl (by kernel_rfl) (by kernel_rfl) (by kernel_rfl) (by kernel_rfl) (fun _ _ _ h => h) (Or.inl ⟨by rfl, ?hy4⟩) hS ?rest4
    case hy4 => (intro ww hSw; (try dsimp only at hSw); go_split_ands; go_simp; try with_reducible rfl)
    try simp only [Act.put, List.setIfInBounds_toArray, List.set_cons_zero, List.set_cons_succ]
    refine wpAnyX_take (i := 3) (v := ?vv5) rfl (by kernel_rfl) (by kernel_rfl) (by kernel_rfl) (by kernel_rfl) (fun _ _ _ h => h) (Or.inl ⟨by rfl, ?hy5⟩) hS ?rest5
    case hy5 => (intro ww hSw; (try dsimp only at hSw); go_split_ands; go_simp; try with_reducible rfl)
    try simp only [Act.put, List.setIfInBounds_toArray, List.set_cons_zero, List.set_cons_succ]
    replace b0 := b0.drew
    replace b1 := b1.drew
    replace bx := bx.drew
    replace QQ := QQ.drew
    replace r5 := r5.drew
    generalize w5.drew = wd at b0 b1 bx QQ hS r5 ⊢
    refine wpAnyX_step (k := 2) (by kernel_rfl) rfl rfl (fun K2 hK2 => ?_); go_simp
    refine (l20Block_90_0 _ _ _ r5 (by omega)).mono ?_; rintro e wc ⟨ls, rfl, hcl, hlb, r6, g6⟩
    replace b0 := b0.grown g6 (fun e => by have := Option.some.inj e; omega)
    replace b1 := b1.grown g6 (fun e => by have := Option.some.inj e; omega)
    replace bx := bx.grown g6 (fun e => by have := Option.some.inj e; omega)
    replace QQ := Dr.toQ g6 QQ (by omega)
    clear g6 r5 r6
    refine hK2.out _ _ bx (fun hS => ?_)
    clear hK2 K2; (try simp only [Act.put, List.setIfInBounds_toArray, List.set_cons_zero, List.set_cons_succ])
    refine wpAnyX_step (k := 4) (by kernel_rfl) rfl rfl (fun K2 hK2 => ?_); refine step_store_arr rfl _ _ rfl _ rfl _ _ rfl hxl b0 ?_; intro w9 b9 g9 s9; replace b1 := b1.grown g9 (fun e => by have := Option.some.inj e; omega); replace bx := bx.grown g9 (fun e => by have := Option.some.inj e; omega); refine hK2.out _ _ bx (fun hS => ?_); clear hK2 K2; (try simp only [Act.put, List.setIfInBounds_toArray, List.set_cons_zero, List.set_cons_succ]); refine wpAnyX_step (k := 5) (by kernel_rfl) rfl rfl (fun K2 hK2 => ?_); refine step_store_arr rfl _ _ rfl _ rfl _ _ rfl hcl b1 ?_; intro w8 b8 g8 s8; replace b9 := b9.grown g8 (fun e => by have := Option.some.inj e; omega); replace bx := bx.grown g8 (fun e => by have := Option.some.inj e; omega); refine hK2.out _ _ bx (fun hS => ?_); clear hK2 K2; (try simp only [Act.put, List.setIfInBounds_toArray, List.set_cons_zero, List.set_cons_succ])
    refine wpAnyX_take (i := 6) (v := ?vv6) rfl (by kernel_rfl) (by kernel_rfl) (by kernel_rfl) (by kernel_rfl) (fun _ _ _ h => h) (Or.inl ⟨by rfl, ?hy6⟩) hS ?rest6
    case hy6 => (intro ww hSw; (try dsimp only at hSw); go_split_ands; go_simp; try with_reducible rfl)
    try simp only [Act.put, List.setIfInBounds_toArray, List.set_cons_zero, List.set_cons_succ]
    refine wpAnyX_done (by kernel_rfl) ?_ _
    clear hS
    go_wp2_with fail
    refine bodyPost_ret (v := .tuple #[.agg (arr _), .agg (arr _), _]) (results_rows_1 (by rfl) _ _ _ _ _ _ _ _ _ _ _ (by rfl) (Bl.blk b9) (by rfl) (Bl.blk b8) Tryd.underlying22 rfl (by rw [arr_size, hxl]; exact info_arr) (by rw [arr_size, hcl]; exact info_arr)) rfl ⟨xs, ls, q, rfl, hxl, hcl, hxb, hlb, ⟨k1, k2⟩, (QQ.grown g9 (fun k e => by have := Option.some.inj e; omega)).grown g8 (fun k e => by have := Option.some.inj e; omega)⟩
end Go.Proofs.YtkdmhlbmhjolcaaDoor
