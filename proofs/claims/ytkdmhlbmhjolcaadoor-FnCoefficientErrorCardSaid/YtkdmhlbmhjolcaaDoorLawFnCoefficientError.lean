/-
  FnCoefficientError: for every code of at most 1048576 bytes the law returns true: the coder's levels have the least error; for longer codes the law asks nothing. Condition: the table of quantization steps reads as the program's text lays it (the card ties that).
-/
import Derived.Test.YtkdmhlbmhjolcaaDoorFrameD
import Derived.Test.YtkdmhlbmhjolcaaDoorDrawE
import Derived.Test.YtkdmhlbmhjolcaaDoorQStep
import Derived.Test.YtkdmhlbmhjolcaaDoorAbs
import Derived.Test.YtkdmhlbmhjolcaaDoorPict
import Derived.Test.YtkdmhlbmhjolcaaDoorTie
import Derived.Test.YtkdmhlbmhjolcaaDoorCards
namespace Go.Proofs.YtkdmhlbmhjolcaaDoor
open Go.ChangeShapes Go.WideShapes Go.ChangeAt Go.RowKit

/-- whether a level among the first k is moved into the range -/
def mvd (ls : List Int) (s : Int) : Nat → Bool
  | 0 => false
  | k + 1 => mvd ls s k || decide (4080 < absV (ls[k]?.getD 0) * s)
theorem mvd_no {ls : List Int} {s : Int} (hs : 1 ≤ s) : ∀ k : Nat, mvd ls s k = false → ∀ j, j < k → -4080 ≤ ls[j]?.getD 0 * s ∧ ls[j]?.getD 0 * s ≤ 4080
  | 0, _, j, hj => by omega
  | k + 1, h, j, hj => by
    simp only [mvd, Bool.or_eq_false_iff] at h
    by_cases e : j = k
    · subst e
      have := of_decide_eq_false h.2
      unfold absV at this
      split at this
      · rename_i hn
        rw [Int.neg_mul] at this
        have : ls[j]?.getD 0 * s ≤ 0 := Int.mul_nonpos_of_nonpos_of_nonneg (by omega) (by omega)
        omega
      · have : 0 ≤ ls[j]?.getD 0 * s := Int.mul_nonneg (by omega) (by omega)
        omega
    · exact mvd_no hs k h.1 j (by omega)
theorem absV_in {y : Int} (h1 : -4080 ≤ y) (h2 : y ≤ 4080) : 0 ≤ absV y ∧ absV y ≤ 4080 := by
  unfold absV
  split <;> omega
set_option maxRecDepth 100000 in
set_option maxHeartbeats 8000000 in
theorem walk_FnCoefficientError (w : World) (hT : Tb w) (v0 : Value) (x0 : Option Addr × Nat × List Int) (h0 : ArgBytes w v0 x0) :
    Calls Tryd.prog 7 #[v0] w fun e w' => e = .returned (.bool true) ∧ Q w w' := by
  have hv := h0.1; have hm := h0.2.2.1; unfold maxLen at hm; generalize hn : x0.2.2.length = nn at hv hm; have HN := Lib.hid hn; clear hn; by_cases hbig : 1048576 < nn; (subst hv; go_enter Tryd.func7, Tryd.ntmps7; go_wp2_with fail; go_ret; exact ⟨rfl, Q.refl _⟩); have H0 : ArgBytes w (.slice x0.1 nn x0.2.1) x0 := (by rw [hv] at h0; exact h0); subst hv; clear h0; go_enter Tryd.func7, Tryd.ntmps7; go_wp2_with fail
  refine (DrawCoefficientError _ _ _ H0).mono ?_; rintro e wv ⟨xs, ls, q, rfl, hxl, hll, hxb, hlb, ⟨k1, k2⟩, QQ⟩
  have HT := Lib.hid (hT.q QQ)
  clear H0 hT
  have qa : Q wv ((wv.alloc (.cells (arr (List.replicate 16 0)) 22)).alloc (.cells (arr (List.replicate 16 0)) 22)) := (by repeat (first | exact Q.refl _ | assumption | refine Q.drewN ?_ _ | refine Q.drew ?_ | refine Q.alloc ?_ _ | refine Q.trans ?_ (by assumption) | refine Q.set ?_ (by first | exact Nat.le_refl _ | omega | (simp; done) | (simp; omega)) _))
  have c0 := (Bl.zero wv).alloc (.cells (arr (List.replicate 16 0)) 22)
  have c1 := Bl.zero (wv.alloc (.cells (arr (List.replicate 16 0)) 22))
  rw [World.size_alloc] at c1
  obtain ⟨wp, rfl⟩ : ∃ wp, wp = wv := ⟨_, rfl⟩
  go_wp2_with (first | (first | refine wpList_load_arr rfl _ rfl _ rfl _ (by assumption) ?_ | refine wpList_load_arr_g (by rfl) _ rfl _ rfl _ (by assumption) ?_) | ((refine wpList_store_arr rfl _ _ rfl _ rfl _ _ rfl (by first | assumption | rfl) (by assumption) ?_; intro w5 bx g5 s5); replace c1 := c1.grown g5 (fun e => by have := Option.some.inj e; omega)) | ((refine wpList_store_arr rfl _ _ rfl _ rfl _ _ rfl (by first | assumption | rfl) (by assumption) ?_; intro w6 bl g6 s6); replace bx := bx.grown g6 (fun e => by have := Option.some.inj e; omega)))
  have qz := (qa.grown g5 (fun k e => by have := Option.some.inj e; omega)).grown g6 (fun k e => by have := Option.some.inj e; omega)
  replace QQ := QQ.trans qz
  replace HT := Lib.hid (HT.out.q qz)
  clear qz qa g5 g6 s5 s6 c0 c1
  refine (impl_CoefficientError xs ls q _ HT.out hxl hll).mono ?_; rintro e wv ⟨rfl, q1⟩
  replace bx := bx.q q1
  replace bl := bl.q q1
  replace QQ := QQ.trans q1
  replace HT := Lib.hid (HT.out.q q1)
  clear q1
  obtain ⟨ne, hne⟩ : ∃ ne, coefE xs ls q = ne := ⟨_, rfl⟩
  have HNE := Lib.hid hne
  rw [hne]
  clear hne
  go_wp2_with (first | refine wpList_load_arr rfl _ rfl _ rfl _ (by assumption) ?_ | refine wpList_load_arr_g (by rfl) _ rfl _ rfl _ (by assumption) ?_)
  refine (spec_CoefficientError xs ls q _ hxl hll).mono ?_; rw [HNE.out]; rintro e wz ⟨rfl, q1⟩
  replace bx := bx.q q1
  replace bl := bl.q q1
  replace QQ := QQ.trans q1
  replace HT := Lib.hid (HT.out.q q1)
  clear q1
  cases hin : (inB xs 255 && inB ls 4080 && qB q)
  · have hn1 : ne = -1 := by rw [← HNE.out]; exact coef_neg hin
    subst hn1
    clear hin HNE
    go_wp2_with fail
    refine (alive _).mono ?_; rintro e wy ⟨rfl, q5⟩
    have QZ := QQ.trans q5
    go_wp2_with fail
    go_ret
    exact ⟨rfl, QZ⟩
  · simp only [Bool.and_eq_true] at hin
    obtain ⟨⟨hb, hl⟩, hq⟩ := hin
    have hqq : 0 ≤ q ∧ q ≤ 15 := of_decide_eq_true hq
    obtain ⟨n, rfl⟩ : ∃ n : Nat, q = (n : Int) := ⟨q.toNat, by omega⟩
    have n16 : n < 16 := by omega
    have HBE := Lib.hid (fun hm => best_le hb hl n16 hm)
    have HBS := Lib.hid (best_small hb n16)
    have HBZ := Lib.hid (best_zero hb)
    have hp := coef_pos hb hl n16
    have hpb := coef_pos hb (inB_codeL hb n16) n16
    rw [HNE.out] at hp HBE
    have hneg : decide (ne < 0) = false := decide_eq_false (by omega)
    have hcl := codeL_len xs (n : Int)
    have hcz := codeL_len xs 0
    have HL := Lib.hid (fun k hk => inB_get hl k hk)
    have hss := step_in n n16
    obtain ⟨cs, hcs⟩ : ∃ cs, codeL xs (n : Int) = cs := ⟨_, rfl⟩
    rw [hcs] at HBE HBS hcl hpb
    obtain ⟨be, hbe⟩ : ∃ be, coefE xs cs (n : Int) = be := ⟨_, rfl⟩
    rw [hbe] at HBE HBS hpb
    have HCS := Lib.hid hcs
    have HBEQ := Lib.hid hbe
    have HP := Lib.hid hp
    clear hcs hbe hb hl hq hqq k1 k2 HNE
    go_wp2_with fail
    refine wp_region_x (fun ww => Q wz ww ∧ Bl ww wp.heap.size xs) (fun _ => false) (by kernel_rfl) ⟨(Q.refl _).drew, bx.drew⟩ (fun hS => ?_)
    refine wpAnyX_take (i := 0) (v := .agg (arr ?xv37)) rfl (by kernel_rfl) (by kernel_rfl) (by kernel_rfl) (by kernel_rfl) (fun _ _ _ h => h) (yieldsIf_load_arr (by rfl) _ rfl _ rfl _ (fun ww hSw => ?hz37)) hS ?rest37
    case hz37 => ((try dsimp only at hSw); go_split_ands; assumption)
    try simp only [Act.put, List.setIfInBounds_toArray, List.set_cons_zero, List.set_cons_succ]
    refine wpAnyX_take (i := 1) (v := .agg (arr ?xv38)) rfl (by kernel_rfl) (by kernel_rfl) (by kernel_rfl) (by kernel_rfl) (fun _ _ _ h => h) (yieldsIf_load_arr (by rfl) _ rfl _ rfl _ (fun ww hSw => ?hz38)) hS ?rest38
    case hz38 => ((try dsimp only at hSw); go_split_ands; assumption)
    try simp only [Act.put, List.setIfInBounds_toArray, List.set_cons_zero, List.set_cons_succ]
    refine wpAnyX_take (i := 2) (v := ?vv1) rfl (by kernel_rfl) (by kernel_rfl) (by kernel_rfl) (by kernel_rfl) (fun _ _ _ h => h) (Or.inl ⟨by rfl, ?hy1⟩) hS ?rest1
    case hy1 => (intro ww hSw; (try dsimp only at hSw); go_split_ands; go_simp; try with_reducible rfl)
    try simp only [Act.put, List.setIfInBounds_toArray, List.set_cons_zero, List.set_cons_succ]
    refine wpAnyX_take (i := 4) (v := ?vv2) rfl (by kernel_rfl) (by kernel_rfl) (by kernel_rfl) (by kernel_rfl) (fun _ _ _ h => h) (Or.inl ⟨by rfl, ?hy2⟩) hS ?rest2
    case hy2 => (intro ww hSw; (try dsimp only at hSw); go_split_ands; go_simp; try with_reducible rfl)
    try simp only [Act.put, List.setIfInBounds_toArray, List.set_cons_zero, List.set_cons_succ]
    refine wpAnyX_step (k := 3) (by kernel_rfl) rfl rfl (fun K2 hK2 => ?_); go_simp
    refine (impl_CodeBlock xs (n : Int) _ (HT.out.q hS.1) hxl).mono ?_; rw [HCS.out]; rintro e wy ⟨rfl, q3⟩
    have q4 := hS.1.trans q3
    refine hK2.out _ _ ⟨q4, bx.q q4⟩ (fun hS => ?_)
    clear hK2 K2; (try simp only [Act.put, List.setIfInBounds_toArray, List.set_cons_zero, List.set_cons_succ])
    refine wpAnyX_step (k := 5) (by kernel_rfl) rfl rfl (fun K2 hK2 => ?_); go_simp
    refine (impl_CoefficientError xs cs (n : Int) _ (HT.out.q q4) hxl hcl).mono ?_; rw [HBEQ.out]; rintro e wx ⟨rfl, q5⟩
    have q6 := q4.trans q5
    refine hK2.out _ _ ⟨q6, bx.q q6⟩ (fun hS => ?_)
    clear hK2 K2; (try simp only [Act.put, List.setIfInBounds_toArray, List.set_cons_zero, List.set_cons_succ])
    refine wpAnyX_take (i := 6) (v := ?vv3) rfl (by kernel_rfl) (by kernel_rfl) (by kernel_rfl) (by kernel_rfl) (fun _ _ _ h => h) (Or.inl ⟨by rfl, ?hy3⟩) hS ?rest3
    case hy3 => (intro ww hSw; (try dsimp only at hSw); go_split_ands; go_simp; try with_reducible rfl)
    try simp only [Act.put, List.setIfInBounds_toArray, List.set_cons_zero, List.set_cons_succ]
    refine wpAnyX_done (by kernel_rfl) ?_ _
    clear hS q3 q4 q5
    replace bx := bx.q q6
    replace bl := bl.q q6
    replace QQ := QQ.trans q6
    replace HT := Lib.hid (HT.out.q q6)
    clear q6
    go_wp2_with fail
    refine (impl_QuantStep _ n _ HT.out rfl n16).mono ?_; rintro e wv ⟨rfl, q1⟩
    replace bx := bx.q q1
    replace bl := bl.q q1
    replace QQ := QQ.trans q1
    replace HT := Lib.hid (HT.out.q q1)
    clear q1
    have HBEST := Lib.hid (fun h => HBE.out (mvd_no hss.1 16 h))
    obtain ⟨s, hs⟩ : ∃ s, step n = s := ⟨_, rfl⟩
    rw [hs] at hss HBS HBEST ⊢
    have HSS := Lib.hid hss
    clear hs hss HBE
    have HB := Lib.hid bx
    have HLB := Lib.hid bl
    have HQ := Lib.hid QQ
    clear bx bl QQ
    go_wp2_with fail
    go_loopw [9, 10] (fun m i wr => ∃ k : Nat, k ≤ 16 ∧ i = .int .i64 k ∧ m = .bool (mvd ls s k) ∧ Hid (Q wv wr)) (fun _ i _ => 16 - (intOf i).toNat)
    case atStart => exact ⟨0, by omega, rfl, rfl, Q.refl _⟩
    case round =>
      obtain ⟨k, hk, rfl, rfl, hq⟩ := hrel
      by_cases hlt : k < 16
      · have hk16 : (k : Int) < 16 := by omega
        have c1 := (HLB.out.q hq.out).at k hlt
        obtain ⟨l1, l2⟩ := HL.out k (by omega)
        have hst : mvd ls s (k + 1) = (mvd ls s k || decide (4080 < absV (ls[k]?.getD 0) * s)) := rfl
        generalize ls[k]?.getD 0 = y at c1 l1 l2 hst
        obtain ⟨a1, a2⟩ := absV_in l1 l2
        have hss := HSS.out
        obtain ⟨p1, p2⟩ := mul_in (l := absV y) (by omega) a2 hss.1 hss.2
        have T := Lib.hid (fun w => abs_val y w (by omega) (by omega))
        generalize absV y = ay at hst a1 a2 p1 p2 T
        obtain ⟨p, hp⟩ : ∃ p, ay * s = p := ⟨_, rfl⟩
        rw [hp] at hst p1 p2
        have w1 : IntKind.i64.wrap (ay * s) = p := by rw [hp]; exact IntWalk.i64_in _ ⟨by omega, by omega⟩
        have w2 : wrap64 (ay * s) = p := by rw [← IntWalk.i64_left, w1]
        have HQZ := Lib.hid hq.out
        clear hp hq
        cases hm : mvd ls s k
        · rw [hm, Bool.false_or] at hst
          have HST := Lib.hid hst
          clear hst hm
          go_wp2_with fail
          refine (T.out _).mono ?_; rintro e w' ⟨rfl, rfl⟩
          go_wp2_with fail
          go_roundw
          case rel => exact ⟨k + 1, by omega, by go_num, by rw [HST.out], HQZ.out⟩
          case measure => simp [intOf]; omega
        · rw [hm, Bool.true_or] at hst
          have HST := Lib.hid hst
          clear hst hm
          go_wp2_with fail
          go_roundw
          case rel => exact ⟨k + 1, by omega, by go_num, by rw [HST.out], HQZ.out⟩
          case measure => simp [intOf]; omega
      · have hk16 : k = 16 := by omega
        subst hk16
        have bx := HB.out.q hq.out
        have HZ := Lib.hid (HQ.out.trans hq.out)
        have HT2 := Lib.hid (HT.out.q hq.out)
        have hss := HSS.out
        have hp := HP.out
        have hbs := HBS.out
        obtain ⟨p, hp4⟩ : ∃ p, 4 * s = p := ⟨_, rfl⟩
        rw [hp4] at hbs
        obtain ⟨r, hr⟩ : ∃ r, p * s = r := ⟨_, rfl⟩
        rw [hr] at hbs
        have hsq := sq_le (d := s) (M := 512) (by omega) hss.2
        have hrr : r = 4 * (s * s) := by rw [← hr, ← hp4, Int.mul_assoc]
        have w1 : IntKind.i64.wrap (4 * s) = p := by rw [hp4]; exact IntWalk.i64_in _ ⟨by omega, by omega⟩
        have w2 : wrap64 (4 * s) = p := by rw [← IntWalk.i64_left, w1]
        have w3 : IntKind.i64.wrap (p * s) = r := by rw [hr]; exact IntWalk.i64_in _ ⟨by omega, by omega⟩
        have w4 : wrap64 (p * s) = r := by rw [← IntWalk.i64_left, w3]
        have hle : decide (be ≤ r) = true := decide_eq_true hbs
        clear hq hrr hsq hbs hss hp hr hp4
        cases hm : mvd ls s 16
        · have hle2 : decide (be ≤ ne) = true := decide_eq_true (HBEST.out hm)
          clear hm
          go_wp2_with fail
          refine wp_region_x (fun ww => Q wr ww ∧ Bl ww wp.heap.size xs) (fun _ => false) (by kernel_rfl) ⟨(Q.refl _).drew, bx.drew⟩ (fun hS => ?_)
          refine wpAnyX_take (i := 0) (v := ?vv4) rfl (by kernel_rfl) (by kernel_rfl) (by kernel_rfl) (by kernel_rfl) (fun _ _ _ h => h) (Or.inl ⟨by rfl, ?hy4⟩) hS ?rest4
          case hy4 => (intro ww hSw; (try dsimp only at hSw); go_split_ands; go_simp; try with_reducible rfl)
          try simp only [Act.put, List.setIfInBounds_toArray, List.set_cons_zero, List.set_cons_succ]
          refine wpAnyX_take (i := 1) (v := ?vv5) rfl (by kernel_rfl) (by kernel_rfl) (by kernel_rfl) (by kernel_rfl) (fun _ _ _ h => h) (Or.inl ⟨by rfl, ?hy5⟩) hS ?rest5
          case hy5 => (intro ww hSw; (try dsimp only at hSw); go_split_ands; go_simp; try with_reducible rfl)
          try simp only [Act.put, List.setIfInBounds_toArray, List.set_cons_zero, List.set_cons_succ]
          refine wpAnyX_take (i := 2) (v := ?vv6) rfl (by kernel_rfl) (by kernel_rfl) (by kernel_rfl) (by kernel_rfl) (fun _ _ _ h => h) (Or.inl ⟨by rfl, ?hy6⟩) hS ?rest6
          case hy6 => (intro ww hSw; (try dsimp only at hSw); go_split_ands; go_simp; try with_reducible rfl)
          try simp only [Act.put, List.setIfInBounds_toArray, List.set_cons_zero, List.set_cons_succ]
          refine wpAnyX_take (i := 3) (v := ?vv7) rfl (by kernel_rfl) (by kernel_rfl) (by kernel_rfl) (by kernel_rfl) (fun _ _ _ h => h) (Or.inl ⟨by rfl, ?hy7⟩) hS ?rest7
          case hy7 => (intro ww hSw; (try dsimp only at hSw); go_split_ands; go_simp; try with_reducible rfl)
          try simp only [Act.put, List.setIfInBounds_toArray, List.set_cons_zero, List.set_cons_succ]
          refine wpAnyX_take (i := 4) (v := ?vv8) rfl (by kernel_rfl) (by kernel_rfl) (by kernel_rfl) (by kernel_rfl) (fun _ _ _ h => h) (Or.inl ⟨by rfl, ?hy8⟩) hS ?rest8
          case hy8 => (intro ww hSw; (try dsimp only at hSw); go_split_ands; go_simp; try with_reducible rfl)
          try simp only [Act.put, List.setIfInBounds_toArray, List.set_cons_zero, List.set_cons_succ]
          refine wpAnyX_take (i := 5) (v := ?vv9) rfl (by kernel_rfl) (by kernel_rfl) (by kernel_rfl) (by kernel_rfl) (fun _ _ _ h => h) (Or.inl ⟨by rfl, ?hy9⟩) hS ?rest9
          case hy9 => (intro ww hSw; (try dsimp only at hSw); go_split_ands; go_simp; try with_reducible rfl)
          try simp only [Act.put, List.setIfInBounds_toArray, List.set_cons_zero, List.set_cons_succ]
          refine wpAnyX_take (i := 6) (v := ?vv10) rfl (by kernel_rfl) (by kernel_rfl) (by kernel_rfl) (by kernel_rfl) (fun _ _ _ h => h) (Or.inl ⟨by rfl, ?hy10⟩) hS ?rest10
          case hy10 => (intro ww hSw; (try dsimp only at hSw); go_split_ands; go_simp; try with_reducible rfl)
          try simp only [Act.put, List.setIfInBounds_toArray, List.set_cons_zero, List.set_cons_succ]
          refine wpAnyX_take (i := 7) (v := ?vv11) rfl (by kernel_rfl) (by kernel_rfl) (by kernel_rfl) (by kernel_rfl) (fun _ _ _ h => h) (Or.inl ⟨by rfl, ?hy11⟩) hS ?rest11
          case hy11 => (intro ww hSw; (try dsimp only at hSw); go_split_ands; go_simp; try with_reducible rfl)
          try simp only [Act.put, List.setIfInBounds_toArray, List.set_cons_zero, List.set_cons_succ]
          refine wpAnyX_take (i := 8) (v := ?vv12) rfl (by kernel_rfl) (by kernel_rfl) (by kernel_rfl) (by kernel_rfl) (fun _ _ _ h => h) (Or.inl ⟨by rfl, ?hy12⟩) hS ?rest12
          case hy12 => (intro ww hSw; (try dsimp only at hSw); go_split_ands; go_simp; try with_reducible rfl)
          try simp only [Act.put, List.setIfInBounds_toArray, List.set_cons_zero, List.set_cons_succ]
          refine wpAnyX_take (i := 9) (v := ?vv13) rfl (by kernel_rfl) (by kernel_rfl) (by kernel_rfl) (by kernel_rfl) (fun _ _ _ h => h) (Or.inl ⟨by rfl, ?hy13⟩) hS ?rest13
          case hy13 => (intro ww hSw; (try dsimp only at hSw); go_split_ands; go_simp; try with_reducible rfl)
          try simp only [Act.put, List.setIfInBounds_toArray, List.set_cons_zero, List.set_cons_succ]
          refine wpAnyX_take (i := 10) (v := ?vv14) rfl (by kernel_rfl) (by kernel_rfl) (by kernel_rfl) (by kernel_rfl) (fun _ _ _ h => h) (Or.inl ⟨by rfl, ?hy14⟩) hS ?rest14
          case hy14 => (intro ww hSw; (try dsimp only at hSw); go_split_ands; go_simp; try with_reducible rfl)
          try simp only [Act.put, List.setIfInBounds_toArray, List.set_cons_zero, List.set_cons_succ]
          refine wpAnyX_take (i := 11) (v := ?vv15) rfl (by kernel_rfl) (by kernel_rfl) (by kernel_rfl) (by kernel_rfl) (fun _ _ _ h => h) (Or.inl ⟨by rfl, ?hy15⟩) hS ?rest15
          case hy15 => (intro ww hSw; (try dsimp only at hSw); go_split_ands; go_simp; try with_reducible rfl)
          try simp only [Act.put, List.setIfInBounds_toArray, List.set_cons_zero, List.set_cons_succ]
          refine wpAnyX_take (i := 12) (v := ?vv16) rfl (by kernel_rfl) (by kernel_rfl) (by kernel_rfl) (by kernel_rfl) (fun _ _ _ h => h) (Or.inl ⟨by rfl, ?hy16⟩) hS ?rest16
          case hy16 => (intro ww hSw; (try dsimp only at hSw); go_split_ands; go_simp; try with_reducible rfl)
          try simp only [Act.put, List.setIfInBounds_toArray, List.set_cons_zero, List.set_cons_succ]
          refine wpAnyX_take (i := 13) (v := ?vv17) rfl (by kernel_rfl) (by kernel_rfl) (by kernel_rfl) (by kernel_rfl) (fun _ _ _ h => h) (Or.inl ⟨by rfl, ?hy17⟩) hS ?rest17
          case hy17 => (intro ww hSw; (try dsimp only at hSw); go_split_ands; go_simp; try with_reducible rfl)
          try simp only [Act.put, List.setIfInBounds_toArray, List.set_cons_zero, List.set_cons_succ]
          refine wpAnyX_take (i := 14) (v := ?vv18) rfl (by kernel_rfl) (by kernel_rfl) (by kernel_rfl) (by kernel_rfl) (fun _ _ _ h => h) (Or.inl ⟨by rfl, ?hy18⟩) hS ?rest18
          case hy18 => (intro ww hSw; (try dsimp only at hSw); go_split_ands; go_simp; try with_reducible rfl)
          try simp only [Act.put, List.setIfInBounds_toArray, List.set_cons_zero, List.set_cons_succ]
          refine wpAnyX_take (i := 15) (v := .agg (arr ?xv39)) rfl (by kernel_rfl) (by kernel_rfl) (by kernel_rfl) (by kernel_rfl) (fun _ _ _ h => h) (yieldsIf_load_arr (by rfl) _ rfl _ rfl _ (fun ww hSw => ?hz39)) hS ?rest39
          case hz39 => ((try dsimp only at hSw); go_split_ands; assumption)
          try simp only [Act.put, List.setIfInBounds_toArray, List.set_cons_zero, List.set_cons_succ]
          refine wpAnyX_take (i := 16) (v := .agg (arr ?xv40)) rfl (by kernel_rfl) (by kernel_rfl) (by kernel_rfl) (by kernel_rfl) (fun _ _ _ h => h) (yieldsIf_load_arr (by rfl) _ rfl _ rfl _ (fun ww hSw => ?hz40)) hS ?rest40
          case hz40 => ((try dsimp only at hSw); go_split_ands; assumption)
          try simp only [Act.put, List.setIfInBounds_toArray, List.set_cons_zero, List.set_cons_succ]
          refine wpAnyX_step (k := 17) (by kernel_rfl) rfl rfl (fun K2 hK2 => ?_); go_simp
          refine (impl_CodeBlock xs 0 _ (HT2.out.q hS.1) hxl).mono ?_; rintro e wy ⟨rfl, q3⟩
          have q4 := hS.1.trans q3
          refine hK2.out _ _ ⟨q4, bx.q q4⟩ (fun hS => ?_)
          clear hK2 K2; (try simp only [Act.put, List.setIfInBounds_toArray, List.set_cons_zero, List.set_cons_succ])
          refine wpAnyX_step (k := 18) (by kernel_rfl) rfl rfl (fun K2 hK2 => ?_); go_simp
          refine (impl_CoefficientError xs (codeL xs 0) 0 _ (HT2.out.q q4) hxl hcz).mono ?_; rw [HBZ.out]; rintro e wx ⟨rfl, q5⟩
          have q6 := q4.trans q5
          refine hK2.out _ _ ⟨q6, bx.q q6⟩ (fun hS => ?_)
          clear hK2 K2; (try simp only [Act.put, List.setIfInBounds_toArray, List.set_cons_zero, List.set_cons_succ])
          refine wpAnyX_take (i := 19) (v := ?vv19) rfl (by kernel_rfl) (by kernel_rfl) (by kernel_rfl) (by kernel_rfl) (fun _ _ _ h => h) (Or.inl ⟨by rfl, ?hy19⟩) hS ?rest19
          case hy19 => (intro ww hSw; (try dsimp only at hSw); go_split_ands; go_simp; try with_reducible rfl)
          try simp only [Act.put, List.setIfInBounds_toArray, List.set_cons_zero, List.set_cons_succ]
          refine wpAnyX_take (i := 20) (v := ?vv20) rfl (by kernel_rfl) (by kernel_rfl) (by kernel_rfl) (by kernel_rfl) (fun _ _ _ h => h) (Or.inl ⟨by rfl, ?hy20⟩) hS ?rest20
          case hy20 => (intro ww hSw; (try dsimp only at hSw); go_split_ands; go_simp; try with_reducible rfl)
          try simp only [Act.put, List.setIfInBounds_toArray, List.set_cons_zero, List.set_cons_succ]
          refine wpAnyX_take (i := 21) (v := ?vv21) rfl (by kernel_rfl) (by kernel_rfl) (by kernel_rfl) (by kernel_rfl) (fun _ _ _ h => h) (Or.inl ⟨by rfl, ?hy21⟩) hS ?rest21
          case hy21 => (intro ww hSw; (try dsimp only at hSw); go_split_ands; go_simp; try with_reducible rfl)
          try simp only [Act.put, List.setIfInBounds_toArray, List.set_cons_zero, List.set_cons_succ]
          refine wpAnyX_done (by kernel_rfl) ?_ _
          have QZ := HZ.out.trans q6
          clear hS
          go_wp2_with fail
          go_ret
          exact ⟨rfl, QZ⟩
        · clear hm
          go_wp2_with fail
          refine wp_region_x (fun ww => Q wr ww ∧ Bl ww wp.heap.size xs) (fun _ => false) (by kernel_rfl) ⟨(Q.refl _).drew, bx.drew⟩ (fun hS => ?_)
          refine wpAnyX_take (i := 0) (v := ?vv22) rfl (by kernel_rfl) (by kernel_rfl) (by kernel_rfl) (by kernel_rfl) (fun _ _ _ h => h) (Or.inl ⟨by rfl, ?hy22⟩) hS ?rest22
          case hy22 => (intro ww hSw; (try dsimp only at hSw); go_split_ands; go_simp; try with_reducible rfl)
          try simp only [Act.put, List.setIfInBounds_toArray, List.set_cons_zero, List.set_cons_succ]
          refine wpAnyX_take (i := 1) (v := ?vv23) rfl (by kernel_rfl) (by kernel_rfl) (by kernel_rfl) (by kernel_rfl) (fun _ _ _ h => h) (Or.inl ⟨by rfl, ?hy23⟩) hS ?rest23
          case hy23 => (intro ww hSw; (try dsimp only at hSw); go_split_ands; go_simp; try with_reducible rfl)
          try simp only [Act.put, List.setIfInBounds_toArray, List.set_cons_zero, List.set_cons_succ]
          refine wpAnyX_take (i := 2) (v := undef) rfl (by kernel_rfl) (by kernel_rfl) (by kernel_rfl) (by kernel_rfl) (fun _ _ _ h => h) (Or.inr ⟨by rfl, rfl⟩) hS ?_; (try simp only [Act.put, List.setIfInBounds_toArray, List.set_cons_zero, List.set_cons_succ])
          refine wpAnyX_take (i := 3) (v := undef) rfl (by kernel_rfl) (by kernel_rfl) (by kernel_rfl) (by kernel_rfl) (fun _ _ _ h => h) (Or.inr ⟨by rfl, rfl⟩) hS ?_; (try simp only [Act.put, List.setIfInBounds_toArray, List.set_cons_zero, List.set_cons_succ])
          refine wpAnyX_take (i := 4) (v := undef) rfl (by kernel_rfl) (by kernel_rfl) (by kernel_rfl) (by kernel_rfl) (fun _ _ _ h => h) (Or.inr ⟨by rfl, rfl⟩) hS ?_; (try simp only [Act.put, List.setIfInBounds_toArray, List.set_cons_zero, List.set_cons_succ])
          refine wpAnyX_take (i := 5) (v := ?vv24) rfl (by kernel_rfl) (by kernel_rfl) (by kernel_rfl) (by kernel_rfl) (fun _ _ _ h => h) (Or.inl ⟨by rfl, ?hy24⟩) hS ?rest24
          case hy24 => (intro ww hSw; (try dsimp only at hSw); go_split_ands; go_simp; try with_reducible rfl)
          try simp only [Act.put, List.setIfInBounds_toArray, List.set_cons_zero, List.set_cons_succ]
          refine wpAnyX_take (i := 6) (v := ?vv25) rfl (by kernel_rfl) (by kernel_rfl) (by kernel_rfl) (by kernel_rfl) (fun _ _ _ h => h) (Or.inl ⟨by rfl, ?hy25⟩) hS ?rest25
          case hy25 => (intro ww hSw; (try dsimp only at hSw); go_split_ands; go_simp; try with_reducible rfl)
          try simp only [Act.put, List.setIfInBounds_toArray, List.set_cons_zero, List.set_cons_succ]
          refine wpAnyX_take (i := 7) (v := ?vv26) rfl (by kernel_rfl) (by kernel_rfl) (by kernel_rfl) (by kernel_rfl) (fun _ _ _ h => h) (Or.inl ⟨by rfl, ?hy26⟩) hS ?rest26
          case hy26 => (intro ww hSw; (try dsimp only at hSw); go_split_ands; go_simp; try with_reducible rfl)
          try simp only [Act.put, List.setIfInBounds_toArray, List.set_cons_zero, List.set_cons_succ]
          refine wpAnyX_take (i := 8) (v := ?vv27) rfl (by kernel_rfl) (by kernel_rfl) (by kernel_rfl) (by kernel_rfl) (fun _ _ _ h => h) (Or.inl ⟨by rfl, ?hy27⟩) hS ?rest27
          case hy27 => (intro ww hSw; (try dsimp only at hSw); go_split_ands; go_simp; try with_reducible rfl)
          try simp only [Act.put, List.setIfInBounds_toArray, List.set_cons_zero, List.set_cons_succ]
          refine wpAnyX_take (i := 9) (v := ?vv28) rfl (by kernel_rfl) (by kernel_rfl) (by kernel_rfl) (by kernel_rfl) (fun _ _ _ h => h) (Or.inl ⟨by rfl, ?hy28⟩) hS ?rest28
          case hy28 => (intro ww hSw; (try dsimp only at hSw); go_split_ands; go_simp; try with_reducible rfl)
          try simp only [Act.put, List.setIfInBounds_toArray, List.set_cons_zero, List.set_cons_succ]
          refine wpAnyX_take (i := 10) (v := ?vv29) rfl (by kernel_rfl) (by kernel_rfl) (by kernel_rfl) (by kernel_rfl) (fun _ _ _ h => h) (Or.inl ⟨by rfl, ?hy29⟩) hS ?rest29
          case hy29 => (intro ww hSw; (try dsimp only at hSw); go_split_ands; go_simp; try with_reducible rfl)
          try simp only [Act.put, List.setIfInBounds_toArray, List.set_cons_zero, List.set_cons_succ]
          refine wpAnyX_take (i := 11) (v := ?vv30) rfl (by kernel_rfl) (by kernel_rfl) (by kernel_rfl) (by kernel_rfl) (fun _ _ _ h => h) (Or.inl ⟨by rfl, ?hy30⟩) hS ?rest30
          case hy30 => (intro ww hSw; (try dsimp only at hSw); go_split_ands; go_simp; try with_reducible rfl)
          try simp only [Act.put, List.setIfInBounds_toArray, List.set_cons_zero, List.set_cons_succ]
          refine wpAnyX_take (i := 12) (v := ?vv31) rfl (by kernel_rfl) (by kernel_rfl) (by kernel_rfl) (by kernel_rfl) (fun _ _ _ h => h) (Or.inl ⟨by rfl, ?hy31⟩) hS ?rest31
          case hy31 => (intro ww hSw; (try dsimp only at hSw); go_split_ands; go_simp; try with_reducible rfl)
          try simp only [Act.put, List.setIfInBounds_toArray, List.set_cons_zero, List.set_cons_succ]
          refine wpAnyX_take (i := 13) (v := ?vv32) rfl (by kernel_rfl) (by kernel_rfl) (by kernel_rfl) (by kernel_rfl) (fun _ _ _ h => h) (Or.inl ⟨by rfl, ?hy32⟩) hS ?rest32
          case hy32 => (intro ww hSw; (try dsimp only at hSw); go_split_ands; go_simp; try with_reducible rfl)
          try simp only [Act.put, List.setIfInBounds_toArray, List.set_cons_zero, List.set_cons_succ]
          refine wpAnyX_take (i := 14) (v := ?vv33) rfl (by kernel_rfl) (by kernel_rfl) (by kernel_rfl) (by kernel_rfl) (fun _ _ _ h => h) (Or.inl ⟨by rfl, ?hy33⟩) hS ?rest33
          case hy33 => (intro ww hSw; (try dsimp only at hSw); go_split_ands; go_simp; try with_reducible rfl)
          try simp only [Act.put, List.setIfInBounds_toArray, List.set_cons_zero, List.set_cons_succ]
          refine wpAnyX_take (i := 15) (v := .agg (arr ?xv41)) rfl (by kernel_rfl) (by kernel_rfl) (by kernel_rfl) (by kernel_rfl) (fun _ _ _ h => h) (yieldsIf_load_arr (by rfl) _ rfl _ rfl _ (fun ww hSw => ?hz41)) hS ?rest41
          case hz41 => ((try dsimp only at hSw); go_split_ands; assumption)
          try simp only [Act.put, List.setIfInBounds_toArray, List.set_cons_zero, List.set_cons_succ]
          refine wpAnyX_take (i := 16) (v := .agg (arr ?xv42)) rfl (by kernel_rfl) (by kernel_rfl) (by kernel_rfl) (by kernel_rfl) (fun _ _ _ h => h) (yieldsIf_load_arr (by rfl) _ rfl _ rfl _ (fun ww hSw => ?hz42)) hS ?rest42
          case hz42 => ((try dsimp only at hSw); go_split_ands; assumption)
          try simp only [Act.put, List.setIfInBounds_toArray, List.set_cons_zero, List.set_cons_succ]
          refine wpAnyX_step (k := 17) (by kernel_rfl) rfl rfl (fun K2 hK2 => ?_); go_simp
          refine (impl_CodeBlock xs 0 _ (HT2.out.q hS.1) hxl).mono ?_; rintro e wy ⟨rfl, q3⟩
          have q4 := hS.1.trans q3
          refine hK2.out _ _ ⟨q4, bx.q q4⟩ (fun hS => ?_)
          clear hK2 K2; (try simp only [Act.put, List.setIfInBounds_toArray, List.set_cons_zero, List.set_cons_succ])
          refine wpAnyX_step (k := 18) (by kernel_rfl) rfl rfl (fun K2 hK2 => ?_); go_simp
          refine (impl_CoefficientError xs (codeL xs 0) 0 _ (HT2.out.q q4) hxl hcz).mono ?_; rw [HBZ.out]; rintro e wx ⟨rfl, q5⟩
          have q6 := q4.trans q5
          refine hK2.out _ _ ⟨q6, bx.q q6⟩ (fun hS => ?_)
          clear hK2 K2; (try simp only [Act.put, List.setIfInBounds_toArray, List.set_cons_zero, List.set_cons_succ])
          refine wpAnyX_take (i := 19) (v := ?vv34) rfl (by kernel_rfl) (by kernel_rfl) (by kernel_rfl) (by kernel_rfl) (fun _ _ _ h => h) (Or.inl ⟨by rfl, ?hy34⟩) hS ?rest34
          case hy34 => (intro ww hSw; (try dsimp only at hSw); go_split_ands; go_simp; try with_reducible rfl)
          try simp only [Act.put, List.setIfInBounds_toArray, List.set_cons_zero, List.set_cons_succ]
          refine wpAnyX_take (i := 20) (v := ?vv35) rfl (by kernel_rfl) (by kernel_rfl) (by kernel_rfl) (by kernel_rfl) (fun _ _ _ h => h) (Or.inl ⟨by rfl, ?hy35⟩) hS ?rest35
          case hy35 => (intro ww hSw; (try dsimp only at hSw); go_split_ands; go_simp; try with_reducible rfl)
          try simp only [Act.put, List.setIfInBounds_toArray, List.set_cons_zero, List.set_cons_succ]
          refine wpAnyX_take (i := 21) (v := ?vv36) rfl (by kernel_rfl) (by kernel_rfl) (by kernel_rfl) (by kernel_rfl) (fun _ _ _ h => h) (Or.inl ⟨by rfl, ?hy36⟩) hS ?rest36
          case hy36 => (intro ww hSw; (try dsimp only at hSw); go_split_ands; go_simp; try with_reducible rfl)
          try simp only [Act.put, List.setIfInBounds_toArray, List.set_cons_zero, List.set_cons_succ]
          refine wpAnyX_done (by kernel_rfl) ?_ _
          have QZ := HZ.out.trans q6
          clear hS
          go_wp2_with fail
          go_ret
          exact ⟨rfl, QZ⟩
set_option maxRecDepth 100000 in
theorem lifted_FnCoefficientError (os : Os) (started : os.Started) (H : Type) (enc : TypeId × Value → H) :
    ReturnsInHanded {} Tryd.checked os 7 .any (fun w args => (Rows.fnCoefficientErrorSpec.pre enc Tryd.prog Tryd.f7 [] false w args ∧ laidMetH Tryd.prog laidQ w) ∧ sizedMet enc Tryd.prog Tryd.f7 (OpenSpec.ofChange Rows.fnCoefficientErrorSpec) false w args) (Rows.fnCoefficientErrorSpec.post enc Tryd.prog Tryd.f7 false true false false) := by
  refine returnsInHanded_of_change_and (C := Tryd.checked) (X := fun w _ => laidMetH Tryd.prog laidQ w) (fun _ _ _ hh h => h.of_heap hh) own_knob started (by kernel_rfl) Tryd.func7
    (ChangeSpec.witness_shaped (enc := enc) (C := Tryd.checked) (os := os) (X := fun w _ => laidMetH Tryd.prog laidQ w) false (World.doorLaid Tryd.prog 400 os) #[.slice none 0 0] 8 rfl (World.shaped_of_RefB (by kernel_rfl) (by kernel_rfl)) (by kernel_rfl) (by kernel_rfl) (by kernel_rfl) (door_met os _)) ?_
  intro W base args ds gs before hval0 hW _ _ hL _
  have hval : ∀ (j : Nat) t v, Tryd.f7.params[j]? = some t → args[j]? = some v → Value.okWide Tryd.prog W .any base t v := hval0
  have hW' := hW
  obtain ⟨p, q, hA0, hV0, rfl, hfz, hnd⟩ := hW
  have hA : DataW.TrodAll enc Tryd.prog W 0 (fun _ => true) true Tryd.f7.params.toList args.toList ds p := hA0
  have hV : DataW.TrodVars enc Tryd.prog W (fun _ => true) [quantName] gs q := hV0
  rw [Tryd.params7] at hA hval
  obtain ⟨v0, vs0, d0, ds0, p0, q0, hargs, rfl, rfl, h0, r0⟩ := trodAll_cons hA
  obtain ⟨rfl, rfl, rfl⟩ := trodAll_nil r0
  obtain rfl : args = #[v0] := by cases args; simp_all
  have hVB : ∀ W2, Below W.heap.size W W2 → DataW.TrodVars enc Tryd.prog W2 (fun b => decide (b < W.heap.size)) [quantName] gs q := fun W2 hb => Below.trodVars laid_out hb (by kernel_rfl) hV
  obtain ⟨gv, tv, csv, fuelv, dv, pv, rfl, _, _, _, _, _⟩ := trodVars_one hV
  have k0 := h0
  have lt0 : ∀ x ∈ p0, x.block < W.heap.size := by obtain ⟨m, hm⟩ := k0; exact DataW.trod_lt m _ _ _ hm
  obtain ⟨x0, o0⟩ := open_bytes (hval 0 32 v0 rfl rfl) h0
  clear hA0 hval0 hV0
  refine (walk_FnCoefficientError W (tb_of_laid hL) v0 x0 o0).mono fun e W' ⟨he, bel⟩ => ?_
  subst he
  exact ⟨_, rfl, _, _, _, [], _, _, hW', trodAll_mk1 (shut_bool Tryd.underlying4 _), (trodAll_cons_mk (Below.trod laid_out (by kernel_rfl) (of_decide_eq_true (by kernel_rfl)) k0 bel lt0) trodAll_mk0), hVB _ bel, bel.frame _, fun h => by cases h⟩

theorem FnCoefficientError_row : Rows.FnCoefficientErrorSaid :=
  OpenClaim.holds_of_wide 7 Tryd.f7 rfl rfl rfl rfl rfl rfl rfl ⟨rfl, rfl, rfl, rfl, rfl⟩ rfl rfl rfl rfl rfl (by kernel_rfl) Tryd.func7 (by kernel_rfl)
    (of_decide_eq_true (by kernel_rfl)) (by unfold Func.isWrapper; first | (rw [if_pos (by decide +kernel)]; kernel_rfl) | (rw [if_neg (by decide +kernel)]; exact ⟨rfl, rfl⟩))
    (fun os started H enc _ => lifted_FnCoefficientError os started H enc)

/-- The statement. -/
theorem FnCoefficientError_holds : Rows.FnCoefficientErrorCardSaid :=
  Claim7.holds_tied_plain_at .later [] [.data] true (true, "0fd288b46d60ce385de9de263cac55858d689a7fd72835178befc519f3b9e924") false FnCoefficientError_row (fun _ h => by cases h) (by kernel_rfl) (fun _ h => by cases h) fnCoefficientError_row_tie rfl ⟨rfl, rfl⟩ (by kernel_rfl) rfl
    (fun f fn hf hfn => by
      obtain rfl : f = 7 := Option.some.inj ((show Tryd.prog.funcNamed "loop.example/videocodec/laws.FnCoefficientError" = some 7 by kernel_rfl).symm.trans hf) |>.symm
      obtain rfl : fn = Tryd.f7 := (Option.some.inj (Tryd.func7.symm.trans hfn)).symm
      exact ⟨by kernel_rfl, fun j t ht => by
        rw [Tryd.params7] at ht
        have hm : t ∈ [32] := by simpa using Array.mem_of_getElem? ht
        have hall : ([32].all fun u => !Tryd.prog.wantsStandIn u) = true := by kernel_rfl
        exact (show Tryd.prog.wantsStandIn t = false by simpa using List.all_eq_true.1 hall t hm)⟩)
    (by kernel_rfl)
#print axioms FnCoefficientError_holds
end Go.Proofs.YtkdmhlbmhjolcaaDoor
